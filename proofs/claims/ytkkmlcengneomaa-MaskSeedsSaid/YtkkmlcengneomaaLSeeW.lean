/- The walk of the law MaskSeeds: it returns true, and writes nothing that was there. No condition. -/
import Derived.Test.YtkkmlcengneomaaMSpec7
import Derived.Test.YtkkmlcengneomaaE5
import Derived.Test.YtkkmlcengneomaaE7
import Derived.Test.YtkkmlcengneomaaE8
import Derived.Test.YtkkmlcengneomaaC8
import Derived.Test.YtkkmlcengneomaaLReadsW
namespace Go.Proofs.Ytkkmlcengneomaa
open Go.RowKit Ls

theorem bne_of {a : Int} (h : a ≠ 0) : (a != 0) = true := by simp [h]
theorem eqz_of {a : Int} (h : a ≠ 0) : (a == 0) = false := by simp [h]

set_option maxRecDepth 100000 in
set_option maxHeartbeats 4000000 in
/-- What stands behind the rows' products. -/
theorem seeds_walk {X : Option Addr} {k d : Nat} {l : List Int} {p a b c : Int} (w : World) (_hn : (Lit.int .i64 p).wf = true) (hx : SI w X k d l) (_ha : (Lit.int .i64 a).wf = true ∧ (Lit.int .i64 b).wf = true ∧ (Lit.int .i64 c).wf = true) :
    Calls Try.prog 8 #[.int .i64 p, .slice X k d, .agg #[.int .i64 a, .int .i64 b, .int .i64 c]] w fun e w' => e = .returned (.bool true) ∧ Below w.heap.size w w' := by
  have hz1 := fun o o' => step_trans (below_alloc w o) (below_alloc (w.alloc o) o')
  have hl2 : ∀ o t, SM ((w.alloc o).alloc (.cells #[.slice X k d] t)) (some ⟨w.heap.size + 1, 0, none⟩) 1 1 [l] := fun o t => by
    have := SM.new1 t (hx.below (below_alloc w o))
    rwa [World.size_alloc] at this
  have hll := hidx hx.len
  go_enter Try.func8, Try.ntmps8
  go_wp2_with fail
  refine (long_any _ 1 1 [l] _ (hl2 _ _)).mono ?_
  rintro e w0 ⟨rfl, rfl⟩
  cases longB [l]
  · have hx0 := hx.below (hz1 (.cells #[.int .i64 a, .int .i64 b, .int .i64 c] 56) (.cells #[.slice X k d] 24))
    have hB0 := hz1 (.cells #[.int .i64 a, .int .i64 b, .int .i64 c] 56) (.cells #[.slice X k d] 24)
    have b00 : ((w.alloc (.cells #[.int .i64 a, .int .i64 b, .int .i64 c] 56)).alloc (.cells #[.slice X k d] 24)).cell? ⟨w.heap.size, 0, none⟩ = some (.int .i64 a) := by simp
    have b10 : ((w.alloc (.cells #[.int .i64 a, .int .i64 b, .int .i64 c] 56)).alloc (.cells #[.slice X k d] 24)).cell? ⟨w.heap.size, 1, none⟩ = some (.int .i64 b) := by simp
    have b20 : ((w.alloc (.cells #[.int .i64 a, .int .i64 b, .int .i64 c] 56)).alloc (.cells #[.slice X k d] 24)).cell? ⟨w.heap.size, 2, none⟩ = some (.int .i64 c) := by simp
    clear hx hz1 hl2
    go_wp2_with fail
    refine (walsh_any _ _ _ _ _ _ hx0).mono ?_
    rintro e w1 ⟨A1, c1, rfl, hp1, hb1⟩
    have hB1 := step_trans hB0 hb1
    have b01 := Below.cell_of hb1 b00
    have b11 := Below.cell_of hb1 b10
    have b21 := Below.cell_of hb1 b20
    clear hx0 hB0 b00 b10 b20 hb1
    by_cases hE : walshE p l = 0
    · have f1 : (walshE p l == 0) = true := by simp [hE]
      have hRR : walshR p l = walL l p.toNat := by unfold walshR; rw [if_pos hE]
      have hz := fun i j hi hj => walsh_zero hE i j hi hj
      have hlen := fun i hi => walR_rows (p := p) (l := l) i hi
      have hLL := walL_len l p.toNat
      rw [hll.out] at hLL hz hlen
      rw [← hRR] at hLL hz hlen
      have hzz := hidx hz
      have Hlen := hidx hlen
      have HLL := hidx hLL
      have hmx := hp1.nmax
      have hcap := hp1.cap
      have hcm := hp1.max
      clear hz hlen hRR hE hLL
      generalize walshR p l = M at *
      generalize hML : M.length = ml at *
      go_wp2
      go_loopw [9, 10, 29, 36] (fun _ _ i _ wr => ∃ q : Nat, q ≤ ml ∧ i = .int .i64 q ∧ Below w1.heap.size w1 wr) (fun _ _ i _ _ => ml - (intOf i).toNat)
      case atStart => exact ⟨0, Nat.zero_le _, rfl, Below.refl _ _⟩
      case round =>
        obtain ⟨q, hq, rfl, hbr⟩ := hrel
        by_cases hlt : q < ml
        · have i1 : (0:Int) ≤ q := by omega
          have i2 : (q:Int) ≤ c1 := by omega
          have i3 : (q:Int) < ml := by omega
          go_wp2
          go_loopw [10, 36] (fun _ j wx => ∃ t : Nat, t ≤ q ∧ j = .int .i64 t ∧ Below w1.heap.size w1 wx) (fun _ j _ => q - (intOf j).toNat)
          case atStart => exact ⟨0, Nat.zero_le _, rfl, hbr⟩
          case round =>
            obtain ⟨t, ht, rfl, hbx⟩ := hrel
            by_cases htq : t < q
            · obtain ⟨ad, rfl, hca⟩ := (hp1.below hbx).at_ (by omega)
              obtain ⟨D1, d1, g1, s1⟩ := hca q hlt
              obtain ⟨D2, d2, g2, s2⟩ := hca t (by omega)
              have l1 := Hlen.out q (by have := HLL.out; omega)
              have l2 := Hlen.out t (by have := HLL.out; omega)
              have z := hzz.out q t (by have := HLL.out; omega) htq
              rw [l1] at g1 s1
              rw [l2] at g2 s2
              have dd := dot_b _ _ _ _ _ _ _ _ _ (s1.below (Below.refl _ _).drew) (s2.below (Below.refl _ _).drew) (Nat.le_refl _)
              rw [z] at dd
              have Dd := hidx dd
              have t1 : (0:Int) ≤ t := by omega
              have t3 : (t:Int) < ml := by omega
              clear hca s1 s2 dd z l1 l2
              go_wp2
              go_region_held3 (fun w' => w'.cell? (ad.add q) = some (.slice D1 p.toNat d1) ∧ w'.cell? (ad.add t) = some (.slice D2 p.toNat d2)) (first | go_keep | exact ⟨g1, g2⟩ | exact ⟨Below.cell_of (undrew hb5) g1, Below.cell_of (undrew hb5) g2⟩)
                (first | (go_at_call 19; refine Dd.out.mono ?_; rintro e w5 ⟨rfl, hb5⟩))
              all_goals go_wp2
              all_goals
                go_roundw
                case rel => exact ⟨t + 1, by omega, by go_num, step_trans hbx (undrew hb5)⟩
                case measure => simp [intOf]; omega
            · go_wp2
              go_roundw
              case rel => exact ⟨q + 1, by omega, by go_num, hbx⟩
              case measure => simp [intOf]; omega
        · have b02 := Below.cell_of hbr b01
          have b12 := Below.cell_of hbr b11
          have b22 := Below.cell_of hbr b21
          have hB1r := step_trans hB1 hbr
          clear b01 b11 b21 hB1 hbr hp1
          go_wp2_with fail
          refine (seeded_any _ _ _ _).mono ?_
          rintro e w2 ⟨A2, c2, rfl, hs2, hb2⟩
          have hB2 := step_trans hB1r hb2
          have e0 := Below.cell_of hb2 b02
          have e1 := Below.cell_of hb2 b12
          have e2 := Below.cell_of hb2 b22
          clear hb2
          by_cases hF : seededE a b c = 0
          · obtain ⟨_, _, n1, n6, _, _⟩ := seeded_in hF
            have f2 : (seededE a b c != 0) = false := by simp [hF]
            by_cases h6 : b < 6
            · obtain ⟨k1, k2, k3⟩ := seeded_next hF h6
              have hw : IntKind.i64.wrap (b + 1) = b + 1 := by rw [IntKind.wrap_i64]; omega
              have K1 := hidx k1
              have K2 := hidx k2
              have K3 := hidx k3
              have h7 : ¬ (6 ≤ b) := by omega
              clear k1 k2 k3 hF
              go_wp2_with fail
              refine (seeded_any _ _ _ _).mono ?_
              rintro e w3 ⟨A3, c3, rfl, hs3, hb3⟩
              have hB3 := step_trans hB2 hb3
              have hs23 := hs2.below hb3
              have f3 : (seededE a (b + 1) c == 0) = true := by simp [K1.out]
              have hmx2 := hs23.nmax
              have hmx3 := hs3.nmax
              have hcap3 := hs3.cap
              have hcm3 := hs3.max
              have hlen := K3.out
              have ht := hs3.take (seededR a b c).length (by omega)
              rw [K2.out] at ht
              generalize (seededR a (b + 1) c).length = L3 at *
              generalize hL2 : (seededR a b c).length = L2 at *
              subst hlen
              have f4 : IntKind.i64.wrap ((L2 : Int) + 1) = (L2 : Int) + 1 := by rw [IntKind.wrap_i64]; omega
              have f5 : (((L2 + 1 : Nat) : Int) == (L2 : Int) + 1) = true := by simp
              have f6 : (L2 : Int) ≤ c3 := by omega
              have f7 : (0 : Int) ≤ L2 := by omega
              clear hs2 hs3 hb3 hB2 e0 e1 e2
              go_wp2_with fail
              refine (sameM_self _ _ _ _ _ _ _ ht hs23).mono ?_
              rintro e w4 ⟨rfl, hb4⟩
              go_wp2_with fail
              refine (awake_any _).mono ?_
              rintro e w5 ⟨rfl, hb5⟩
              go_wp2
              go_ret
              exact ⟨rfl, step_trans (step_trans hB3 hb4) hb5⟩
            · have h7 : 6 ≤ b := by omega
              clear hF
              go_wp2_with fail
              refine (awake_any _).mono ?_
              rintro e w5 ⟨rfl, hb5⟩
              go_wp2
              go_ret
              exact ⟨rfl, step_trans hB2 hb5⟩
          · have f2 := bne_of hF
            clear hF
            go_wp2_with fail
            refine (awake_any _).mono ?_
            rintro e w5 ⟨rfl, hb5⟩
            go_wp2
            go_ret
            exact ⟨rfl, step_trans hB2 hb5⟩
    · have f1 := eqz_of hE
      clear hE hp1
      go_wp2_with fail
      refine (seeded_any _ _ _ _).mono ?_
      rintro e w2 ⟨A2, c2, rfl, hs2, hb2⟩
      have hB2 := step_trans hB1 hb2
      have e0 := Below.cell_of hb2 b01
      have e1 := Below.cell_of hb2 b11
      have e2 := Below.cell_of hb2 b21
      clear hb2
      by_cases hF : seededE a b c = 0
      · obtain ⟨_, _, n1, n6, _, _⟩ := seeded_in hF
        have f2 : (seededE a b c != 0) = false := by simp [hF]
        by_cases h6 : b < 6
        · obtain ⟨k1, k2, k3⟩ := seeded_next hF h6
          have hw : IntKind.i64.wrap (b + 1) = b + 1 := by rw [IntKind.wrap_i64]; omega
          have K1 := hidx k1
          have K2 := hidx k2
          have K3 := hidx k3
          have h7 : ¬ (6 ≤ b) := by omega
          clear k1 k2 k3 hF
          go_wp2_with fail
          refine (seeded_any _ _ _ _).mono ?_
          rintro e w3 ⟨A3, c3, rfl, hs3, hb3⟩
          have hB3 := step_trans hB2 hb3
          have hs23 := hs2.below hb3
          have f3 : (seededE a (b + 1) c == 0) = true := by simp [K1.out]
          have hmx2 := hs23.nmax
          have hmx3 := hs3.nmax
          have hcap3 := hs3.cap
          have hcm3 := hs3.max
          have hlen := K3.out
          have ht := hs3.take (seededR a b c).length (by omega)
          rw [K2.out] at ht
          generalize (seededR a (b + 1) c).length = L3 at *
          generalize hL2 : (seededR a b c).length = L2 at *
          subst hlen
          have f4 : IntKind.i64.wrap ((L2 : Int) + 1) = (L2 : Int) + 1 := by rw [IntKind.wrap_i64]; omega
          have f5 : (((L2 + 1 : Nat) : Int) == (L2 : Int) + 1) = true := by simp
          have f6 : (L2 : Int) ≤ c3 := by omega
          have f7 : (0 : Int) ≤ L2 := by omega
          clear hs2 hs3 hb3 hB2 e0 e1 e2
          go_wp2_with fail
          refine (sameM_self _ _ _ _ _ _ _ ht hs23).mono ?_
          rintro e w4 ⟨rfl, hb4⟩
          go_wp2_with fail
          refine (awake_any _).mono ?_
          rintro e w5 ⟨rfl, hb5⟩
          go_wp2
          go_ret
          exact ⟨rfl, step_trans (step_trans hB3 hb4) hb5⟩
        · have h7 : 6 ≤ b := by omega
          clear hF
          go_wp2_with fail
          refine (awake_any _).mono ?_
          rintro e w5 ⟨rfl, hb5⟩
          go_wp2
          go_ret
          exact ⟨rfl, step_trans hB2 hb5⟩
      · have f2 := bne_of hF
        clear hF
        go_wp2_with fail
        refine (awake_any _).mono ?_
        rintro e w5 ⟨rfl, hb5⟩
        go_wp2
        go_ret
        exact ⟨rfl, step_trans hB2 hb5⟩
  · go_wp2_with fail
    refine (awake_any _).mono ?_
    rintro e w1 ⟨rfl, hb1⟩
    go_wp2
    go_ret
    exact ⟨rfl, step_trans (hz1 _ _) hb1⟩

end Go.Proofs.Ytkkmlcengneomaa
