/- The contract of lightsieveref01's Mirrored. No condition. -/
import Derived.Test.YtahccnljckgjmaaPBox
import Derived.Test.YtahccnljckgjmaaPMovSpec
namespace Go.Proofs.Ytahccnljckgjmaa
open Go.RowKit Ls

set_option maxRecDepth 100000 in
set_option maxHeartbeats 4000000 in
theorem rMirrored_any (A : Option Addr) (n c : Nat) (W H : Int) (l : List Int) (w : World) (h : SI w A n c l) :
    Calls Try.prog 40 #[.agg #[.int .i64 W, .int .i64 H, .slice A n c]] w fun e w' => ∃ A' c', e = .returned (.tuple #[.agg #[.int .i64 (rmirR W H l).1, .int .i64 (rmirR W H l).2.1, .slice A' (rmirR W H l).2.2.length c'], .int .i64 (movE W H l)]) ∧ SI w' A' (rmirR W H l).2.2.length c' (rmirR W H l).2.2 ∧ Fresh w A' ∧ Below w.heap.size w w' := by
  have hb0 := step_trans (below_alloc w (.cells #[.int .i64 W, .int .i64 H, .slice A n c] 30)) (below_alloc _ (.cells #[.int .i64 0, .int .i64 0, .slice none 0 0] 30))
  have hc1 := (PBox.new w W H (.slice A n c) 30).below (below_alloc _ (.cells #[.int .i64 0, .int .i64 0, .slice none 0 0] 30))
  have hc2 := PBox.new (w.alloc (.cells #[.int .i64 W, .int .i64 H, .slice A n c] 30)) 0 0 (.slice none 0 0) 30
  have hf2 := FBox.new (w.alloc (.cells #[.int .i64 W, .int .i64 H, .slice A n c] 30)) #[.int .i64 0, .int .i64 0, .slice none 0 0] 30
  rw [World.size_alloc] at hc2 hf2
  have va := rValid_any A n c W H l _ (h.below hb0)
  have hll := hidx h.len
  cases hv : validP W H l with
  | false =>
    have e1 : movE W H l = 1 := by unfold movE; rw [hv]; rfl
    have e2 : rmirR W H l = (0, 0, []) := by unfold rmirR; rw [hv]; rfl
    rw [e1, e2]
    rw [hv] at va
    have Va := hidx va
    clear va hv e1 e2
    go_enter Try.func40, Try.ntmps40
    go_wp2_with fail
    refine Va.out.mono ?_
    rintro e w1 ⟨rfl, hbv⟩
    have hB1 := step_trans hb0 hbv
    obtain ⟨d1, d2, d3⟩ := hc2.below hbv
    obtain ⟨-, d4⟩ := hf2.below hbv
    go_wp2
    refine bodyPost_ret (v := .tuple #[.agg #[.int .i64 0, .int .i64 0, .slice none 0 0], .int .i64 1]) (by simp [results, Try.results40, go_sem, d1, d2, d3]) rfl ⟨none, 0, rfl, SI.nil _, Fresh.none _, ?_⟩
    exact ((hB1.setCell (by simp) _).setCell (by simp) _).setCell (by simp) _
  | true =>
    obtain ⟨a, b, hp⟩ := IsPic.of hv
    obtain ⟨rfl, rfl, ha1, ha2, hb1, hb2, hn, hn', -⟩ := hp
    rw [hll.out] at hn hn'
    have e1 : movE a b l = 0 := by unfold movE; rw [hv]; rfl
    have e2 : rmirR a b l = ((a : Int), (b : Int), srcL (mirP a) l n) := by unfold rmirR; rw [hv, hll.out]; rfl
    rw [e1, e2]
    rw [hv] at va
    have Va := hidx va
    have HN := hidx hn
    have e4 := hidx (srcL_len (mirP a) l n)
    have hn1 : 0 < n := by rw [hn]; exact Nat.mul_pos ha1 hb1
    clear va hv e1 e2 hn
    go_enter Try.func40, Try.ntmps40
    go_wp2_with fail
    refine Va.out.mono ?_
    rintro e w1 ⟨rfl, hbv⟩
    have hB1 := step_trans hb0 hbv
    have k1 := hc1.below hbv
    have k2 := hc2.below hbv
    have f2 := hf2.below hbv
    have hz : w.heap.size + 2 ≤ w1.heap.size := by have := hbv.size; simp at this; omega
    clear Va hc1 hc2 hf2 hb0 hbv
    obtain ⟨g1, g2, g3⟩ := id k1
    have w3c := Below.cell_of (below_alloc w1 (.cells #[.int .i64 a, .int .i64 b, .slice none 0 0] 30)) g3
    go_wp2
    clear w3c g1 g2 g3
    have n4 := PBox.new w1 a b (.slice none 0 0) 30
    have n5 := FBox.new w1 #[.int .i64 a, .int .i64 b, .slice none 0 0] 30
    have k1 := k1.below (below_alloc w1 (.cells #[.int .i64 a, .int .i64 b, .slice none 0 0] 30))
    have k2 := k2.below (below_alloc w1 (.cells #[.int .i64 a, .int .i64 b, .slice none 0 0] 30))
    have f2 := f2.below (below_alloc w1 (.cells #[.int .i64 a, .int .i64 b, .slice none 0 0] 30))
    have hB2 := step_trans hB1 (below_alloc w1 (.cells #[.int .i64 a, .int .i64 b, .slice none 0 0] 30))
    clear hB1
    go_loopw [20] (fun i wr => ∃ (q : Nat) (A' : Option Addr) (c' : Nat), q ≤ n ∧ i = .int .i64 q ∧ wr.ownsRow (w1.heap.size + 1) 3 1 (.slice A' q c') q (ints (srcL (mirP a) l q)) ∧ PBox wr w.heap.size a b (.slice A n c) ∧ PBox wr (w.heap.size + 1) 0 0 (.slice none 0 0) ∧ FBox wr (w.heap.size + 1) ∧ PBox wr w1.heap.size a b (.slice A' q c') ∧ FBox wr w1.heap.size ∧ Below w.heap.size w wr ∧ w1.heap.size + 1 ≤ wr.heap.size) (fun i _ => n - (intOf i).toNat)
    case atStart => exact ⟨0, none, 0, Nat.zero_le _, rfl, World.ownsRow_nil _ _ _ _, k1, k2, f2, n4, n5, hB2, by simp⟩
    case round =>
      obtain ⟨q, A', c', hq, rfl, hown, j1, j2, jf2, j4, jf4, hbr, hsz⟩ := hrel
      clear k1 k2 f2 n4 n5 hB2
      by_cases hlt : q < n
      · obtain ⟨ad, rfl, hca⟩ := (h.below hbr).at_ (by omega)
        have m3 : q % a < a := Nat.mod_lt _ ha1
        have m4 : q / a < b := Nat.div_lt_of_lt_mul (by rw [← HN.out]; exact hlt)
        obtain ⟨r, hr⟩ : ∃ r, r = q % a := ⟨_, rfl⟩
        obtain ⟨s, hs⟩ : ∃ s, s = q / a := ⟨_, rfl⟩
        have qm : (q : Int) % a = (r : Int) := by rw [hr]; simp
        have qd : (q : Int) / a = (s : Int) := by rw [hs]; simp
        have qm2 : (q : Int).tmod a = (r : Int) := by rw [Int.tmod_eq_emod_of_nonneg (by omega)]; exact qm
        have qd2 : (q : Int).tdiv a = (s : Int) := by rw [Int.tdiv_eq_ediv_of_nonneg (by omega)]; exact qd
        have a0 : ((a : Int) == 0) = false := by rw [beq_eq_false_iff_ne]; omega
        rw [← hr] at m3
        rw [← hs] at m4
        have hP : mirP a q = (a - 1 - r) + a * s := by unfold mirP; rw [← hr, ← hs]
        obtain ⟨T, hT⟩ : ∃ T, T = a * s := ⟨_, rfl⟩
        obtain ⟨X, hX⟩ : ∃ X, X = a - 1 - r := ⟨_, rfl⟩
        rw [← hT, ← hX] at hP
        have hlt2 := place_lt (a := a) (b := b) (i := X) (j := s) (by omega) m4
        rw [← hT, ← HN.out] at hlt2
        have hcx := hca (X + T) hlt2
        have r0 : IntKind.i64.wrap ((a : Int) - 1) = (a : Int) - 1 := by rw [IntKind.wrap_i64]; omega
        have r1 : IntKind.i64.wrap ((a : Int) - 1 - r) = (X : Int) := by rw [IntKind.wrap_i64]; omega
        have r3 : IntKind.i64.wrap ((a : Int) * s) = (T : Int) := by
          have : ((a * s : Nat) : Int) = (a : Int) * s := by simp
          rw [IntKind.wrap_i64, ← this, ← hT]; omega
        have r4 : IntKind.i64.wrap ((X : Int) + T) = (X : Int) + T := by
          rw [IntKind.wrap_i64]; omega
        have r5 : (X : Int) + T < n := by omega
        have r6 : (0 : Int) ≤ (X : Int) + T := by omega
        have r7 : ((X : Int) + T).toNat = X + T := by omega
        have HS := hidx (srcL_snoc (mirP a) l q)
        have HP := hidx hP
        have J := hidx (And.intro j1 (And.intro j2 (And.intro jf2 (And.intro j4 jf4))))
        obtain ⟨y1, -, y3⟩ := j1
        obtain ⟨-, -, y9⟩ := j4
        have y10 : ∀ o, (wr.alloc o).cell? ⟨w1.heap.size, 2, none⟩ = some (.slice A' q c') := fun o => Below.cell_of (below_alloc wr o) y9
        have hab : ad.block < w.heap.size := by
          obtain ⟨ad', e, hx⟩ := h.at_ hn1
          cases e
          have := cell_lt (hx 0 hn1)
          rwa [block_add] at this
        clear j2 jf2 jf4 hca h hr hs hT hX hP qm qd
        go_wp2
        go_quiet (fail)
        go_wp2
        have hal : ad.block < w1.heap.size := by
          have := hab 
          omega
        have hXl : (ad.add (X + T)).block = ad.block := block_add _ _
        have K2 : ∀ o, (wr.alloc o).cell? ⟨w.heap.size, 2, none⟩ = some (.slice (some ad) n c) := fun o => Below.cell_of (below_alloc wr o) y3
        have hown1 : (wr.drewN (nq + 1)).ownsRow (w1.heap.size + 1) 3 1 (.slice A' q c') q (ints (srcL (mirP a) l q)) := hown
        have y11 : ∀ o, ((wr.drewN (nq + 1)).alloc o).cell? ⟨w1.heap.size, 2, none⟩ = some (.slice A' q c') := fun o => Below.cell_of (below_alloc (wr.drewN (nq + 1)) o) y9
        go_region_law (first | (refine step_app1n eltI rfl (by rfl) _ _ (by rfl) (by rfl) (by rfl) hown1 (Below.refl (w1.heap.size + 1) (wr.drewN (nq + 1))) hsz (by rfl) (by omega) (by omega) ?_; intro A2 c2 w3 hown3 hb3' _ hc2 hc2'; have hb3 := undrewN hb3'; obtain ⟨z1, z2, z3⟩ := J.out.2.2.2.1.under hb3 (Nat.lt_succ_self _); obtain ⟨-, z4⟩ := J.out.2.2.2.2.under hb3 (Nat.lt_succ_self _)))
        all_goals go_wp2
        all_goals
          go_roundw
          case rel =>
            refine ⟨q + 1, A2, c2, by omega, by go_num, ownsRow_setCell_below (by rw [HS.out, ← ints_snoc, HP.out]; exact hown3) (by simp) _, (J.out.1.under hb3 (by omega)).other _ (by simp; omega) _, (J.out.2.1.under hb3 (by omega)).other _ (by simp; omega) _, (J.out.2.2.1.under hb3 (by omega)).set _ _, (J.out.2.2.2.1.under hb3 (by omega)).set2 _, (J.out.2.2.2.2.under hb3 (by omega)).set _ _, ?_, ?_⟩
            · exact (hbr.trans (hb3.mono (by omega))).setCell (by simp; omega) _
            · have := hb3.size; simp; omega
          case measure => simp [intOf]; omega
      · have hqn : q = n := by omega
        subst hqn
        have hs := own_SI hown
        have hA : ∀ ad, A' = some ad → w1.heap.size + 1 ≤ ad.block := fun ad e => by
          obtain ⟨A1, c1, hv, -, -, hg⟩ := own_form hown
          injection hv with ea _ _
          obtain ⟨g, e2, h1, h2⟩ := hg hn1
          rw [← ea, e] at e2
          cases e2
          exact h1
        have HA := hidx hA
        obtain ⟨z1, z2, z3⟩ := j4
        obtain ⟨z4, z5, z6⟩ := j2
        obtain ⟨-, z7⟩ := jf2
        clear hown hA j1 jf4 h
        go_wp2
        refine bodyPost_ret (v := .tuple #[.agg #[.int .i64 a, .int .i64 b, .slice A' q c'], .int .i64 0]) (by simp [results, Try.results40, go_sem, z4, z5, z6]) rfl ⟨A', c', by simp [e4.out], ?_, fun ad e => by have := HA.out ad e; omega, ?_⟩
        · rw [e4.out]
          exact SI.other (SI.other (SI.other hs _ (by intro ad e; have := HA.out ad e; simp; omega) _) _ (by intro ad e; have := HA.out ad e; simp; omega) _) _ (by intro ad e; have := HA.out ad e; simp; omega) _
        · exact ((hbr.setCell (by simp) _).setCell (by simp) _).setCell (by simp) _

end Go.Proofs.Ytahccnljckgjmaa
