/- Contracts of half and Lift of pic and lightsieveref01. No condition. -/
import Derived.Test.YtmijnbjlhnpokaaDoorP4
import Derived.Test.YtmijnbjlhnpokaaDoorPLiftSpec
namespace Go.Proofs.YtmijnbjlhnpokaaDoor
open Go.RowKit Ls
theorem half_any (x : Int) (w : World) :
    Calls Tryd.prog 29 #[.int .i64 x] w fun e w' => e = .returned (.int .i64 (x / 2)) /\ w = w' := by
  go_enter Tryd.func29, Tryd.ntmps29
  go_wp2
  go_ret
  exact ⟨rfl, rfl⟩
theorem SI.take {w : World} {A : Option Addr} {n c m d : Nat} {zs : List Int} (h : SI w A n c zs) (hm : m <= n) (hd : m <= d) (hc : d <= c) : SI w A m d (zs.take m) := by
  refine ⟨by rw [List.length_take, h.len]; omega, hd, by have := h.2.2.1; omega, fun h0 => ?_⟩
  obtain ⟨ad, e, hx⟩ := h.at_ (by omega)
  refine ⟨ad, e, fun k hk => ?_⟩
  rw [hx k (by omega)]
  simp [nth, hk]
set_option maxRecDepth 100000 in
set_option maxHeartbeats 4000000 in
theorem lift_try (X : Option Addr) (k d M : Nat) (l : List Int) (w : World) (hl : SI w X k d l) (hk : k = 2 ^ M) (hM : M <= 8) (hp : powerB l = true) :
    Calls Tryd.prog 13 #[.slice X k d] w fun e w' => ∃ A' c', e = .returned (.tuple #[.slice A' k c', .int .i64 0]) /\ w'.ownsRow w.heap.size 3 1 (.slice A' k c') k (ints (liftTo l M M)) /\ Below w.heap.size w w' := by
  have pw := Power_any X k d l w hl
  rw [hp] at pw
  have Pw := hidx pw
  have h8 : 2 ^ M <= 256 := Nat.pow_le_pow_right (n := 2) (by omega) hM
  have hk2 : k <= 256 := by omega
  have hk1 : 0 < k := by rw [hk]; exact Nat.pow_pos (by omega)
  have Hk := hidx hk
  have hll := hidx hl.len
  clear pw hp hk h8
  go_enter Tryd.func13, Tryd.ntmps13
  go_wp2_with fail
  refine Pw.out.mono ?_
  rintro e w1 ⟨rfl, hb1⟩
  go_wp2_with fail
  refine (clone_any X k d l _ (hl.below hb1) (by omega)).mono ?_
  rintro e w2 ⟨A2, c2, rfl, hown0, hb2⟩
  have hbw : Below w.heap.size w w2 := step_trans hb1 hb2
  obtain ⟨A3, c3, hv, hkc, hcm, hg⟩ := own_form hown0
  injection hv with ea _ ec
  subst ea
  subst ec
  obtain ⟨g, rfl, hg1, hg2⟩ := hg (by omega)
  have hB0 : w.heap.size <= g := Nat.le_trans hb1.size hg1
  have hown1 := own_base hown0 hb1.size
  clear hg hb2 hown0 hg1
  go_wp2
  go_loopw [5] (fun i wr => ∃ s n : Nat, s <= M /\ Hid (n = 2 ^ (M - s)) /\ i = .int .i64 n /\ wr.ownsRow w.heap.size 3 1 (.slice (some ⟨g, 0, none⟩) k c2) k (ints (liftTo l M s)) /\ Below w.heap.size w wr) (fun i _ => (intOf i).toNat)
  case atStart => exact ⟨0, k, Nat.zero_le _, Hk, rfl, hown1, hbw⟩
  case round =>
    obtain ⟨s, n, hs, hn, rfl, hown, hbr⟩ := hrel
    clear hown1 hbw hl Pw
    by_cases hlt : s < M
    · obtain ⟨hf, hh⟩ : ∃ hf, hf = 2 ^ (M - s - 1) := ⟨_, rfl⟩
      have hn2 : n = hf + hf := by rw [hn.out, hh, <- Nat.two_mul, <- Nat.pow_succ']; congr 1; omega
      have hpos : 0 < hf := by rw [hh]; exact Nat.pow_pos (by omega)
      have hnk : n <= k := by rw [hn.out, Hk.out]; exact Nat.pow_le_pow_right (by omega) (by omega)
      have Hh := hidx hh
      clear hh
      have hd2 : (n : Int) / 2 = hf := by omega
      have hn1 : (1:Int) < n := by omega
      have HN2 := hidx hn2
      obtain ⟨o, ho⟩ : ∃ o, o = liftTo l M s := ⟨_, rfl⟩
      have hol : o.length = k := by rw [ho, liftTo_len]; exact hll.out
      rw [<- ho] at hown
      have HO := hidx ho
      have HOL := hidx hol
      clear ho hol hn2
      go_wp2_with fail
      refine (clone_any (some ⟨g, 0, none⟩) n c2 (o.take n) _ (SI.take (own_SI hown) hnk (by omega) (Nat.le_refl _)) (by omega)).mono ?_
      rintro e w3 ⟨A4, c4, rfl, hwas0, hb3⟩
      have hown3 := own_below hown hb3
      have hbr3 := hbr.trans (hb3.mono hbr.size)
      obtain ⟨A5, c5, hv, -, -, hg⟩ := own_form hwas0
      injection hv with ea _ ec
      subst ea
      subst ec
      obtain ⟨g2, rfl, hg3, hg4⟩ := hg (by omega)
      have hne : g ≠ g2 := by have := (hown.lt g rfl).2; omega
      clear hg hb3 hown hbr
      have f0 : (0:Int) <= hf := by omega
      have f1 : (hf:Int) <= c2 := by omega
      have f2 : (n:Int) <= c2 := by omega
      have f3 : (hf:Int) <= n := by omega
      have f4 : hf <= n := by omega
      have f5 : n <= c2 := by omega
      go_wp2
      go_quiet (fail)
      go_wp2
      obtain ⟨wo, rfl⟩ : ∃ wo : World, wo = wr := ⟨_, rfl⟩
      go_loopw [41] (fun i wr => ∃ j : Nat, j <= hf /\ i = .int .i64 j /\ wr.ownsRow w.heap.size 3 1 (.slice (some ⟨g, 0, none⟩) k c2) k (ints (liftMid o hf j)) /\ wr.ownsRow wo.heap.size 3 1 (.slice (some ⟨g2, 0, none⟩) n c4) n (ints (o.take n)) /\ Below w.heap.size w wr) (fun i _ => hf - (intOf i).toNat)
      case atStart => exact ⟨0, Nat.zero_le _, rfl, hown3, hwas0, below_drewN hbr3 _⟩
      case round =>
        obtain ⟨j, hj, rfl, hown, hwas, hbr⟩ := hrel
        clear hown3 hwas0 hbr3
        by_cases hlt2 : j < hf
        · have hnn := HN2.out
          have x1 := hwas.cellAt (2 * j) (by omega)
          have x2 := hwas.cellAt (2 * j + 1) (by omega)
          rw [ints_get _ _ (by rw [List.length_take, HOL.out]; omega)] at x1 x2
          rw [show nth (o.take n) (2 * j) = nth o (2 * j) by simp [nth, show 2 * j < n by omega]] at x1
          rw [show nth (o.take n) (2 * j + 1) = nth o (2 * j + 1) by simp [nth, show 2 * j + 1 < n by omega]] at x2
          have y1 : IntKind.i64.wrap (2 * (j : Int)) = 2 * (j : Int) := by rw [IntKind.wrap_i64]; omega
          have y2 : IntKind.i64.wrap (2 * (j : Int) + 1) = 2 * (j : Int) + 1 := by rw [IntKind.wrap_i64]; omega
          have z1 : (0:Int) <= 2 * (j : Int) := by omega
          have z2 : 2 * (j : Int) < n := by omega
          have z3 : (0:Int) <= 2 * (j : Int) + 1 := by omega
          have z4 : 2 * (j : Int) + 1 < n := by omega
          have t1 : (2 * (j : Int)).toNat = 2 * j := by omega
          have t2 : (2 * (j : Int) + 1).toNat = 2 * j + 1 := by omega
          have c1 := hown.cellAt j (by omega)
          have c2' := hown.cellAt (hf + j) (by omega)
          have hml : (liftMid o hf j).length = k := by rw [liftMid_len]; exact HOL.out
          rw [ints_get _ _ (by rw [hml]; omega)] at c1 c2'
          have g1 := hown.frozenAt j
          have g2' := hown.frozenAt (hf + j)
          have s2 : ∀ v, (wr.setCell ⟨g, j, none⟩ v).cell? ⟨g, hf + j, none⟩ = some (.int .i64 (nth (liftMid o hf j) (hf + j))) := fun v => by
            rw [World.cell?_setCell_other _ _ _ _ (by intro e; injection e with _ e2; omega)]; exact c2'
          clear hnn hml
          go_wp2
          go_quiet (fail)
          go_wp2_with (go_at_call 29; refine (half_any _ _).mono ?_; rintro e w4 ⟨rfl, rfl⟩)
          have st1 := (hown.drew.stored j (.int .i64 (wrap64 (nth o (2 * j) + nth o (2 * j + 1)) / 2))).1.stored (hf + j) (.int .i64 (wrap64 (nth o (2 * j) - nth o (2 * j + 1))))
          rw [<- ints_set, <- ints_set] at st1
          go_roundw
          case rel =>
            refine ⟨j + 1, by omega, by go_num, st1.1, ownsRow_setCell_other (ownsRow_setCell_other hwas ?_ _) ?_ _, ((below_drewN hbr nq).setCell hB0 _).setCell hB0 _⟩
            · simp [Value.ownBlock]; omega
            · simp [Value.ownBlock]; omega
          case measure => simp [intOf]; omega
        · have hjh : j = hf := by omega
          subst hjh
          have hS : liftMid o j j = liftTo l M (s + 1) := by rw [liftTo, <- Hh.out, <- HO.out]
          have HS := hidx hS
          clear hS
          go_wp2
          go_roundw
          case rel => exact ⟨s + 1, j, by omega, hidx (by rw [Hh.out]; rfl), rfl, by rw [<- HS.out]; exact hown, hbr⟩
          case measure => simp [intOf]; omega
    · have hsM : s = M := by omega
      subst hsM
      have hn1 : n = 1 := by rw [hn.out]; simp
      subst hn1
      go_wp2
      go_ret2
      exact ⟨_, _, rfl, hown, hbr⟩
theorem Lift_any (X : Option Addr) (k d : Nat) (l : List Int) (w : World) (hl : SI w X k d l) :
    Calls Tryd.prog 13 #[.slice X k d] w fun e w' => ∃ A' c', e = .returned (.tuple #[.slice A' (liftR l).length c', .int .i64 (liftE l)]) /\ SI w' A' (liftR l).length c' (liftR l) /\ Below w.heap.size w w' := by
  have hll := hl.len
  unfold liftR liftE
  cases hp : powerB l with
  | false =>
    have pw := Power_any X k d l w hl
    rw [hp] at pw
    have Pw := hidx pw
    clear pw hp hll
    go_enter Tryd.func13, Tryd.ntmps13
    go_wp2_with (go_at_call 26; refine Pw.out.mono ?_; rintro e w1 ⟨rfl, hb1⟩)
    go_ret2
    exact ⟨none, 0, rfl, SI.nil _, hb1⟩
  | true =>
    have hpp := hp
    unfold powerB at hpp
    rw [Bool.and_eq_true] at hpp
    obtain ⟨M, hM, hk⟩ := powB_of hpp.2
    simp only [if_true]
    have e1 : liftAll l = liftTo l M M := by unfold liftAll; rw [hk, Nat.log2_two_pow]
    rw [e1, liftTo_len, hll]
    exact (lift_try X k d M l w hl (by omega) hM hp).mono fun e w' ⟨A', c', h1, h2, h3⟩ => ⟨A', c', h1, own_SI h2, h3⟩
end Go.Proofs.YtmijnbjlhnpokaaDoor
