/- The contract of lightsieveref02's Walsh, whole. No condition. -/
import Derived.Test.YtkkmlcengneomaaE4
namespace Go.Proofs.Ytkkmlcengneomaa
open Go.RowKit Ls

theorem side_facts {p : Int} (h : sideB p = true) : ∃ P : Nat, p = P ∧ 1 ≤ P ∧ P ≤ 8 ∧
    (((P:Int) != 1) = false ∨ (((P:Int) != 1) = true ∧ ((P:Int) != 2) = false) ∨ (((P:Int) != 1) = true ∧ ((P:Int) != 2) = true ∧ ((P:Int) != 4) = false) ∨
      (((P:Int) != 1) = true ∧ ((P:Int) != 2) = true ∧ ((P:Int) != 4) = true ∧ ((P:Int) != 8) = false)) := by
  unfold sideB at h
  rw [decide_eq_true_iff] at h
  rcases h with rfl | rfl | rfl | rfl
  · exact ⟨1, rfl, by omega, by omega, by decide⟩
  · exact ⟨2, rfl, by omega, by omega, by decide⟩
  · exact ⟨4, rfl, by omega, by omega, by decide⟩
  · exact ⟨8, rfl, by omega, by omega, by decide⟩

set_option maxRecDepth 100000 in
set_option maxHeartbeats 4000000 in
theorem rwalsh_any (X : Option Addr) (k d : Nat) (p : Int) (l : List Int) (w : World) (hl : SI w X k d l) :
    Calls Try.prog 55 #[.int .i64 p, .slice X k d] w fun e w' => ∃ A' c', e = .returned (.tuple #[.slice A' (walshR p l).length c', .int .i64 (walshE p l)]) ∧ SM w' A' (walshR p l).length c' (walshR p l) ∧ Below w.heap.size w w' := by
  have hln := hl.nmax
  have hll := hidx hl.len
  have hR : walshE p l = 7 → walshR p l = [] := fun h => by unfold walshR; rw [if_neg (by omega)]
  have wk : ∀ W, Calls Try.prog 62 #[.int .i64 k, .int .i64 1, .int .i64 6] W fun e W' => e = .returned (.bool (inB k 1 6)) ∧ W = W' := fun W => rwithin_any k 1 6 W
  have asc : ∀ W, SI W X k d l → Calls Try.prog 93 #[.slice X k d] W fun e W' => e = .returned (.bool (ascB l)) ∧ Below W.heap.size W W' := fun W h => rAscending_any X k d l W h
  cases hs : sideB p with
  | false =>
    have e1 : walshE p l = 7 := by unfold walshE; rw [hs]; rfl
    rw [hR e1, e1]
    unfold sideB at hs
    rw [decide_eq_false_iff_not] at hs
    have f1 : (p != 1) = true := by rw [bne_iff_ne]; omega
    have f2 : (p != 2) = true := by rw [bne_iff_ne]; omega
    have f3 : (p != 4) = true := by rw [bne_iff_ne]; omega
    have f4 : (p != 8) = true := by rw [bne_iff_ne]; omega
    clear e1 hR hs wk asc
    go_enter Try.func55, Try.ntmps55
    go_wp2
    go_ret2
    exact ⟨none, 0, rfl, SM.nil _, Below.refl _ _⟩
  | true =>
    obtain ⟨P, rfl, hP1, hP8, hf⟩ := side_facts hs
    cases hk : inB k 1 6 with
    | false =>
      have e1 : walshE P l = 7 := by unfold walshE; rw [hs, hll.out, hk]; rfl
      rw [hR e1, e1]
      rw [hk] at wk
      have Wk := hidx wk
      clear e1 hR wk asc hs hk
      rcases hf with f1 | ⟨f1, f2⟩ | ⟨f1, f2, f3⟩ | ⟨f1, f2, f3, f4⟩
      all_goals
        go_enter Try.func55, Try.ntmps55
        go_wp2_with fail
        refine (Wk.out _).mono ?_
        rintro e w1 ⟨rfl, rfl⟩
        go_wp2
        go_ret2
        exact ⟨none, 0, rfl, SM.nil _, Below.refl _ _⟩
    | true =>
      cases ha : ascB l with
      | false =>
        have e1 : walshE P l = 7 := by unfold walshE; rw [hs, hll.out, hk, ha]; rfl
        rw [hR e1, e1]
        rw [hk] at wk
        rw [ha] at asc
        have Wk := hidx wk
        have As := hidx asc
        clear e1 hR wk asc hs hk ha
        rcases hf with f1 | ⟨f1, f2⟩ | ⟨f1, f2, f3⟩ | ⟨f1, f2, f3, f4⟩
        all_goals
          go_enter Try.func55, Try.ntmps55
          go_wp2_with fail
          refine (Wk.out _).mono ?_
          rintro e w1 ⟨rfl, rfl⟩
          go_wp2_with fail
          refine (As.out _ hl).mono ?_
          rintro e w1 ⟨rfl, hb1⟩
          go_wp2
          go_ret2
          exact ⟨none, 0, rfl, SM.nil _, hb1⟩
      | true =>
        have hk' := hk
        rw [inB_iff] at hk'
        have hE : walshE P l = if l.all (fun i => inB i 0 ((P:Int) - 1)) then 0 else 7 := by unfold walshE; rw [hs, hll.out, hk, ha]; rfl
        have hRR : walshR P l = if l.all (fun i => inB i 0 ((P:Int) - 1)) then walL l P else [] := by
          unfold walshR
          rw [hE, Int.toNat_natCast]
          cases l.all (fun i => inB i 0 ((P:Int) - 1)) <;> rfl
        rw [hE, hRR]
        rcases hf with f1 | ⟨f1, f2⟩ | ⟨f1, f2, f3⟩ | ⟨f1, f2, f3, f4⟩
        · exact rwalsh_1 X k d P l w hl hP1 hP8 (by omega) hk ha f1
        · exact rwalsh_2 X k d P l w hl hP1 hP8 (by omega) hk ha f1 f2
        · exact rwalsh_4 X k d P l w hl hP1 hP8 (by omega) hk ha f1 f2 f3
        · exact rwalsh_8 X k d P l w hl hP1 hP8 (by omega) hk ha f1 f2 f3 f4

end Go.Proofs.Ytkkmlcengneomaa
