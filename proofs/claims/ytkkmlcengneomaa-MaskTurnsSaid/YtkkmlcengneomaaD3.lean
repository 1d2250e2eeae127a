/- The contract of lightsieveref02's Chosen. No condition. -/
import Derived.Test.YtkkmlcengneomaaD2
namespace Go.Proofs.Ytkkmlcengneomaa
open Go.RowKit Ls

set_option maxRecDepth 100000 in
set_option maxHeartbeats 2000000 in
theorem rchosen_any (A X : Option Addr) (n c k d : Nat) (m : List (List Int)) (l : List Int) (w : World) (hm : SM w A n c m) (hl : SI w X k d l) :
    Calls Try.prog 48 #[.slice A n c, .slice X k d] w fun e w' => ∃ A' c', e = .returned (.tuple #[.slice A' (chosenR m l).length c', .int .i64 (chosenE m l)]) ∧ SM w' A' (chosenR m l).length c' (chosenR m l) ∧ Below w.heap.size w w' := by
  have hmn := hm.nmax
  have hln := hl.nmax
  have hml := hidx hm.len
  have hll := hidx hl.len
  have hR : chosenE m l ≠ 0 → chosenR m l = [] := fun h => by unfold chosenR; rw [if_neg h]
  have hv' : ∀ W, SM W A n c m → Calls Try.prog 13 #[.slice A n c] W fun e W' => e = .returned (.bool (validB m)) ∧ W = W' := fun W h => rvalid_any _ n c m W h
  have asc : ∀ W, SI W X k d l → Calls Try.prog 93 #[.slice X k d] W fun e W' => e = .returned (.bool (ascB l)) ∧ Below W.heap.size W W' := fun W h => rAscending_any X k d l W h
  have nam : ∀ W, SM W A n c m → SI W X k d l → Calls Try.prog 70 #[.slice A n c, .slice X k d] W fun e W' => e = .returned (.int .i64 (namedE m l)) ∧ Below W.heap.size W W' := fun W h h' => (rnamed_any A X n c k d m l W h h').mono fun e W' h => ⟨h.1, by have := h.2; first | exact this | (subst this; exact Below.refl _ _)⟩
  cases hv : validB m with
  | false =>
    have e1 : chosenE m l = 1 := by unfold chosenE; rw [hv]; rfl
    rw [hR (by omega), e1]
    rw [hv] at hv'
    have Hv := hidx hv'
    clear e1 hR hv hv' asc nam
    go_enter Try.func48, Try.ntmps48
    go_wp2_with fail
    refine (Hv.out _ hm).mono ?_
    rintro e w1 ⟨rfl, rfl⟩
    go_wp2
    go_ret2
    exact ⟨none, 0, rfl, SM.nil _, Below.refl _ _⟩
  | true =>
    rw [hv] at hv'
    have Hv := hidx hv'
    clear hv'
    by_cases hk0 : k = 0
    · have e1 : chosenE m l = 7 := by unfold chosenE; rw [hv, hll.out, hk0]; rfl
      rw [hR (by omega), e1]
      subst hk0
      clear e1 hR hv asc nam
      go_enter Try.func48, Try.ntmps48
      go_wp2_with fail
      refine (Hv.out _ hm).mono ?_
      rintro e w1 ⟨rfl, rfl⟩
      go_wp2
      go_ret2
      exact ⟨none, 0, rfl, SM.nil _, Below.refl _ _⟩
    · have hk1 : ((k : Int) == 0) = false := by simp; omega
      cases ha : ascB l with
      | false =>
        have e1 : chosenE m l = 7 := by unfold chosenE; rw [hv, ha, hll.out]; simp
        rw [hR (by omega), e1]
        rw [ha] at asc
        have As := hidx asc
        clear e1 hR hv ha asc hk0 nam
        go_enter Try.func48, Try.ntmps48
        go_wp2_with fail
        refine (Hv.out _ hm).mono ?_
        rintro e w1 ⟨rfl, rfl⟩
        go_wp2_with fail
        refine (As.out _ hl).mono ?_
        rintro e w2 ⟨rfl, hb2⟩
        go_wp2
        go_ret2
        exact ⟨none, 0, rfl, SM.nil _, hb2⟩
      | true =>
        rw [ha] at asc
        have As := hidx asc
        have eE : chosenE m l = namedE m l := by unfold chosenE; rw [hv, ha, hll.out]; simp [hk0]
        clear asc
        rcases named_01 hv l with he | he
        · rw [he] at nam eE
          have hRR : chosenR m l = pickL m l := by unfold chosenR; rw [if_pos eE]
          rw [hRR, eE, pickL_len, hml.out]
          have hin := chosen_in he hml.out hll.out
          have hM := IsMask.of hv
          have hkk : k ≤ 10 := by
            have h1 := asc_len (p := (nthL m 0).length) ha (fun j hj => by have := hin 0 j (by have := hM.rows1; have := hml.out; omega) (by rw [hll.out] at hj; exact hj); exact this)
            have := hM.pix10
            have := hll.out
            omega
          have hn6 : n ≤ 6 := by have := hM.rows6; have := hml.out; omega
          have fin : ∀ W, SM W A n c m → SI W X k d l → Calls Try.prog 94 #[.slice A n c, .slice X k d] W fun e W' => ∃ A' c', e = .returned (.slice A' n c') ∧ SM W' A' n c' (pickL m l) ∧ Below W.heap.size W W' := fun W h3 h4 =>
            rpicked_any A X n c k d m l W h3 h4 (by omega) (by omega) hin
          have Fin := hidx fin
          have Nam := hidx nam
          clear eE hRR hR hv ha hk0 nam fin hin hM he
          go_enter Try.func48, Try.ntmps48
          go_wp2_with fail
          refine (Hv.out _ hm).mono ?_
          rintro e w1 ⟨rfl, rfl⟩
          go_wp2_with fail
          refine (As.out _ hl).mono ?_
          rintro e w2 ⟨rfl, hb2⟩
          go_wp2_with fail
          refine (Nam.out _ (hm.below hb2) (hl.below hb2)).mono ?_
          rintro e w3 ⟨rfl, hb3⟩
          go_wp2_with fail
          refine (Fin.out _ ((hm.below hb2).below hb3) ((hl.below hb2).below hb3)).mono ?_
          rintro e w4 ⟨A3, c3, rfl, hs3, hb4⟩
          go_wp2
          go_ret2
          exact ⟨A3, c3, rfl, hs3, step_trans (step_trans hb2 hb3) hb4⟩
        · rw [he] at nam eE
          rw [hR (by omega), eE]
          have Nam := hidx nam
          clear eE hR hv ha hk0 nam he
          go_enter Try.func48, Try.ntmps48
          go_wp2_with fail
          refine (Hv.out _ hm).mono ?_
          rintro e w1 ⟨rfl, rfl⟩
          go_wp2_with fail
          refine (As.out _ hl).mono ?_
          rintro e w2 ⟨rfl, hb2⟩
          go_wp2_with fail
          refine (Nam.out _ (hm.below hb2) (hl.below hb2)).mono ?_
          rintro e w3 ⟨rfl, hb3⟩
          go_wp2
          go_ret2
          exact ⟨none, 0, rfl, SM.nil _, step_trans hb2 hb3⟩

end Go.Proofs.Ytkkmlcengneomaa
