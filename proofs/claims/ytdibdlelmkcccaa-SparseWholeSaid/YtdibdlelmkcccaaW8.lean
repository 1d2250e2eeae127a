/- The whole pictures are the reference's: plain mathematics. No condition. -/
import Derived.Test.YtdibdlelmkcccaaW7
set_option linter.unusedVariables false
namespace Go.Proofs.Ytdibdlelmkcccaa
open Go Go.RowKit Eng
theorem qu7 {m : List (List Int)} {y : List Int} : ∀ K, ∀ f ∈ qd5 m y K, ∃ pix, q2x m y pix ∧ f = (fitR m y pix).1
  | 0, f, h => by cases h
  | K + 1, f, h => by
    rcases List.mem_append.1 h with h | h
    · exact qu7 K f h
    · obtain ⟨pix, _, h1, h2⟩ := qs4 h
      exact ⟨pix, h1, h2⟩
theorem q4x (f : Fit) : ∀ i, whB f i = true ↔ ∀ j, j < i → (nQ f.2 j).2 = 1 ∧ inB (nQ f.2 j).1 (0 - 1000000) 1000000 = true
  | 0 => ⟨fun _ j hj => absurd hj (Nat.not_lt_zero _), fun _ => rfl⟩
  | i + 1 => by
    rw [whB, Bool.and_eq_true, q4x f i]
    unfold shB
    rw [Bool.and_eq_true, beq_iff_eq]
    constructor
    · rintro ⟨h1, h2⟩ j hj
      rcases Nat.lt_succ_iff_lt_or_eq.1 hj with q | q
      · exact h1 j q
      · rw [q]; exact h2
    · exact fun h => ⟨fun j hj => h j (by omega), h i (by omega)⟩
theorem q1q (f : Fit) : ∀ i, whB4 f i = true ↔ ∀ j, j < i → (nQ f.2 j).2 = 1
  | 0 => ⟨fun _ j hj => absurd hj (Nat.not_lt_zero _), fun _ => rfl⟩
  | i + 1 => by
    rw [whB4, Bool.and_eq_true, q1q f i, beq_iff_eq]
    constructor
    · rintro ⟨h1, h2⟩ j hj
      rcases Nat.lt_succ_iff_lt_or_eq.1 hj with q | q
      · exact h1 j q
      · rw [q]; exact h2
    · exact fun h => ⟨fun j hj => h j (by omega), h i (by omega)⟩
theorem nI_set (l : List Int) {p : Nat} (hp : p < l.length) (x : Int) (q : Nat) : nI (l.set p x) q = if q = p then x else nI l q := by
  by_cases e : q = p
  · subst e
    rw [if_pos rfl, qd3 _ _ (by rw [List.length_set]; exact hp), List.getElem_set_self]
  · rw [if_neg e]
    unfold nI nthD
    rw [List.getD_eq_getElem?_getD, List.getD_eq_getElem?_getD, List.getElem?_set_ne (Ne.symm e)]
theorem q4y (n : Nat) (f : Fit) : ∀ i, ∀ x ∈ whX n f i, x = 0 ∨ ∃ j, j < i ∧ x = (nQ f.2 j).1
  | 0, x, h => .inl (List.eq_of_mem_replicate h)
  | i + 1, x, h => by
    rw [whX] at h
    rcases List.mem_or_eq_of_mem_set h with h | h
    · exact (q4y n f i x h).imp id fun ⟨j, h1, h2⟩ => ⟨j, by omega, h2⟩
    · exact .inr ⟨i, by omega, h⟩
theorem q6d {n : Nat} {f : Fit} (hn : Named n f.1) : ∀ i, i ≤ f.1.length → ∀ j, j < i → nI (whX n f i) (nI f.1 j).toNat = (nQ f.2 j).1
  | 0, _, j, hj => absurd hj (Nat.not_lt_zero _)
  | i + 1, hi, j, hj => by
    have h1 := hn.at_ i (by omega)
    rw [whX, nI_set _ (by rw [ql2]; omega)]
    rcases Nat.lt_succ_iff_lt_or_eq.1 hj with q | q
    · have h2 := hn.asc j i q (by omega)
      have h3 := hn.at_ j (by omega)
      rw [if_neg (by omega)]
      exact q6d hn i (by omega) j q
    · rw [q, if_pos rfl]
theorem q40 {m : List (List Int)} {f : Fit} (hv : qb5 m = true) (hn : Named (nL m 0).length f.1) : whB f f.1.length = qr7 m f := by
  rw [Bool.eq_iff_iff]
  unfold qr7
  rw [Bool.and_eq_true, q4x, q1q, decide_eq_true_eq, qu0 hv]
  have hl := ql2 (nL m 0).length f f.1.length
  have key : qo2 (whX (nL m 0).length f f.1.length) (nL m 0).length 1000000 = 0 ↔ ∀ j, j < f.1.length → inB (nQ f.2 j).1 (0 - 1000000) 1000000 = true := by
    unfold qo2
    rw [if_neg (by rw [hl]; exact fun q => q rfl)]
    constructor
    · intro h j hj
      split at h
      · cases h
      · rename_i ha
        have ha : ((whX (nL m 0).length f f.1.length).all fun e => inB e (0 - 1000000) 1000000) = true := by simpa using ha
        have hat := hn.at_ j hj
        have := List.all_eq_true.1 ha _ (q1i (c := (nI f.1 j).toNat) (by rw [hl]; omega))
        rw [q6d hn _ (Nat.le_refl _) j hj] at this
        exact this
    · intro h
      rw [if_neg]
      rw [Bool.not_eq_false, List.all_eq_true]
      intro x hx
      rcases q4y _ _ _ x hx with e | ⟨j, h1, h2⟩
      · rw [e]; decide
      · rw [h2]; exact h j h1
  rw [key]
  exact ⟨fun h => ⟨fun j hj => (h j hj).1, fun j hj => (h j hj).2⟩, fun h j hj => ⟨h.1 j hj, h.2 j hj⟩⟩
theorem qo1 {α β : Type} {f g : α → Option β} : ∀ (l : List α), (∀ x ∈ l, f x = g x) → l.filterMap f = l.filterMap g
  | [], _ => rfl
  | x :: l, h => by
    rw [List.filterMap_cons, List.filterMap_cons, h x (by simp), qo1 l fun y hy => h y (by simp [hy])]
theorem whL_eq {m : List (List Int)} (hv : qb5 m = true) {L : List Fit} (h : ∀ f ∈ L, Named (nL m 0).length f.1) : whL (nL m 0).length L = whL4 m L := by
  unfold whL whL4
  refine qo1 L fun f hf => ?_
  rw [q40 hv (h f hf)]
theorem qz9 {m : List (List Int)} {y : List Int} {k : Int} (h : cntE m y k = 0) : qg6 m y = 0 ∧ 0 ≤ k ∧ k ≤ 10 := by
  unfold cntE at h
  rw [q0y] at h
  split at h
  · rename_i h1
    split at h
    · rename_i h2; exact ⟨h1, qh8.1 h2⟩
    · cases h
  · rename_i h1; exact absurd h h1
theorem ql5 {m : List (List Int)} {y : List Int} {k : Int} {f : Fit} (hf : f ∈ qc7 m y k) : Named (nL m 0).length f.1 ∧ q5q (nL m 0).length f := by
  obtain ⟨pix, h1, rfl⟩ := qu7 _ f hf
  refine ⟨?_, fitIn h1⟩
  rw [h1.fst]
  exact (Asked.of h1.chk).nam
theorem q53 {m : List (List Int)} (y : List Int) (k : Int) (hl : qg0 m = true) : qg1 m y k = qi4 m y k := by
  unfold qg1 qi4
  rw [← q00 y k hl]
  unfold q4c
  by_cases h : cntE m y k = 0
  · obtain ⟨h1, h2, h3⟩ := qz9 h
    rw [if_pos h, if_pos h, if_pos rfl, whL_eq (qw5 (pix := []) h1).2 fun f hf => (ql5 hf).1]
  · rw [if_neg h, if_neg h, if_neg h]
theorem whPre {m : List (List Int)} {y : List Int} {k : Int} (hf : FitM m) (hl : qg0 m = true) (h : cntE m y k = 0) : q5r m y k := by
  obtain ⟨h1, h2, h3⟩ := qz9 h
  have hM := qj8 h1
  exact ⟨qx0 hf hM (qk7 hl hM) h2 h3, fun f hf => (ql5 hf).2⟩
theorem wh4Pre {m : List (List Int)} {y : List Int} {k : Int} (hf : FitM m) (hl : qg0 m = true) : q1d m y k := by
  have e : (qb3 m y k).1 = [] ∨ (cntE m y k = 0 ∧ (qb3 m y k).1 = qc7 m y k) := by
    rw [← q00 y k hl]
    unfold q4c
    by_cases h : cntE m y k = 0
    · rw [if_pos h]; exact .inr ⟨h, rfl⟩
    · rw [if_neg h]; exact .inl rfl
  refine ⟨f4Pre hf hl, ?_, fun h => ?_, fun f hfm => ?_⟩
  · rcases e with e | ⟨h, e⟩
    · rw [e]; exact Nat.zero_le _
    · obtain ⟨h1, h2, h3⟩ := qz9 h
      have hM := qj8 h1
      have h7 := qk7 hl hM
      rw [e, qw9 y h2 h7]
      have e1 := qw7 (q0x (y := y) hf hM h7)
      have e2 : (qi1 k (all4 m y)).length ≤ (all4 m y).length := List.length_filter_le _ _
      omega
  · rw [← q00 y k hl] at h
    have hc : cntE m y k = 0 := by
      unfold q4c at h
      split at h
      · assumption
      · exact h
    have hM := qj8 (qz9 hc).1
    exact ⟨hM.rows1, hM.pix10⟩
  · rcases e with e | ⟨h, e⟩
    · rw [e] at hfm; cases hfm
    · rw [e] at hfm; exact (ql5 hfm).2
end Go.Proofs.Ytdibdlelmkcccaa
