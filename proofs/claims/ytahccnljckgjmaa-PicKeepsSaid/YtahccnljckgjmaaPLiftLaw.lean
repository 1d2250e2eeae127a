/- What is lifted is unlifted; what is transformed is transformed back. No program in sight. No condition. -/
import Derived.Test.YtahccnljckgjmaaPLiftSpec
import Derived.Test.YtahccnljckgjmaaPSq
namespace Go.Proofs.Ytahccnljckgjmaa
open Go.RowKit Ls

theorem liftMid_nth (o : List Int) (h : Nat) (_hl : 2 * h ≤ o.length) (hb : ∀ i, i < 2 * h → -1000000 ≤ nth o i ∧ nth o i ≤ 1000000) : ∀ j, j ≤ h → ∀ i, i < o.length →
    nth (liftMid o h j) i = if i < h then (if i < j then (nth o (2 * i) + nth o (2 * i + 1)) / 2 else nth o i) else if i < 2 * h then (if i - h < j then nth o (2 * (i - h)) - nth o (2 * (i - h) + 1) else nth o i) else nth o i := by
  intro j
  induction j with
  | zero => intro _ i hi; simp [liftMid]
  | succ j ih =>
    intro hj i hi
    have ih := ih (by omega) i hi
    have hll := liftMid_len o h j
    have b1 := hb (2 * j) (by omega)
    have b2 := hb (2 * j + 1) (by omega)
    rw [liftMid, wrap64_small (by omega) (by omega), wrap64_small (by omega) (by omega)]
    by_cases e1 : i = h + j
    · subst e1
      rw [nth_set_eq _ _ _ (by rw [List.length_set, hll]; exact hi), if_neg (by omega), if_pos (by omega), if_pos (by omega), Nat.add_sub_cancel_left]
    · rw [nth_set_ne _ _ _ _ (Ne.symm e1)]
      by_cases e2 : i = j
      · subst e2
        rw [nth_set_eq _ _ _ (by rw [hll]; exact hi), if_pos (by omega), if_pos (by omega)]
      · rw [nth_set_ne _ _ _ _ (Ne.symm e2), ih]
        by_cases c1 : i < h
        · rw [if_pos c1, if_pos c1]
          by_cases c2 : i < j
          · rw [if_pos c2, if_pos (by omega)]
          · rw [if_neg c2, if_neg (by omega)]
        · rw [if_neg c1, if_neg c1]
          by_cases c3 : i < 2 * h
          · rw [if_pos c3, if_pos c3]
            by_cases c2 : i - h < j
            · rw [if_pos c2, if_pos (by omega)]
            · rw [if_neg c2, if_neg (by omega)]
          · rw [if_neg c3, if_neg c3]

theorem unMid_nth (p o : List Int) (h : Nat) (_hl : 2 * h ≤ p.length) (hs : ∀ k, k < h → wrap64 (nth p k - nth p (h + k) / 2) = nth o (2 * k + 1) ∧ wrap64 (nth o (2 * k + 1) + nth p (h + k)) = nth o (2 * k)) : ∀ j, j ≤ h → ∀ i, i < p.length →
    nth (unMid p h j) i = if i < 2 * j then nth o i else nth p i := by
  intro j
  induction j with
  | zero => intro _ i hi; simp [unMid]
  | succ j ih =>
    intro hj i hi
    have ih := ih (by omega) i hi
    have hll := unMid_len p h j
    obtain ⟨s1, s2⟩ := hs j (by omega)
    rw [unMid, s1, s2]
    by_cases e1 : i = 2 * j + 1
    · subst e1
      rw [nth_set_eq _ _ _ (by rw [List.length_set, hll]; exact hi), if_pos (by omega)]
    · rw [nth_set_ne _ _ _ _ (Ne.symm e1)]
      by_cases e2 : i = 2 * j
      · subst e2
        rw [nth_set_eq _ _ _ (by rw [hll]; exact hi), if_pos (by omega)]
      · rw [nth_set_ne _ _ _ _ (Ne.symm e2), ih]
        by_cases c2 : i < 2 * j
        · rw [if_pos c2, if_pos (by omega)]
        · rw [if_neg c2, if_neg (by omega)]

theorem un_lift (o : List Int) (h : Nat) (hl : 2 * h ≤ o.length) (hb : ∀ i, i < 2 * h → -1000000 ≤ nth o i ∧ nth o i ≤ 1000000) : unMid (liftMid o h h) h h = o := by
  refine ext_nth (by rw [unMid_len, liftMid_len]) fun i hi => ?_
  rw [unMid_len, liftMid_len] at hi
  have hf := liftMid_nth o h hl hb h (Nat.le_refl _)
  rw [unMid_nth (liftMid o h h) o h (by rw [liftMid_len]; exact hl) ?_ h (Nat.le_refl _) i (by rw [liftMid_len]; exact hi)]
  · by_cases c : i < 2 * h
    · rw [if_pos c]
    · rw [if_neg c, hf i hi, if_neg (by omega), if_neg c]
  · intro k hk
    have b1 := hb (2 * k) (by omega)
    have b2 := hb (2 * k + 1) (by omega)
    rw [hf k (by omega), hf (h + k) (by omega), if_pos hk, if_pos hk, if_neg (by omega), if_pos (by omega), Nat.add_sub_cancel_left, if_pos hk]
    constructor
    · rw [wrap64_small (by omega) (by omega)]; omega
    · rw [wrap64_small (by omega) (by omega)]; omega

theorem liftTo_bd (l : List Int) (M : Nat) (hl : l.length = 2 ^ M) (hb : ∀ i, i < l.length → -1000000 ≤ nth l i ∧ nth l i ≤ 1000000) : ∀ s, s ≤ M →
    (∀ i, i < 2 ^ (M - s) → -1000000 ≤ nth (liftTo l M s) i ∧ nth (liftTo l M s) i ≤ 1000000) ∧ ∀ i, i < l.length → -2000000 ≤ nth (liftTo l M s) i ∧ nth (liftTo l M s) i ≤ 2000000 := by
  intro s
  induction s with
  | zero =>
    intro _
    exact ⟨fun i hi => hb i (by rw [hl]; exact hi), fun i hi => by have := hb i hi; show -2000000 ≤ nth l i ∧ nth l i ≤ 2000000; omega⟩
  | succ s ih =>
    intro hs
    obtain ⟨i1, i2⟩ := ih (by omega)
    have e1 : 2 * 2 ^ (M - s - 1) = 2 ^ (M - s) := by rw [← Nat.pow_succ']; congr 1; omega
    have e2 : 2 ^ (M - s) ≤ l.length := by rw [hl]; exact Nat.pow_le_pow_right (by omega) (by omega)
    have hf := liftMid_nth (liftTo l M s) (2 ^ (M - s - 1)) (by rw [liftTo_len, e1]; exact e2) (by rw [e1]; exact i1) (2 ^ (M - s - 1)) (Nat.le_refl _)
    rw [liftTo_len] at hf
    have e3 : M - (s + 1) = M - s - 1 := by omega
    rw [liftTo, e3]
    generalize 2 ^ (M - s - 1) = h at *
    generalize 2 ^ (M - s) = n at *
    generalize liftTo l M s = o at *
    constructor
    · intro i hi
      rw [hf i (by omega), if_pos hi, if_pos hi]
      have b1 := i1 (2 * i) (by omega)
      have b2 := i1 (2 * i + 1) (by omega)
      omega
    · intro i hi
      rw [hf i hi]
      by_cases c1 : i < h
      · rw [if_pos c1, if_pos c1]
        have b1 := i1 (2 * i) (by omega)
        have b2 := i1 (2 * i + 1) (by omega)
        omega
      · rw [if_neg c1]
        by_cases c2 : i < 2 * h
        · rw [if_pos c2, if_pos (by omega)]
          have b1 := i1 (2 * (i - h)) (by omega)
          have b2 := i1 (2 * (i - h) + 1) (by omega)
          omega
        · rw [if_neg c2]; exact i2 i hi

theorem unTo_liftTo (l : List Int) (M : Nat) (hl : l.length = 2 ^ M) (hb : ∀ i, i < l.length → -1000000 ≤ nth l i ∧ nth l i ≤ 1000000) : ∀ s, s ≤ M → unTo (liftTo l M M) s = liftTo l M (M - s) := by
  intro s
  induction s with
  | zero => intro _; rfl
  | succ s ih =>
    intro hs
    rw [unTo, ih (by omega)]
    obtain ⟨t, ht⟩ : ∃ t, M - s = t + 1 := ⟨M - s - 1, by omega⟩
    have e1 : M - t - 1 = s := by omega
    have e2 : M - (s + 1) = t := by omega
    rw [ht, liftTo, e1, e2]
    have e3 : 2 * 2 ^ s = 2 ^ (M - t) := by rw [← Nat.pow_succ']; congr 1; omega
    refine un_lift _ _ ?_ ?_
    · rw [liftTo_len, e3, hl]; exact Nat.pow_le_pow_right (by omega) (by omega)
    · rw [e3]; exact (liftTo_bd l M hl hb t (by omega)).1

theorem bnd_of {B : Int} {l : List Int} (h : ∀ i, i < l.length → -B ≤ nth l i ∧ nth l i ≤ B) : bndB B l = true := all_of_nth fun i hi => inB_iff.2 (h i hi)

/-- P1.2 for lifts. -/
theorem lift_back {l : List Int} (h : powerB l = true) : unlE (liftAll l) = 0 ∧ unlR (liftAll l) = l := by
  unfold powerB at h
  rw [Bool.and_eq_true] at h
  obtain ⟨M, hM, hl⟩ := powB_of h.2
  have hb : ∀ i, i < l.length → -1000000 ≤ nth l i ∧ nth l i ≤ 1000000 := fun i hi => bnd_nth (vlist_iff.1 h.1).2.2 i hi
  have e1 : liftAll l = liftTo l M M := by unfold liftAll; rw [hl, Nat.log2_two_pow]
  have e2 : unAll (liftTo l M M) = l := by
    unfold unAll
    rw [liftTo_len, hl, Nat.log2_two_pow, unTo_liftTo l M hl hb M (Nat.le_refl _), Nat.sub_self]
    rfl
  have e3 : bndB 2000000 (liftTo l M M) = true := bnd_of fun i hi => by
    rw [liftTo_len] at hi
    exact (liftTo_bd l M hl hb M (Nat.le_refl _)).2 i hi
  have e4 : unlE (liftAll l) = 0 := by
    unfold unlE
    rw [e1, liftTo_len, h.2, e3, e2, h.1]; rfl
  refine ⟨e4, ?_⟩
  unfold unlR
  rw [if_pos e4, e1, e2]

/-- P1.2 for Walsh. -/
theorem walsh_back {l : List Int} (h : powerB l = true) : unwE (walS l) = 0 ∧ unwR (walS l) = l := by
  unfold powerB at h
  rw [Bool.and_eq_true] at h
  obtain ⟨M, hM, hl⟩ := powB_of h.2
  have hb : ∀ i, i < l.length → -1000000 ≤ nth l i ∧ nth l i ≤ 1000000 := fun i hi => bnd_nth (vlist_iff.1 h.1).2.2 i hi
  have hp : 0 < l.length := by rw [hl]; exact Nat.pow_pos (by omega)
  have e1 : walS (walS l) = l.map fun x => (l.length : Int) * x := by
    refine ext_nth (by rw [walS_len, walS_len, List.length_map]) fun i hi => ?_
    rw [walS_len, walS_len] at hi
    rw [(wal_twice hM hl hb i hi).1]
    simp [nth, hi]
  have e2 : bndB 256000000 (walS l) = true := bnd_of fun i hi => by
    rw [walS_len] at hi
    exact walS_bd hM hl (B := 1000000) (by omega) hb i hi
  have e3 : divL (walS (walS l)) (walS l).length = l := by
    rw [e1, walS_len]
    unfold divL
    rw [List.map_map]
    conv => rhs; rw [← List.map_id l]
    refine List.map_congr_left fun x _ => ?_
    simp only [Function.comp, id]
    exact Int.mul_tdiv_cancel_left _ (by omega)
  have e4 : ((walS (walS l)).all fun x => x.tmod (walS l).length == 0) = true := by
    rw [e1, walS_len, List.all_map, List.all_eq_true]
    intro x _
    simp [Int.mul_tmod_right]
  have e5 : unwE (walS l) = 0 := by
    unfold unwE
    rw [e3, e4, e2, walS_len, h.2, h.1]; rfl
  refine ⟨e5, ?_⟩
  unfold unwR
  rw [if_pos e5, e3]

end Go.Proofs.Ytahccnljckgjmaa
