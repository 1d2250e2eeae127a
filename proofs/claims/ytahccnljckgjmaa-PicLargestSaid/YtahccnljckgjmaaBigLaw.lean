/- The k numbers of a list with the greatest sizes. No program in sight. No condition. -/
import Derived.Test.YtahccnljckgjmaaKpLaw
namespace Go.Proofs.Ytahccnljckgjmaa
open Go.RowKit Ls

/-! ### A sorted list's beginning -/
/-- A strict order of all numbers. -/
structure Tot (lt : Int → Int → Bool) : Prop where
  irr : ∀ x, lt x x = false
  tr : ∀ x y z, lt x y = true → lt y z = true → lt x z = true
  tot : ∀ x y, lt x y = false → lt y x = false → x = y
theorem Tot.asym {lt : Int → Int → Bool} (h : Tot lt) {x y : Int} (k : lt x y = true) : lt y x = false := by
  cases e : lt y x with
  | false => rfl
  | true => have := h.tr _ _ _ k e; rw [h.irr] at this; cases this
theorem Tot.ntr {lt : Int → Int → Bool} (h : Tot lt) {x y z : Int} (h1 : lt x y = false) (h2 : lt y z = false) : lt x z = false := by
  cases e : lt x z with
  | false => rfl
  | true =>
    cases e1 : lt y x with
    | true => have := h.tr _ _ _ e1 e; rw [h2] at this; cases this
    | false =>
      obtain rfl := h.tot _ _ h1 e1
      rw [h2] at e; cases e
theorem take_filter {lt : Int → Int → Bool} (h : Tot lt) : ∀ (s : List Int) (k : Nat), s.Nodup → s.Pairwise (fun x y => lt y x = false) → s.take k = s.filter fun x => decide (s.countP (fun y => lt y x) < k)
  | [], k, _, _ => by simp
  | a :: r, 0, _, _ => by simp
  | a :: r, k + 1, hn, hp => by
    obtain ⟨hn1, hn2⟩ := List.nodup_cons.1 hn
    obtain ⟨hp1, hp2⟩ := List.pairwise_cons.1 hp
    have h0 : (a :: r).countP (fun y => lt y a) = 0 := by
      rw [List.countP_eq_zero]
      intro b hb
      rcases List.mem_cons.1 hb with rfl | hb
      · simp [h.irr]
      · simp [hp1 b hb]
    rw [List.take_succ_cons, List.filter_cons_of_pos (by rw [h0]; simp), take_filter h r k hn2 hp2]
    congr 1
    apply List.filter_congr
    intro x hx
    have hax : lt a x = true := by
      cases e : lt a x with
      | true => rfl
      | false =>
        obtain rfl := h.tot _ _ e (hp1 x hx)
        exact absurd hx hn1
    rw [List.countP_cons_of_pos (by simpa using hax)]
    congr 1
    exact propext ⟨fun q => by omega, fun q => by omega⟩
theorem srt_law {lt : Int → Int → Bool} (h : Tot lt) (R : List Int) (hR : R.Pairwise (· < ·)) (k : Nat) :
    (((R.mergeSort fun x y => !lt y x).take k).mergeSort fun x y => decide (x ≤ y)) = R.filter fun x => decide (R.countP (fun y => lt y x) < k) := by
  have hnR : R.Nodup := hR.imp fun q => by omega
  have hperm := List.mergeSort_perm R fun x y => !lt y x
  obtain ⟨s, hs⟩ : ∃ s, R.mergeSort (fun x y => !lt y x) = s := ⟨_, rfl⟩
  have hpw := List.pairwise_mergeSort (le := fun x y => !lt y x) (fun a b c h1 h2 => by
    simp only [Bool.not_eq_true'] at h1 h2 ⊢
    exact h.ntr h2 h1) (fun a b => by
    cases e : lt b a with
    | false => simp
    | true => simp [h.asym e]) R
  rw [hs] at hperm hpw ⊢
  have htf := take_filter h s k (hperm.nodup_iff.2 hnR) (hpw.imp fun q => by simpa using q)
  have hc : ∀ x, s.countP (fun y => lt y x) = R.countP fun y => lt y x := fun x => hperm.countP_eq _
  have htf2 : s.take k = s.filter fun x => decide (R.countP (fun y => lt y x) < k) := by
    rw [htf]
    exact List.filter_congr fun x _ => by rw [hc]
  refine List.Perm.eq_of_pairwise (le := fun x y => x ≤ y) (fun a b _ _ h1 h2 => by omega) ?_ ?_ ?_
  · exact (List.pairwise_mergeSort (le := fun x y : Int => decide (x ≤ y)) (fun a b c h1 h2 => by simp at h1 h2 ⊢; omega) (fun a b => by simp; omega) _).imp fun q => by simpa using q
  · exact (hR.filter _).imp fun q => by omega
  · refine (List.mergeSort_perm _ _).trans ?_
    rw [htf2]
    exact hperm.filter _

/-! ### Sizes -/
/-- 'x' comes ahead of 'y'. -/
def ltS (l : List Int) (x y : Int) : Bool := decide (sz (nth l y.toNat) < sz (nth l x.toNat) ∨ sz (nth l x.toNat) = sz (nth l y.toNat) ∧ x < y)
theorem ltS_tot (l : List Int) : Tot (ltS l) where
  irr x := by simp [ltS]
  tr x y z h1 h2 := by simp only [ltS, decide_eq_true_eq] at h1 h2 ⊢; omega
  tot x y h1 h2 := by simp only [ltS, decide_eq_false_iff_not] at h1 h2; omega
def idx (n : Nat) : List Int := (List.range n).map Int.ofNat
theorem idx_pw (n : Nat) : (idx n).Pairwise (· < ·) := by
  unfold idx
  rw [List.pairwise_map]
  exact List.pairwise_lt_range.imp fun q => Int.ofNat_lt.2 q
/-- How many are ahead of one. -/
def aheadN (l : List Int) (i : Nat) : Nat := (idx l.length).countP fun y => ltS l y i
/-- The indexes of the 'k' greatest. -/
def bigL (l : List Int) (k : Nat) : List Int := (idx l.length).filter fun x => decide ((idx l.length).countP (fun y => ltS l y x) < k)
theorem big_law (l : List Int) (k : Nat) : ((((idx l.length).mergeSort fun x y => !ltS l y x).take k).mergeSort fun x y => decide (x ≤ y)) = bigL l k := srt_law (ltS_tot l) _ (idx_pw _) k

theorem bigL_len (l : List Int) (k : Nat) (hk : k ≤ l.length) : (bigL l k).length = k := by
  rw [← big_law, List.length_mergeSort, List.length_take, List.length_mergeSort]
  simp [idx]; omega

/-! ### No others have a greater size together -/
def sumF (f : Int → Int) : List Int → Int
  | [] => 0
  | x :: r => f x + sumF f r
theorem sumF_append (f : Int → Int) : ∀ a b : List Int, sumF f (a ++ b) = sumF f a + sumF f b
  | [], b => by simp [sumF]
  | x :: a, b => by simp [sumF, sumF_append f a b]; omega
theorem sumF_perm (f : Int → Int) {a b : List Int} (h : a.Perm b) : sumF f a = sumF f b := by
  induction h with
  | nil => rfl
  | cons x _ ih => simp [sumF, ih]
  | swap x y l => simp [sumF]; omega
  | trans _ _ ih1 ih2 => exact ih1.trans ih2
theorem take_more (f : Int → Int) (a : Int) : ∀ (s : List Int) (m : Nat), (∀ y ∈ s, f y ≤ f a) → m < s.length → sumF f (s.take (m + 1)) ≤ f a + sumF f (s.take m)
  | [], m, _, h => by simp at h
  | x :: s, 0, h, _ => by simpa [sumF] using h x (by simp)
  | x :: s, m + 1, h, hm => by
    have := take_more f a s m (fun y hy => h y (by simp [hy])) (by simpa using hm)
    simp only [List.take_succ_cons, sumF] at this ⊢
    omega
theorem sub_take (f : Int → Int) {t s : List Int} (h : t.Sublist s) (hp : s.Pairwise fun x y => f y ≤ f x) : sumF f t ≤ sumF f (s.take t.length) := by
  induction h with
  | slnil => simp [sumF]
  | @cons t s a hs ih =>
    obtain ⟨h1, h2⟩ := List.pairwise_cons.1 hp
    have := ih h2
    have hl := hs.length_le
    cases e : t.length with
    | zero => rw [e] at this; simpa using this
    | succ m =>
      rw [e] at this hl
      have := take_more f a s m h1 (by omega)
      simp only [List.take_succ_cons, sumF]
      omega
  | @cons_cons t s a hs ih =>
    have := ih (List.pairwise_cons.1 hp).2
    simp only [List.length_cons, List.take_succ_cons, sumF]
    omega
def szAt (l : List Int) (x : Int) : Int := sz (nth l x.toNat)
theorem big_most (l : List Int) (p : Int → Bool) : sumF (szAt l) ((idx l.length).filter p) ≤ sumF (szAt l) (bigL l ((idx l.length).filter p).length) := by
  obtain ⟨s, hs⟩ : ∃ s, (idx l.length).mergeSort (fun x y => !ltS l y x) = s := ⟨_, rfl⟩
  have hperm := List.mergeSort_perm (idx l.length) fun x y => !ltS l y x
  have hpw := List.pairwise_mergeSort (le := fun x y => !ltS l y x) (fun a b c h1 h2 => by
    simp only [Bool.not_eq_true'] at h1 h2 ⊢
    exact (ltS_tot l).ntr h2 h1) (fun a b => by
    cases e : ltS l b a with
    | false => simp
    | true => simp [(ltS_tot l).asym e]) (idx l.length)
  rw [hs] at hperm hpw
  have hf : (s.filter p).Perm ((idx l.length).filter p) := hperm.filter p
  have h1 := sub_take (szAt l) (t := s.filter p) List.filter_sublist (hpw.imp fun {x y} q => by
    have q : ltS l y x = false := by simpa using q
    simp only [ltS, decide_eq_false_iff_not] at q
    unfold szAt
    omega)
  rw [sumF_perm _ hf, hf.length_eq] at h1
  refine Int.le_trans h1 (Int.le_of_eq ?_)
  rw [← big_law, hs]
  exact (sumF_perm _ (List.mergeSort_perm _ _)).symm
end Go.Proofs.Ytahccnljckgjmaa
