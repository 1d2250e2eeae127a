/- What the functions of the packages mask and lightsieveref02 compute, as plain functions on lists of integers. No program in sight. No condition. -/
import Derived.Test.YtkkmlcengneomaaCore
namespace Go.Proofs.Ytkkmlcengneomaa
open Go.RowKit Ls

def inB (n lo hi : Int) : Bool := decide (lo ≤ n) && decide (n ≤ hi)
theorem inB_iff {n lo hi : Int} : inB n lo hi = true ↔ lo ≤ n ∧ n ≤ hi := by simp [inB]

def wdot (s : Int) : List Int → List Int → Int
  | a :: l, b :: r => wdot (wrap64 (s + wrap64 (a * b))) l r
  | _, _ => s

theorem wdot_take (A B : List Int) (k : Nat) (h : k < A.length) (h2 : k < B.length) (s : Int) :
    wdot s (A.take (k+1)) (B.take (k+1)) = wrap64 (wdot s (A.take k) (B.take k) + wrap64 (nth A k * nth B k)) := by
  induction A generalizing B k s with
  | nil => simp at h
  | cons a l ih =>
    cases B with
    | nil => simp at h2
    | cons b r =>
      cases k with
      | zero => simp [wdot, nth]
      | succ k =>
        simp only [List.take_succ_cons, wdot]
        have := ih r k (by simpa using h) (by simpa using h2) (wrap64 (s + wrap64 (a * b)))
        rw [this]; simp [nth]

theorem wdot_full (A B : List Int) (h : A.length ≤ B.length) (s : Int) : wdot s A (B.take A.length) = wdot s A B := by
  induction A generalizing B s with
  | nil => cases B <;> simp [wdot]
  | cons a l ih =>
    cases B with
    | nil => simp [wdot]
    | cons b r => simp only [List.length_cons, List.take_succ_cons, wdot]; exact ih r (by simpa using h) _

def colL (m : List (List Int)) (j : Nat) : List Int := m.map fun l => nth l j
theorem colL_snoc (m : List (List Int)) (j k : Nat) (h : k < m.length) : colL (m.take (k + 1)) j = colL (m.take k) j ++ [nth (nthL m k) j] := by
  rw [takeL_snoc m k h]; simp [colL]
theorem colL_len (m : List (List Int)) (j : Nat) : (colL m j).length = m.length := by simp [colL]

def rowB (l : List Int) : Bool := inB l.length 1 10 && l.all fun n => inB n (-1) 1
def fitB (m : List (List Int)) (l : List Int) : Bool := decide (l.length = (nthL m 0).length) && rowB l
def validB (m : List (List Int)) : Bool := inB m.length 1 6 && m.all (fitB m)

/-- What a valid mask gives. -/
structure IsMask (m : List (List Int)) : Prop where
  rows1 : 1 ≤ m.length
  rows6 : m.length ≤ 6
  pix1 : 1 ≤ (nthL m 0).length
  pix10 : (nthL m 0).length ≤ 10
  each : ∀ k, k < m.length → (nthL m k).length = (nthL m 0).length
  small : ∀ k, k < m.length → ∀ j, j < (nthL m 0).length → -1 ≤ nth (nthL m k) j ∧ nth (nthL m k) j ≤ 1

theorem all_nthL {p : List Int → Bool} {m : List (List Int)} (h : m.all p = true) (k : Nat) (hk : k < m.length) : p (nthL m k) = true := by
  rw [nthL_eq m k hk]; exact List.all_eq_true.1 h _ (List.getElem_mem _)
theorem all_nth {p : Int → Bool} {l : List Int} (h : l.all p = true) (k : Nat) (hk : k < l.length) : p (nth l k) = true := by
  rw [nth_eq l k hk]; exact List.all_eq_true.1 h _ (List.getElem_mem _)
theorem all_of_nth {p : Int → Bool} {l : List Int} (h : ∀ k, k < l.length → p (nth l k) = true) : l.all p = true := by
  rw [List.all_eq_true]; intro x hx
  obtain ⟨k, hk, rfl⟩ := List.getElem_of_mem hx
  have := h k hk; rwa [nth_eq l k hk] at this
theorem all_of_nthL {p : List Int → Bool} {l : List (List Int)} (h : ∀ k, k < l.length → p (nthL l k) = true) : l.all p = true := by
  rw [List.all_eq_true]; intro x hx
  obtain ⟨k, hk, rfl⟩ := List.getElem_of_mem hx
  have := h k hk; rwa [nthL_eq l k hk] at this
theorem not_all_of {p : Int → Bool} {l : List Int} (k : Nat) (hk : k < l.length) (h : p (nth l k) = false) : l.all p = false := by
  cases hq : l.all p with
  | false => rfl
  | true => rw [all_nth hq k hk] at h; cases h
theorem not_all_ofL {p : List Int → Bool} {l : List (List Int)} (k : Nat) (hk : k < l.length) (h : p (nthL l k) = false) : l.all p = false := by
  cases hq : l.all p with
  | false => rfl
  | true => rw [all_nthL hq k hk] at h; cases h

theorem IsMask.of {m : List (List Int)} (h : validB m = true) : IsMask m := by
  unfold validB at h
  rw [Bool.and_eq_true, inB_iff] at h
  have hf := fun k hk => all_nthL h.2 k hk
  have h0 := hf 0 (by omega)
  simp only [fitB, rowB, Bool.and_eq_true, decide_eq_true_eq, inB_iff] at hf h0
  exact ⟨by omega, by omega, by omega, by omega, fun k hk => (hf k hk).1, fun k hk j hj => by
    have := all_nth (hf k hk).2.2 j (by rw [(hf k hk).1]; exact hj)
    rwa [inB_iff] at this⟩

/-- The first error of a list: its length, then its numbers. -/
def listedE (len most : Int) (l : List Int) : Int := if (l.length : Int) ≠ len then 9 else if l.all (fun n => inB n (-most) most) then 0 else 7
def listE (m : List (List Int)) (len most : Int) (x : List Int) : Int := if validB m then listedE len most x else 1
def shownE (m : List (List Int)) (x : List Int) : Int := listE m (nthL m 0).length 1000000 x
def backE (m : List (List Int)) (y : List Int) : Int := listE m m.length 1000000000 y
def namedE (m : List (List Int)) (l : List Int) : Int := if validB m then (if l.all (fun j => inB j 0 ((nthL m 0).length - 1)) then 0 else 5) else 1

def readL (m : List (List Int)) (x : List Int) : List Int := m.map fun l => wdot 0 l x
def readR (m : List (List Int)) (x : List Int) : List Int := if shownE m x = 0 then readL m x else []
theorem readL_snoc (m : List (List Int)) (x : List Int) (k : Nat) (h : k < m.length) : readL (m.take (k + 1)) x = readL (m.take k) x ++ [wdot 0 (nthL m k) x] := by
  rw [takeL_snoc m k h]; simp [readL]
theorem readL_len (m : List (List Int)) (x : List Int) : (readL m x).length = m.length := by simp [readL]
def backL (m : List (List Int)) (y : List Int) (n : Nat) : List Int := (List.range n).map fun j => wdot 0 (colL m j) y
def backR (m : List (List Int)) (y : List Int) : List Int := if backE m y = 0 then backL m y (nthL m 0).length else []
theorem backL_snoc (m : List (List Int)) (y : List Int) (k : Nat) : backL m y (k + 1) = backL m y k ++ [wdot 0 (colL m k) y] := by
  simp [backL, List.range_succ]
theorem backL_len (m : List (List Int)) (y : List Int) (k : Nat) : (backL m y k).length = k := by simp [backL]

theorem shown_mask {m : List (List Int)} {x : List Int} (h : shownE m x = 0) : IsMask m ∧ x.length = (nthL m 0).length ∧ ∀ j, j < x.length → -1000000 ≤ nth x j ∧ nth x j ≤ 1000000 := by
  unfold shownE listE at h
  split at h
  · rename_i hv
    refine ⟨IsMask.of hv, ?_⟩
    unfold listedE at h
    split at h
    · omega
    · split at h
      · rename_i h1 h2
        exact ⟨by omega, fun j hj => by have := all_nth h2 j hj; rwa [inB_iff] at this⟩
      · omega
  · omega
theorem back_mask {m : List (List Int)} {y : List Int} (h : backE m y = 0) : IsMask m ∧ y.length = m.length ∧ ∀ j, j < y.length → -1000000000 ≤ nth y j ∧ nth y j ≤ 1000000000 := by
  unfold backE listE at h
  split at h
  · rename_i hv
    refine ⟨IsMask.of hv, ?_⟩
    unfold listedE at h
    split at h
    · omega
    · split at h
      · rename_i h1 h2
        exact ⟨by omega, fun j hj => by have := all_nth h2 j hj; rwa [inB_iff] at this⟩
      · omega
  · omega
theorem named_mask {m : List (List Int)} {l : List Int} (h : namedE m l = 0) : IsMask m ∧ ∀ k, k < l.length → 0 ≤ nth l k ∧ nth l k < (nthL m 0).length := by
  unfold namedE at h
  split at h
  · rename_i hv
    refine ⟨IsMask.of hv, ?_⟩
    split at h
    · rename_i h2
      exact fun k hk => by
        have := all_nth h2 k hk
        rw [inB_iff] at this
        omega
    · omega
  · omega

def colR (m : List (List Int)) (j : Int) : List Int := if namedE m [j] = 0 then colL m j.toNat else []
def prodV (m : List (List Int)) (i j : Int) : Int := if namedE m [i, j] = 0 then wdot 0 (colL m i.toNat) (colL m j.toNat) else 0
theorem named1 {m : List (List Int)} {j : Int} (h : namedE m [j] = 0) : IsMask m ∧ 0 ≤ j ∧ j < (nthL m 0).length := by
  obtain ⟨h1, h2⟩ := named_mask h
  exact ⟨h1, h2 0 (by simp)⟩
theorem named2 {m : List (List Int)} {i j : Int} (h : namedE m [i, j] = 0) : IsMask m ∧ (0 ≤ i ∧ i < (nthL m 0).length) ∧ 0 ≤ j ∧ j < (nthL m 0).length := by
  obtain ⟨h1, h2⟩ := named_mask h
  exact ⟨h1, h2 0 (by simp), h2 1 (by simp)⟩

/-- SameInts. -/
def sameB (a b : List Int) : Bool := decide (a = b)
theorem same_of {a b : List Int} (hl : a.length = b.length) (h : ∀ k, k < a.length → nth a k = nth b k) : a = b := by
  apply List.ext_getElem hl
  intro k h1 h2
  have := h k h1
  rwa [nth_eq a k h1, nth_eq b k h2] at this

end Go.Proofs.Ytkkmlcengneomaa
