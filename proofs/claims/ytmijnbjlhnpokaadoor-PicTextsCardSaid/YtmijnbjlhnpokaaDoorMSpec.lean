/- What the functions of the packages mask and lightsieveref02 compute, as plain functions on lists of integers. No program in sight. No condition. -/
import Derived.Test.YtmijnbjlhnpokaaDoorCore
namespace Go.Proofs.YtmijnbjlhnpokaaDoor
open Go.RowKit Ls
def inB (n lo hi : Int) : Bool := decide (lo <= n) && decide (n <= hi)
theorem inB_iff {n lo hi : Int} : inB n lo hi = true ↔ lo <= n /\ n <= hi := by simp [inB]
def rowB (l : List Int) : Bool := inB l.length 1 10 && l.all fun n => inB n (-1) 1
def fitB (m : List (List Int)) (l : List Int) : Bool := decide (l.length = (nthL m 0).length) && rowB l
def validB (m : List (List Int)) : Bool := inB m.length 1 6 && m.all (fitB m)
structure IsMask (m : List (List Int)) : Prop where
  rows1 : 1 <= m.length
  rows6 : m.length <= 6
  pix1 : 1 <= (nthL m 0).length
  pix10 : (nthL m 0).length <= 10
  each : ∀ k, k < m.length -> (nthL m k).length = (nthL m 0).length
  small : ∀ k, k < m.length -> ∀ j, j < (nthL m 0).length -> -1 <= nth (nthL m k) j /\ nth (nthL m k) j <= 1
theorem all_nthL {p : List Int -> Bool} {m : List (List Int)} (h : m.all p = true) (k : Nat) (hk : k < m.length) : p (nthL m k) = true := by
  rw [nthL_eq m k hk]; exact List.all_eq_true.1 h _ (List.getElem_mem _)
theorem all_nth {p : Int -> Bool} {l : List Int} (h : l.all p = true) (k : Nat) (hk : k < l.length) : p (nth l k) = true := by
  rw [nth_eq l k hk]; exact List.all_eq_true.1 h _ (List.getElem_mem _)
theorem all_of_nth {p : Int -> Bool} {l : List Int} (h : ∀ k, k < l.length -> p (nth l k) = true) : l.all p = true := by
  rw [List.all_eq_true]; intro x hx
  obtain ⟨k, hk, rfl⟩ := List.getElem_of_mem hx
  have := h k hk; rwa [nth_eq l k hk] at this
theorem not_all_of {p : Int -> Bool} {l : List Int} (k : Nat) (hk : k < l.length) (h : p (nth l k) = false) : l.all p = false := by
  cases hq : l.all p with
  | false => rfl
  | true => rw [all_nth hq k hk] at h; cases h
theorem IsMask.of {m : List (List Int)} (h : validB m = true) : IsMask m := by
  unfold validB at h
  rw [Bool.and_eq_true, inB_iff] at h
  have hf := fun k hk => all_nthL h.2 k hk
  have h0 := hf 0 (by omega)
  simp only [fitB, rowB, Bool.and_eq_true, decide_eq_true_eq, inB_iff] at hf h0
  exact ⟨by omega, by omega, by omega, by omega, fun k hk => (hf k hk).1, fun k hk j hj => by
    have := all_nth (hf k hk).2.2 j (by rw [(hf k hk).1]; exact hj)
    rwa [inB_iff] at this⟩
def sameB (a b : List Int) : Bool := decide (a = b)
theorem same_of {a b : List Int} (hl : a.length = b.length) (h : ∀ k, k < a.length -> nth a k = nth b k) : a = b := by
  apply List.ext_getElem hl
  intro k h1 h2
  have := h k h1
  rwa [nth_eq a k h1, nth_eq b k h2] at this
end Go.Proofs.YtmijnbjlhnpokaaDoor
