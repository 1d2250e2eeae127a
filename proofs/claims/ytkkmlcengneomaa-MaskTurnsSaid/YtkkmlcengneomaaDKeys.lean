/- How many different integers a list has, as a map that the call fills counts them. No program in sight. No condition. -/
import Derived.Test.YtkkmlcengneomaaCore
import Derived.Maps.Own
import Derived.Maps.OwnSet
import Derived.Maps.Views
namespace Ls
open Go Go.RowKit Go.Maps

def intKeys (l : List Int) (q : Nat) : List Lit := (l.take q).map fun j => Lit.int .i64 j
theorem intKeys_snoc (l : List Int) (q : Nat) (h : q < l.length) : intKeys l (q + 1) = intKeys l q ++ [Lit.int .i64 (nth l q)] := by
  unfold intKeys; rw [take_snoc l q h]; simp
def seenOf (H : Type) (l : List Int) (q : Nat) : DataW H := setOf (.lit (.bool true)) (intKeys l q)
theorem seenOf_snoc (H : Type) (l : List Int) (q : Nat) (h : q < l.length) : seenOf H l (q + 1) = (seenOf H l q).put (Lit.int .i64 (nth l q)) (.lit (.bool true)) := by
  unfold seenOf; rw [intKeys_snoc l q h, setOf_snoc]
theorem seenOf_zero (H : Type) (l : List Int) : seenOf H l 0 = .map [] := by simp [seenOf, intKeys, setOf]

theorem any_key (acc : List Int) (x : Int) : (acc.map fun j => Lit.int .i64 j).any (fun y => y.sameKey (Lit.int .i64 x)) = decide (x ∈ acc) := by
  induction acc with
  | nil => simp
  | cons a l ih => 
    rw [List.map_cons, List.any_cons, ih]
    have : (Lit.int .i64 a).sameKey (Lit.int .i64 x) = decide (a = x) := by simp [Lit.sameKey]
    rw [this]
    simp [eq_comm]
def addInt (acc : List Int) (x : Int) : List Int := if x ∈ acc then acc else acc ++ [x]
theorem fold_key (xs acc : List Int) : (xs.map fun j => Lit.int .i64 j).foldl addKey (acc.map fun j => Lit.int .i64 j) = (xs.foldl addInt acc).map fun j => Lit.int .i64 j := by
  induction xs generalizing acc with
  | nil => rfl
  | cons a l ih =>
    rw [List.map_cons, List.foldl_cons, List.foldl_cons, ← ih]
    congr 1
    unfold addKey addInt
    rw [any_key]
    by_cases h : a ∈ acc <;> simp [h]
theorem fold_le (xs acc : List Int) : (xs.foldl addInt acc).length ≤ acc.length + xs.length := by
  induction xs generalizing acc with
  | nil => simp
  | cons a l ih =>
    rw [List.foldl_cons]
    have := ih (addInt acc a)
    have h2 : (addInt acc a).length ≤ acc.length + 1 := by unfold addInt; split <;> simp
    simp only [List.length_cons]; omega
theorem fold_all (xs acc : List Int) (h : xs.Nodup) (hd : ∀ x ∈ xs, x ∉ acc) : (xs.foldl addInt acc).length = acc.length + xs.length := by
  induction xs generalizing acc with
  | nil => simp
  | cons a l ih =>
    rw [List.foldl_cons]
    rw [List.nodup_cons] at h
    have e : addInt acc a = acc ++ [a] := by unfold addInt; rw [if_neg (hd a (by simp))]
    rw [e, ih _ h.2 (fun x hx => by
      rw [List.mem_append, not_or]
      refine ⟨hd x (by simp [hx]), ?_⟩
      rintro hxa
      simp at hxa
      subst hxa
      exact h.1 hx)]
    simp; omega
theorem fold_less (xs acc : List Int) (h : ¬ (xs.Nodup ∧ ∀ x ∈ xs, x ∉ acc)) : (xs.foldl addInt acc).length < acc.length + xs.length := by
  induction xs generalizing acc with
  | nil => simp at h
  | cons a l ih =>
    rw [List.foldl_cons]
    by_cases ha : a ∈ acc
    · have e : addInt acc a = acc := by unfold addInt; rw [if_pos ha]
      rw [e]
      have := fold_le l acc
      simp only [List.length_cons]; omega
    · have e : addInt acc a = acc ++ [a] := by unfold addInt; rw [if_neg ha]
      rw [e]
      have := ih (acc ++ [a]) (fun hc => h ⟨by
        rw [List.nodup_cons]
        refine ⟨fun hl => ?_, hc.1⟩
        exact hc.2 a hl (by simp), fun x hx => by
        rcases List.mem_cons.1 hx with rfl | hx
        · exact ha
        · intro hxa; exact hc.2 x hx (by simp [hxa])⟩)
      simp only [List.length_append, List.length_cons, List.length_nil] at this ⊢; omega
theorem seen_size (H : Type) (l : List Int) : Maps.size (seenOf H l l.length) = (l.foldl addInt []).length := by
  unfold seenOf
  rw [size_setOf _ _ (by
    intro x hx
    unfold intKeys at hx
    rw [List.mem_map] at hx
    obtain ⟨j, _, rfl⟩ := hx
    simp [WideAt.IsKeyLit])]
  unfold intKeys
  rw [List.take_length]
  have := fold_key l []
  simp only [List.map_nil] at this
  rw [this, List.length_map]
theorem seen_less (H : Type) (l : List Int) (h : ¬ l.Nodup) : Maps.size (seenOf H l l.length) < l.length := by
  rw [seen_size]; have := fold_less l [] (fun hc => h hc.1); simpa using this
theorem seen_all (H : Type) (l : List Int) (h : l.Nodup) : Maps.size (seenOf H l l.length) = l.length := by
  rw [seen_size]; have := fold_all l [] h (by simp); simpa using this

end Ls
