/- What Rolled, Walsh and Seeded compute. No program in sight. No condition. -/
import Derived.Test.YtkkmlcengneomaaMSpec3
import Derived.Test.YtkkmlcengneomaaC1
namespace Go.Proofs.Ytkkmlcengneomaa
open Go.RowKit Ls

def rollF (l : List Int) (n i j : Nat) : Int := nth l ((j + l.length * n - i) % l.length)
def rollRow (l : List Int) (i : Nat) : List Int := l.drop (l.length - i % l.length) ++ l.take (l.length - i % l.length)
def rollL (l : List Int) (n : Nat) : List (List Int) := (List.range n).map (rollRow l)
theorem roll_at : ∀ L, L < 11 → ∀ n, n < 7 → ∀ i, i < n → ∀ j, j < L → (j + L * n - i) % L = if j < i % L then L - i % L + j else j - i % L := by decide +kernel
theorem rollRow_len (l : List Int) (i : Nat) : (rollRow l i).length = l.length := by
  unfold rollRow; simp
theorem rollRow_nth (l : List Int) (i j : Nat) (hl : 0 < l.length) (hj : j < l.length) : nth (rollRow l i) j = nth l (if j < i % l.length then l.length - i % l.length + j else j - i % l.length) := by
  have hm : i % l.length < l.length := Nat.mod_lt _ hl
  unfold rollRow nth
  by_cases h : j < i % l.length
  · rw [if_pos h, List.getD_eq_getElem?_getD, List.getElem?_append_left (by simp; omega), List.getElem?_drop, ← List.getD_eq_getElem?_getD]
  · rw [if_neg h, List.getD_eq_getElem?_getD, List.getElem?_append_right (by simp; omega), List.getElem?_take]
    simp only [List.length_drop]
    rw [if_pos (by omega), ← List.getD_eq_getElem?_getD]
    congr 1; omega
theorem rowsF_roll (l : List Int) (n : Nat) (h1 : 0 < l.length) (h10 : l.length ≤ 10) (hn : n ≤ 6) : rowsF (rollF l n) l.length n = rollL l n := by
  apply List.ext_getElem (by simp [rowsF, rollL])
  intro i h2 h3
  have hi : i < n := by simpa [rowsF] using h2
  simp only [rowsF, List.getElem_map, List.getElem_range, rowF, rollL]
  apply List.ext_getElem (by simp [rollRow_len])
  intro j h4 h5
  have hj : j < l.length := by simpa using h4
  simp only [List.getElem_map, List.getElem_range, rollF]
  rw [roll_at l.length (by omega) n (by omega) i hi j hj, ← rollRow_nth l i j h1 hj, nth_eq]
theorem rollL_snoc (l : List Int) (k : Nat) : rollL l (k + 1) = rollL l k ++ [rollRow l k] := by simp [rollL, List.range_succ]
theorem rollL_len (l : List Int) (k : Nat) : (rollL l k).length = k := by simp [rollL]

def rolledE (l : List Int) (n : Int) : Int := if rowB l then (if inB n 1 6 then 0 else 7) else 1
def rolledR (l : List Int) (n : Int) : List (List Int) := if rolledE l n = 0 then rollL l n.toNat else []

end Go.Proofs.Ytkkmlcengneomaa
