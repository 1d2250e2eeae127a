/- What Walsh computes. No program in sight. No condition. -/
import Derived.Test.YtkkmlcengneomaaMSpec4
import Derived.Test.YtkkmlcengneomaaOnes
namespace Go.Proofs.Ytkkmlcengneomaa
open Go.RowKit Ls

def walV (i j : Nat) : Int := 1 - 2 * ((popc 9 (i &&& j) % 2 : Nat) : Int)
def walF (l : List Int) (i j : Nat) : Int := walV (nth l i).toNat j
def walRow (x : Int) (p : Nat) : List Int := (List.range p).map fun j => walV x.toNat j
def walL (l : List Int) (p : Nat) : List (List Int) := l.map fun x => walRow x p
theorem rowsF_wal (l : List Int) (p : Nat) : rowsF (walF l) p l.length = walL l p := by
  apply List.ext_getElem (by simp [rowsF, walL])
  intro i h1 h2
  have hi : i < l.length := by simpa [rowsF] using h1
  simp only [rowsF, List.getElem_map, List.getElem_range, rowF, walL, walRow]
  apply List.ext_getElem (by simp)
  intro j h3 h4
  simp only [List.getElem_map, List.getElem_range, walF]
  rw [nth_eq l i hi]
theorem walL_snoc (l : List Int) (p k : Nat) (h : k < l.length) : walL (l.take (k + 1)) p = walL (l.take k) p ++ [walRow (nth l k) p] := by
  unfold walL; rw [take_snoc l k h]; simp
theorem walL_len (l : List Int) (p : Nat) : (walL l p).length = l.length := by simp [walL]
theorem walRow_snoc (x : Int) (q : Nat) : walRow x (q + 1) = walRow x q ++ [walV x.toNat q] := by simp [walRow, List.range_succ]
theorem walRow_len (x : Int) (q : Nat) : (walRow x q).length = q := by simp [walRow]

def sideB (p : Int) : Bool := decide (p = 1 ∨ p = 2 ∨ p = 4 ∨ p = 8)
def walshE (p : Int) (l : List Int) : Int := if sideB p then (if inB l.length 1 6 then (if ascB l then (if l.all (fun i => inB i 0 (p - 1)) then 0 else 7) else 7) else 7) else 7
def walshR (p : Int) (l : List Int) : List (List Int) := if walshE p l = 0 then walL l p.toNat else []
theorem walsh_in {p : Int} {l : List Int} (h : walshE p l = 0) : sideB p = true ∧ inB l.length 1 6 = true ∧ ascB l = true ∧ l.all (fun i => inB i 0 (p - 1)) = true := by
  unfold walshE at h
  split at h
  · split at h
    · split at h
      · split at h
        · exact ⟨by assumption, by assumption, by assumption, by assumption⟩
        · omega
      · omega
    · omega
  · omega
theorem walshE_07 (p : Int) (l : List Int) : walshE p l = 0 ∨ walshE p l = 7 := by
  unfold walshE; split <;> (try split) <;> (try split) <;> (try split) <;> simp
theorem and_small : ∀ i : Nat, i < 8 → ∀ j : Nat, j < 8 → bits BinOp.and IntKind.i64 i j = ((i &&& j : Nat) : Int) := by decide +kernel
theorem and_lt {i j : Nat} (h : j < 8) : i &&& j < 300 := Nat.lt_of_le_of_lt Nat.and_le_right (by omega)
theorem walV_bd (i j : Nat) : -1 ≤ walV i j ∧ walV i j ≤ 1 := by unfold walV; have := Nat.mod_lt (popc 9 (i &&& j)) (show 0 < 2 by omega); omega
theorem side_small {p : Int} (h1 : 1 ≤ p) (h8 : p ≤ 8) : sideB p = decide (popc 9 p.toNat = 1) := by
  have : ∀ n : Nat, n < 9 → 1 ≤ n → decide ((n : Int) = 1 ∨ (n : Int) = 2 ∨ (n : Int) = 4 ∨ (n : Int) = 8) = decide (popc 9 n = 1) := by decide +kernel
  obtain ⟨n, rfl⟩ := Int.eq_ofNat_of_zero_le (show 0 ≤ p by omega)
  unfold sideB
  rw [Int.toNat_natCast]
  exact this n (by omega) (by omega)
theorem side_not {p : Int} (h : inB p 1 8 = false) : sideB p = false := by
  unfold sideB
  rw [decide_eq_false_iff_not]
  intro hp
  have : inB p 1 8 = true := by rw [inB_iff]; omega
  rw [this] at h; cases h

end Go.Proofs.Ytkkmlcengneomaa
