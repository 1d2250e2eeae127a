/- What choosing, permuting and signing compute. No program in sight. No condition. -/
import Derived.Test.YtkkmlcengneomaaMSpec2
namespace Go.Proofs.Ytkkmlcengneomaa
open Go.RowKit Ls

def ascB (l : List Int) : Bool := decide (∀ j, j < l.length → 0 < j → nth l (j - 1) < nth l j)
theorem ascB_iff {l : List Int} : ascB l = true ↔ ∀ j, j < l.length → 0 < j → nth l (j - 1) < nth l j := by unfold ascB; exact decide_eq_true_iff
theorem ascB_not {l : List Int} (j : Nat) (h : j < l.length) (h0 : 0 < j) (hn : ¬ nth l (j - 1) < nth l j) : ascB l = false := by
  cases hq : ascB l with
  | false => rfl
  | true => exact absurd (ascB_iff.1 hq j h h0) hn
theorem asc_ge {l : List Int} (h : ascB l = true) (h0 : ∀ j, j < l.length → 0 ≤ nth l j) (j : Nat) (hj : j < l.length) : (j : Int) ≤ nth l j := by
  induction j with
  | zero => exact h0 0 hj
  | succ j ih =>
    have h1 := ih (by omega)
    have h2 := ascB_iff.1 h (j + 1) hj (by omega)
    simp only [Nat.add_sub_cancel] at h2
    omega
theorem asc_len {l : List Int} {p : Nat} (h : ascB l = true) (h0 : ∀ j, j < l.length → 0 ≤ nth l j ∧ nth l j < p) : l.length ≤ p := by
  rcases Nat.eq_zero_or_pos l.length with hz | hz
  · omega
  · have h1 := asc_ge h (fun j hj => (h0 j hj).1) (l.length - 1) (by omega)
    have h2 := (h0 (l.length - 1) (by omega)).2
    omega

def pickL (m : List (List Int)) (l : List Int) : List (List Int) := m.map fun r => l.map fun j => nth r j.toNat
theorem pickL_snoc (m : List (List Int)) (l : List Int) (k : Nat) (h : k < m.length) : pickL (m.take (k + 1)) l = pickL (m.take k) l ++ [l.map fun j => nth (nthL m k) j.toNat] := by
  rw [takeL_snoc m k h]; simp [pickL]
theorem pickL_len (m : List (List Int)) (l : List Int) : (pickL m l).length = m.length := by simp [pickL]
def pickR (r l : List Int) (q : Nat) : List Int := (l.take q).map fun j => nth r j.toNat
theorem pickR_snoc (r l : List Int) (q : Nat) (h : q < l.length) : pickR r l (q + 1) = pickR r l q ++ [nth r (nth l q).toNat] := by
  unfold pickR; rw [take_snoc l q h]; simp
theorem pickR_all (r l : List Int) : pickR r l l.length = l.map fun j => nth r j.toNat := by unfold pickR; rw [List.take_length]
theorem pickR_len (r l : List Int) (q : Nat) (h : q ≤ l.length) : (pickR r l q).length = q := by simp [pickR]; omega

def chosenE (m : List (List Int)) (l : List Int) : Int := if validB m then (if l.length = 0 then 7 else if ascB l then namedE m l else 7) else 1
def chosenR (m : List (List Int)) (l : List Int) : List (List Int) := if chosenE m l = 0 then pickL m l else []
def permutedE (m : List (List Int)) (l : List Int) : Int := if validB m then (if l.length = (nthL m 0).length then (if namedE m l = 0 then (if l.Nodup then 0 else 7) else 5) else 9) else 1
def permutedR (m : List (List Int)) (l : List Int) : List (List Int) := if permutedE m l = 0 then pickL m l else []
def signedE (m : List (List Int)) (l : List Int) : Int := if validB m then (if ascB l then namedE m l else 7) else 1
def signRow (r l : List Int) : List Int := (List.range r.length).map fun j : Nat => if (j : Int) ∈ l then - nth r j else nth r j
def signedR (m : List (List Int)) (l : List Int) : List (List Int) := if signedE m l = 0 then m.map (fun r => signRow r l) else []

theorem named_01 {m : List (List Int)} (h : validB m = true) (l : List Int) : namedE m l = 0 ∨ namedE m l = 5 := by
  unfold namedE; rw [if_pos h]; split <;> simp

end Go.Proofs.Ytkkmlcengneomaa
