/- What Lift and Unlift compute, as the stores that they make. No program in sight. No condition. -/
import Derived.Test.YtahccnljckgjmaaPSpec
namespace Go.Proofs.Ytahccnljckgjmaa
open Go.RowKit Ls

/-- The sums and differences of o's pairs, j of them, stored into the two halves of the first 2h numbers. -/
def liftMid (o : List Int) (h : Nat) : Nat → List Int
  | 0 => o
  | j + 1 => ((liftMid o h j).set j (wrap64 (nth o (2 * j) + nth o (2 * j + 1)) / 2)).set (h + j) (wrap64 (nth o (2 * j) - nth o (2 * j + 1)))
theorem liftMid_len (o : List Int) (h j : Nat) : (liftMid o h j).length = o.length := by
  induction j with
  | zero => rfl
  | succ j ih => simp [liftMid, ih]
/-- The list when the pairs of the first 2^M, 2^(M-1) .. numbers have been lifted, s times. -/
def liftTo (l : List Int) (M : Nat) : Nat → List Int
  | 0 => l
  | s + 1 => liftMid (liftTo l M s) (2 ^ (M - s - 1)) (2 ^ (M - s - 1))
theorem liftTo_len (l : List Int) (M s : Nat) : (liftTo l M s).length = l.length := by
  induction s with
  | zero => rfl
  | succ s ih => rw [liftTo, liftMid_len, ih]
def unMid (o : List Int) (h : Nat) : Nat → List Int
  | 0 => o
  | j + 1 => ((unMid o h j).set (2 * j) (wrap64 (wrap64 (nth o j - nth o (h + j) / 2) + nth o (h + j)))).set (2 * j + 1) (wrap64 (nth o j - nth o (h + j) / 2))
theorem unMid_len (o : List Int) (h j : Nat) : (unMid o h j).length = o.length := by
  induction j with
  | zero => rfl
  | succ j ih => simp [unMid, ih]
def unTo (l : List Int) : Nat → List Int
  | 0 => l
  | s + 1 => unMid (unTo l s) (2 ^ s) (2 ^ s)
theorem unTo_len (l : List Int) (s : Nat) : (unTo l s).length = l.length := by
  induction s with
  | zero => rfl
  | succ s ih => rw [unTo, unMid_len, ih]
def liftAll (l : List Int) : List Int := liftTo l (Nat.log2 l.length) (Nat.log2 l.length)
def unAll (l : List Int) : List Int := unTo l (Nat.log2 l.length)
def liftE (l : List Int) : Int := if powerB l then 0 else 1
def liftR (l : List Int) : List Int := if powerB l then liftAll l else []
def unlE (l : List Int) : Int := if powB l.length && bndB 2000000 l then (if vlistB (unAll l) then 0 else 4) else 1
def unlR (l : List Int) : List Int := if unlE l = 0 then unAll l else []

end Go.Proofs.Ytahccnljckgjmaa
