/- What Lift and Unlift compute, as the stores that they make. No program in sight. No condition. -/
import Derived.Test.YtmijnbjlhnpokaaDoorPSpec
namespace Go.Proofs.YtmijnbjlhnpokaaDoor
open Go.RowKit Ls
def liftMid (o : List Int) (h : Nat) : Nat -> List Int
  | 0 => o
  | j + 1 => ((liftMid o h j).set j (wrap64 (nth o (2 * j) + nth o (2 * j + 1)) / 2)).set (h + j) (wrap64 (nth o (2 * j) - nth o (2 * j + 1)))
theorem liftMid_len (o : List Int) (h j : Nat) : (liftMid o h j).length = o.length := by
  induction j with
  | zero => rfl
  | succ j ih => simp [liftMid, ih]
def liftTo (l : List Int) (M : Nat) : Nat -> List Int
  | 0 => l
  | s + 1 => liftMid (liftTo l M s) (2 ^ (M - s - 1)) (2 ^ (M - s - 1))
theorem liftTo_len (l : List Int) (M s : Nat) : (liftTo l M s).length = l.length := by
  induction s with
  | zero => rfl
  | succ s ih => rw [liftTo, liftMid_len, ih]
def liftAll (l : List Int) : List Int := liftTo l (Nat.log2 l.length) (Nat.log2 l.length)
def liftE (l : List Int) : Int := if powerB l then 0 else 1
def liftR (l : List Int) : List Int := if powerB l then liftAll l else []
end Go.Proofs.YtmijnbjlhnpokaaDoor
