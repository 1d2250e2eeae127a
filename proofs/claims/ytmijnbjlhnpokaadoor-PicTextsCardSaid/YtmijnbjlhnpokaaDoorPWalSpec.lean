/- What pic's walsh computes: butterflies, at distances 1, 2, 4 ... No program in sight. No condition. -/
import Derived.Test.YtmijnbjlhnpokaaDoorPPairs
namespace Go.Proofs.YtmijnbjlhnpokaaDoor
open Go.RowKit Ls
def bfly (l : List Int) (p : Nat × Nat) : List Int := (l.set p.1 (IntKind.i64.wrap (nth l p.1 + nth l p.2))).set p.2 (IntKind.i64.wrap (nth l p.1 - nth l p.2))
theorem ints_bfly (l : List Int) (i j : Nat) : ints (bfly l (i, j)) = ((ints l).set i (.int .i64 (IntKind.i64.wrap (nth l i + nth l j)))).set j (.int .i64 (IntKind.i64.wrap (nth l i - nth l j))) := by simp [ints, bfly, List.map_set]
theorem bfly_len (l : List Int) (p : Nat × Nat) : (bfly l p).length = l.length := by simp [bfly]
def bflies (ps : List (Nat × Nat)) (l : List Int) : List Int := ps.foldl bfly l
theorem bflies_snoc (ps : List (Nat × Nat)) (p : Nat × Nat) (l : List Int) : bflies (ps ++ [p]) l = bfly (bflies ps l) p := by simp [bflies]
theorem bflies_len (ps : List (Nat × Nat)) (l : List Int) : (bflies ps l).length = l.length := by
  unfold bflies
  induction ps generalizing l with
  | nil => rfl
  | cons p ps ih => rw [List.foldl_cons, ih, bfly_len]
def walTo (l : List Int) : Nat -> List Int
  | 0 => l
  | e + 1 => bflies (pairsTo (2 ^ e) l.length) (walTo l e)
theorem walTo_len (l : List Int) (e : Nat) : (walTo l e).length = l.length := by
  induction e with
  | zero => rfl
  | succ e ih => rw [walTo, bflies_len, ih]
end Go.Proofs.YtmijnbjlhnpokaaDoor
