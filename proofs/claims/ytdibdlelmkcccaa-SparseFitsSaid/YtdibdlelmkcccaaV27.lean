/- Whole pictures: contracts by the engine. No condition. -/
import Derived.Test.YtdibdlelmkcccaaV26
set_option linter.unusedVariables false
set_option linter.unusedSimpArgs false
namespace Go.Proofs.Ytdibdlelmkcccaa
open Go Go.RowKit Eng
def nQ (l : List (Int × Int)) (i : Nat) : Int × Int := qa1 q6q l i
structure xj1 (n : Nat) (f : Fit) : Prop where
  len : f.2.length = f.1.length
  lenB : f.1.length <= 1000
  at_ : ∀ j, j < f.1.length -> 0 <= nI f.1 j /\ nI f.1 j < n
end Go.Proofs.Ytdibdlelmkcccaa
