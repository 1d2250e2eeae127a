/- What an argument that is a small array of integers reads as. No condition. -/
import Derived.Test.YtmijnbjlhnpokaaDoorOpen
namespace Go.Proofs.YtmijnbjlhnpokaaDoor
open Go.ChangeShapes Go.WideShapes Go.ChangeAt Go.RowKit Go.Deep Ls
end Go.Proofs.YtmijnbjlhnpokaaDoor
