/- Contracts of Unlift of pic and lightsieveref01. No condition. -/
import Derived.Test.YtmijnbjlhnpokaaDoorP5
namespace Go.Proofs.YtmijnbjlhnpokaaDoor
open Go.RowKit Ls
end Go.Proofs.YtmijnbjlhnpokaaDoor
