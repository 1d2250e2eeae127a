/- Contracts of Unwalsh of pic and lightsieveref01. No condition. -/
import Derived.Test.YtmijnbjlhnpokaaDoorP3
namespace Go.Proofs.YtmijnbjlhnpokaaDoor
open Go.RowKit Ls
end Go.Proofs.YtmijnbjlhnpokaaDoor
