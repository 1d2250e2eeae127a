/- The places of the greatest sizes: the walk of largest. No condition. -/
import Derived.Test.YtmijnbjlhnpokaaGreatQ6
import Derived.Test.YtmijnbjlhnpokaaGreatQLay
set_option linter.unusedVariables false
set_option linter.unusedSimpArgs false
namespace Go.Proofs.YtmijnbjlhnpokaaGreat
open Go Go.Proofs Go.RowKit Eng Ls Go.Sort Go.Shelf
end Go.Proofs.YtmijnbjlhnpokaaGreat
