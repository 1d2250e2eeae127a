/- Functions that write into a box, or make one: contracts out of conditions. No condition. -/
import Derived.Test.YtmijnbjlhnpokaaGreatEng3
set_option linter.unusedVariables false
set_option linter.unusedSimpArgs false
namespace Eng
open Go Go.RowKit
section
variable {P : Program} {C : Ctx}
end
end Eng
