/- Rows of the call's own that hold rows of the call's own: a slice of slices that is being built. No condition. -/
import Derived.Test.YtnchigbbjajiiaaGreatCore
import Derived.Deep.RegionLaw
set_option linter.unusedVariables false
set_option linter.unusedSimpArgs false
namespace Ls
open Go Go.RowKit
theorem below_none {w w':World} (h:w.grownBy w' none):Below w.heap.size w w':=(zc0 _ w).grown h (zad _) (λk e=>by cases e)
theorem add_zero_lit (g j:Nat):(⟨g,0,none⟩:Addr).add j=⟨g,j,none⟩:=by grind [Addr.add]
end Ls
