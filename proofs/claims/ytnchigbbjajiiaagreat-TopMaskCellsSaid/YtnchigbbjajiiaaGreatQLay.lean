/- slices.Sort laid at this seat. No condition. -/
import Derived.Test.YtnchigbbjajiiaaGreatProg
import Derived.Shelf.SortM.Plain
import Derived.Shelf.SortM.SortNone
import Derived.Shelf.Lay
import Derived.Ground.SlgmProg
set_option linter.unusedSimpArgs false
set_option linter.unusedVariables false
namespace Go.Proofs
open Go.Shelf
shelf_lay_g SlLaysM.n5 Slgm 5 at Tryz 136 as Tryz.sortI
end Go.Proofs
