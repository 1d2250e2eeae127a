/- The reference's sparsest fit, how many, the only one, the whole ones: contracts by the engine. No condition. -/
import Derived.Test.YtdibdlelmkcccaaV31
set_option linter.unusedVariables false
set_option linter.unusedSimpArgs false
namespace Go.Proofs.Ytdibdlelmkcccaa
open Go Go.RowKit Eng
end Go.Proofs.Ytdibdlelmkcccaa
