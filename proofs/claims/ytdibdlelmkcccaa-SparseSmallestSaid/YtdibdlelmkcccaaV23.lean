/- The reference's circuits: contracts by the engine. No condition. -/
import Derived.Test.YtdibdlelmkcccaaV22
set_option linter.unusedVariables false
set_option linter.unusedSimpArgs false
namespace Go.Proofs.Ytdibdlelmkcccaa
open Go Go.RowKit Eng
end Go.Proofs.Ytdibdlelmkcccaa
