/- The seat's Go functions come to the Lean functions written here, wherever these give an answer (part D). -/
import Derived.Test.YtfcamlibbfnldaaGreatSC
set_option linter.unusedSimpArgs false
set_option linter.unusedVariables false
set_option linter.unusedSectionVars false
set_option maxRecDepth 100000
namespace Go.Proofs.YtfcamlibbfnldaaGreat.Am
open Go.Am
end Go.Proofs.YtfcamlibbfnldaaGreat.Am
