/- Functions as they are walked: printed by Walk.lean. -/
import Derived.Test.YtcahlnoianbndaaR4GS
import Derived.Test.YtcahlnoianbndaaR4B6
set_option linter.unusedVariables false
set_option linter.unusedSimpArgs false
set_option maxRecDepth 100000
set_option linter.unusedVariables false
set_option linter.unusedSimpArgs false
namespace Go.Ab
open Go.Proofs
end Go.Ab
