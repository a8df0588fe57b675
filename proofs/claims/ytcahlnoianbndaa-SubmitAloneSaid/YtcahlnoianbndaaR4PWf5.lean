/- Typed arguments: who submits. -/
import Derived.Test.YtcahlnoianbndaaR4PWf4
import Derived.Test.YtcahlnoianbndaaAbWalk3
set_option linter.unusedVariables false
set_option linter.unusedSimpArgs false
namespace Go.Ab
open Go.WideShapes
end Go.Ab
