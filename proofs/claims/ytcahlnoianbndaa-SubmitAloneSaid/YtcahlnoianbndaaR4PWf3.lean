/- Typed arguments, as words of cells. -/
import Derived.Test.YtcahlnoianbndaaR4PWf2
import Derived.Test.YtcahlnoianbndaaR4PW2
set_option linter.unusedVariables false
set_option linter.unusedSimpArgs false
namespace Go.Ab
open Go.WideShapes
end Go.Ab
