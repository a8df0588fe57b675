/- Laws of steps of one who wakes. -/
import Derived.Test.YtcahlnoianbndaaR4PN
import Derived.Test.YtcahlnoianbndaaR4PWf3
set_option linter.unusedVariables false
set_option linter.unusedSimpArgs false
set_option linter.unusedVariables false
namespace Go.Ab
end Go.Ab
