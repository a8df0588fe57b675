/- Laws of steps of one who wakes. -/
import Derived.Test.YtcmdnjaenhbdpaaGreatR5PN
import Derived.Test.YtcmdnjaenhbdpaaGreatR5PWfs
set_option linter.unusedVariables false
set_option linter.unusedSimpArgs false
set_option linter.unusedVariables false
namespace Go.Ab
end Go.Ab
