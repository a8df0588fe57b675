/- What a worker's step leaves. -/
import Derived.Test.YtcmdnjaenhbdpaaGreatR5PWk
set_option linter.unusedVariables false
set_option linter.unusedSimpArgs false
set_option linter.unusedVariables false
namespace Go.Ab
end Go.Ab
