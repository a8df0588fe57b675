/- The chapter's example, by the kernel. -/
import Derived.Test.YtcmdnjaenhbdpaaGreatR5Seat
set_option linter.unusedVariables false
set_option linter.unusedSimpArgs false
set_option maxRecDepth 100000
namespace Go.Ab
open Go.Proofs
theorem awk18' (j : Nat) : xC (j + 60) none 8 [] = some (.lit (.bool true), []) := by kernel_rfl
end Go.Ab
