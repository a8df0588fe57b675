/- The chapters' examples, by the kernel. -/
import Derived.Test.YthnifkacfonhgaaR2Seat
set_option linter.unusedVariables false
set_option linter.unusedSimpArgs false
set_option maxRecDepth 100000
namespace Go.Ab
open Go.Proofs
theorem awk14' (j : Nat) : xC (j + 60) none 20 [] = some (.lit (.bool true), []) := by kernel_rfl
theorem awk15' (j : Nat) : xC (j + 60) none 36 [] = some (.lit (.bool true), []) := by kernel_rfl
end Go.Ab
