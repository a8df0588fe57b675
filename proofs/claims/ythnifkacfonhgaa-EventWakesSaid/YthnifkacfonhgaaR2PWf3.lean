/- Typed arguments, as words of cells. -/
import Derived.Test.YthnifkacfonhgaaR2PWf2
import Derived.Test.YthnifkacfonhgaaR2PW2
set_option linter.unusedVariables false
set_option linter.unusedSimpArgs false
namespace Go.Ab
open Go.WideShapes
theorem wm_of {m : List Int} (h : ∀ x ∈ m, u64 x) (hl : m.length ≤ maxLen) : Wm m := ⟨wl_of hl, fun x hx => u64_of (h x hx)⟩
end Go.Ab
