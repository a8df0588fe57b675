/- Typed arguments, as words of cells. -/
import Derived.Test.YtcahlnoianbndaaR4PWf2
import Derived.Test.YtcahlnoianbndaaR4PW2
set_option linter.unusedVariables false
set_option linter.unusedSimpArgs false
namespace Go.Ab
open Go.WideShapes
theorem wm_of {m : List Int} (h : ∀ x ∈ m, u64 x) (hl : m.length ≤ maxLen) : Wm m := ⟨wl_of hl, fun x hx => u64_of (h x hx)⟩
end Go.Ab
