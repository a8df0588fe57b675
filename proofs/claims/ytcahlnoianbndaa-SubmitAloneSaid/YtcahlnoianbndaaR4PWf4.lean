/- Typed arguments: lists of lists. -/
import Derived.Test.YtcahlnoianbndaaR4PWf3
set_option linter.unusedVariables false
set_option linter.unusedSimpArgs false
namespace Go.Ab
open Go.WideShapes
structure Ll (l : List (List Int)) : Prop where
  len : l.length ≤ 9223372036854775807
  each : ∀ x ∈ l, x.length ≤ 9223372036854775807
end Go.Ab
