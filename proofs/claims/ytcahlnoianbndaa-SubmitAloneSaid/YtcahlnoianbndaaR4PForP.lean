/- Plain laws of forests. -/
import Derived.Test.YtcahlnoianbndaaR4PDef
set_option linter.unusedVariables false
set_option linter.unusedSimpArgs false
set_option linter.unusedVariables false
namespace Go.Ab

structure May (t : List (Int × List Int)) : Prop where
  len : t.length ≤ 30
  work : ∀ x ∈ t, 0 ≤ x.1 ∧ x.1 ≤ 20
  kids : ∀ q ∈ kidsAt 0 t, 0 ≤ q.2 ∧ q.2 < q.1 ∧ q.1 < t.length
  once : ((kidsAt 0 t).map (·.1)).Nodup
end Go.Ab
