/- Lists that are written out,as lists of data. -/
import Derived.Test.YthnifkacfonhgaaR2GP
import Derived.Test.YthnifkacfonhgaaR2BA
set_option linter.unusedVariables false
set_option linter.unusedSimpArgs false
namespace Go.Ab
theorem rtC_int {k : IntKind} {a : Int} {l : List Int} : [V.lit (.int k a)]::List.map (intR k) l = List.map (intR k) (a::l) := rfl
theorem rtC_list {a : List Int} {l : List (List Int)} : [V.ro (List.map (intR .i64) a)]::List.map listV l = List.map listV (a::l) := rfl
end Go.Ab
