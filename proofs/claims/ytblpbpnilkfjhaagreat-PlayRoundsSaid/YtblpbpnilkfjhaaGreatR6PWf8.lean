import Derived.Test.YtblpbpnilkfjhaaGreatR6PP
import Derived.Test.YtblpbpnilkfjhaaGreatR6PPlayW
set_option linter.unusedVariables false
set_option linter.unusedSimpArgs false
namespace Go.Ab
open Go.WideShapes
theorem acw {l:List Int} (h:∀ n ∈ l,(Lit.int .u8 n).wf=true) (hm:l.length≤maxLen):Wby l:=by
 intro x hx
 have h1:IntKind.min .u8=0:=by decide
 have h2:IntKind.max .u8=255:=by decide
 simpa [Lit.wf,h1,h2] using h x hx
end Go.Ab
