import Derived.Test.YtblpbpnilkfjhaaGreatAbLibC
import Derived.Test.YtblpbpnilkfjhaaGreatAbLibB
import Derived.Test.YtblpbpnilkfjhaaGreatR6Facts
set_option linter.unusedVariables false
set_option linter.unusedSimpArgs false
set_option maxRecDepth 100000
set_option linter.unusedVariables false
namespace Go.Ab
open Go.Proofs
section
variable (kk:Nat) (c:V) (cs:List V) (H:Hp) (k:IntKind) (n:Int) (id:Nat) (g:Nat) (len:Nat) (x:V) (wl:Nat) (s:V)
end
end Go.Ab
