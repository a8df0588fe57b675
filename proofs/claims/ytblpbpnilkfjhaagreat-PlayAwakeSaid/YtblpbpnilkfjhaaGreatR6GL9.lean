import Derived.Test.YtblpbpnilkfjhaaGreatR6GZ
import Derived.Test.YtblpbpnilkfjhaaGreatR6GY
import Derived.Test.YtblpbpnilkfjhaaGreatR6BU
set_option linter.unusedVariables false
set_option linter.unusedSimpArgs false
set_option maxRecDepth 100000
set_option linter.unusedVariables false
set_option linter.unusedSimpArgs false
namespace Go.Ab
open Go.Proofs
def cI (k:Nat) (v0:(Int×Int×Int×Int)) (v1:Tyt) (v2:(List (List Int))) (v3:(List Int)) (v4:Tye):Option Bool:=
 ob (dA (k+91) v1) fun x5=>
 ob (cg (k+91) v2) fun x6=>
 bif !x5 then
 some (true)
 else
 bif !x6 then
 some (true)
 else
 bif decide ((900:Int)<(↑v3.length:Int)) then
 some (true)
 else
 bif decide ((300:Int)<(↑v4.length:Int)) then
 some (true)
 else
 ob (gT (k+28) (v0.1,v0.2.1,v0.2.2.1,v0.2.2.2) v1 v2 v3) fun x7=>
 bif !x7.2.2 then
 some (true)
 else
 ob (ib (k+27) ((x7.1.1.1,x7.1.1.2.1,x7.1.1.2.2.1,x7.1.1.2.2.2),x7.1.2.1,x7.1.2.2.1,x7.1.2.2.2.1,x7.1.2.2.2.2) v4) fun x8=>
 some (x8)
theorem lO (k:Nat) (v0_0 v0_1 v0_2 v0_3:Int) (v1:Tyt) (v2:List (List Int)) (v3:List Int) (v4:Tye):xC (k+93) none 9 [.agg [.lit (.int .i64 v0_0),.lit (.int .i64 v0_1),.lit (.int .i64 v0_2),.lit (.int .i64 v0_3)],.ro (List.map ao v1),.ro (List.map fT v2),.ro (List.map (aG .u8) v3),.ro (List.map fi v4)]=ob (cI k (v0_0,v0_1,v0_2,v0_3) v1 v2 v3 v4) fun r=>some ((.lit (.bool r)),[]):=by
 rw [aH]
 unfold cI
 simp -implicitDefEqProofs only [xe9,xb9,ZC,Yo,aad,acu,aaJ,El,E2,↓syP,syA,syD,simprocAttr,syE,ah,ag,ae,syW,xFP,nM,yI,xQ,ef,dB,Y4,pG,mm,Hr,EQ]
end Go.Ab
