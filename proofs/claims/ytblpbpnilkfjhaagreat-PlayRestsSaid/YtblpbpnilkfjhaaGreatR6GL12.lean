import Derived.Test.YtblpbpnilkfjhaaGreatR6GZ
import Derived.Test.YtblpbpnilkfjhaaGreatR6GY
import Derived.Test.YtblpbpnilkfjhaaGreatR6BL12
set_option linter.unusedVariables false
set_option linter.unusedSimpArgs false
set_option maxRecDepth 100000
set_option linter.unusedVariables false
set_option linter.unusedSimpArgs false
namespace Go.Ab
open Go.Proofs
def cM (k:Nat) (v0:(Int×Int×Int×Int)) (v1:Tyt) (v2:(List (List Int))) (v3:(List Int)) (v4:Tye):Option Bool:=
 ob (dx (k+91) v1) fun xI=>
 ob (cr (k+91) v2) fun xJ=>
 bif !xI then
 some (true)
 else
 bif !xJ then
 some (true)
 else
 bif decide ((900:Int)<(↑v3.length:Int)) then
 some (true)
 else
 bif decide ((60:Int)<(↑v4.length:Int)) then
 some (true)
 else
 ob (gV (k+28) (v0.1,v0.2.1,v0.2.2.1,v0.2.2.2) v1 v2 v3) fun xE=>
 ob (dY (k+2) ((xE.1.1.1,xE.1.1.2.1,xE.1.1.2.2.1,xE.1.1.2.2.2),xE.1.2.1,xE.1.2.2.1,xE.1.2.2.2.1,xE.1.2.2.2.2) (300:Int)) fun xB=>
 bif !xE.2.2 then
 some (true)
 else
 ob (d9 (k+55) ((xB.1.1.1,xB.1.1.2.1,xB.1.1.2.2.1,xB.1.1.2.2.2),xB.1.2.1,xB.1.2.2.1,xB.1.2.2.2.1,xB.1.2.2.2.2)) fun xK=>
 bif !xK then
 some (true)
 else
 ob (fo (k+29) ((xB.1.1.1,xB.1.1.2.1,xB.1.1.2.2.1,xB.1.1.2.2.2),xB.1.2.1,xB.1.2.2.1,xB.1.2.2.2.1,xB.1.2.2.2.2) v4) fun xH=>
 ob (dY (k+2) ((xB.1.1.1,xB.1.1.2.1,xB.1.1.2.2.1,xB.1.1.2.2.2),xB.1.2.1,xB.1.2.2.1,xB.1.2.2.2.1,xB.1.2.2.2.2) (300:Int)) fun xD=>
 bif (↑xH.2.length:Int)==(0:Int) then
 ob (d9 (k+55) ((xH.1.1.1,xH.1.1.2.1,xH.1.1.2.2.1,xH.1.1.2.2.2),xH.1.2.1,xH.1.2.2.1,xH.1.2.2.2.1,xH.1.2.2.2.2)) fun xL=>
 bif xL then
 bif (↑xD.2.1.length:Int)==(0:Int) then
 bif xD.2.2==(0:Int) then
 ob (ky (k+81) ((xD.1.1.1,xD.1.1.2.1,xD.1.1.2.2.1,xD.1.1.2.2.2),xD.1.2.1,xD.1.2.2.1,xD.1.2.2.2.1,xD.1.2.2.2.2) ((xB.1.1.1,xB.1.1.2.1,xB.1.1.2.2.1,xB.1.1.2.2.2),xB.1.2.1,xB.1.2.2.1,xB.1.2.2.2.1,xB.1.2.2.2.2)) fun xN=>
 bif xN then
 ob (kw (k+56) ((xB.1.1.1,xB.1.1.2.1,xB.1.1.2.2.1,xB.1.1.2.2.2),xB.1.2.1,xB.1.2.2.1,xB.1.2.2.2.1,xB.1.2.2.2.2)) fun xO=>
 some (xO==(0:Int))
 else
 some (false)
 else
 some (false)
 else
 some (false)
 else
 some (false)
 else
 some (false)
theorem lQ (k:Nat) (v0_0 v0_1 v0_2 v0_3:Int) (v1:Tyt) (v2:List (List Int)) (v3:List Int) (v4:Tye):xC (k+93) none 12 [.agg [.lit (.int .i64 v0_0),.lit (.int .i64 v0_1),.lit (.int .i64 v0_2),.lit (.int .i64 v0_3)],.ro (List.map an v1),.ro (List.map eo v2),.ro (List.map (aF .u8) v3),.ro (List.map eP v4)]=ob (cM k (v0_0,v0_1,v0_2,v0_3) v1 v2 v3 v4) fun r=>some ((.lit (.bool r)),[]):=by
 rw [aH]
 unfold cM
 simp (maxSteps:=2000000) -implicitDefEqProofs only [aj0,ajH,TY,SE,Tk,Tz,S3,T5,Un,ST,Ty,T8,Bg,BC,Be,↓syP,syA,syD,simprocAttr,syE,ah,ag,ae,syW,xFP,nq,yI,xQ,ea,dz,abv,oT,Bc,Ge,lY,md,rU,GI,wo]
end Go.Ab
