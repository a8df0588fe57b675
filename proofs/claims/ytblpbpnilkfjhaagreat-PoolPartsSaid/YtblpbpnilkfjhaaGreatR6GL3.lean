import Derived.Test.YtblpbpnilkfjhaaGreatR6GY
import Derived.Test.YtblpbpnilkfjhaaGreatR6BL3
import Derived.Test.YtblpbpnilkfjhaaGreatR6BPl
import Derived.Test.YtblpbpnilkfjhaaGreatR6FacQ
set_option linter.unusedVariables false
set_option linter.unusedSimpArgs false
set_option maxRecDepth 100000
set_option linter.unusedVariables false
set_option linter.unusedSimpArgs false
namespace Go.Ab
open Go.Proofs
def b7 (k:Nat) (v0:Typ) (v1:Tye) (v2:Tye):Option Bool:=
 ob (cN (k+78) ((v0.1.1,v0.1.2.1,v0.1.2.2.1,v0.1.2.2.2),v0.2.1,v0.2.2.1,v0.2.2.2.1,v0.2.2.2.2)) fun x9=>
 bif !x9 then
 some (true)
 else
 bif decide ((250:Int)<(↑v1.length:Int)) then
 some (true)
 else
 bif decide ((250:Int)<(↑v2.length:Int)) then
 some (true)
 else
 ob (cJ (k+17) ((v0.1.1,v0.1.2.1,v0.1.2.2.1,v0.1.2.2.2),v0.2.1,v0.2.2.1,v0.2.2.2.1,v0.2.2.2.2) v1) fun x10=>
 ob (cJ (k+17) ((x10.1.1.1,x10.1.1.2.1,x10.1.1.2.2.1,x10.1.1.2.2.2),x10.1.2.1,x10.1.2.2.1,x10.1.2.2.2.1,x10.1.2.2.2.2) v2) fun x11=>
 bif decide (v1.length*24≤70368744177664) then
 bif room (v1++v2).length 24 then
 ob (cJ (k+17) ((v0.1.1,v0.1.2.1,v0.1.2.2.1,v0.1.2.2.2),v0.2.1,v0.2.2.1,v0.2.2.2.1,v0.2.2.2.2) (v1++v2)) fun x12=>
 bif decide (x10.2.length*24≤70368744177664) then
 bif room (x10.2++x11.2).length 24 then
 ob (cP (k+79) x12.2 (x10.2++x11.2)) fun x13=>
 ob (gE (k+69) ((x11.1.1.1,x11.1.1.2.1,x11.1.1.2.2.1,x11.1.1.2.2.2),x11.1.2.1,x11.1.2.2.1,x11.1.2.2.2.1,x11.1.2.2.2.2) ((x12.1.1.1,x12.1.1.2.1,x12.1.1.2.2.1,x12.1.1.2.2.2),x12.1.2.1,x12.1.2.2.1,x12.1.2.2.2.1,x12.1.2.2.2.2)) fun x14=>
 bif x14 then
 bif x13 then
 ob (ft (k+45) ((x10.1.1.1,x10.1.1.2.1,x10.1.1.2.2.1,x10.1.1.2.2.2),x10.1.2.1,x10.1.2.2.1,x10.1.2.2.2.1,x10.1.2.2.2.2)) fun x15=>
 ob (ft (k+45) ((v0.1.1,v0.1.2.1,v0.1.2.2.1,v0.1.2.2.2),v0.2.1,v0.2.2.1,v0.2.2.2.1,v0.2.2.2.2)) fun x16=>
 some (x15==x16)
 else
 some (false)
 else
 some (false)
 else
 none
 else
 none
 else
 none
 else
 none
theorem iP (k:Nat) (v0_0_0 v0_0_1 v0_0_2 v0_0_3:Int) (v0_1:Tyt) (v0_2:List Int) (v0_3:List Tyw) (v0_4:List Tys) (v1 v2:Tye):xC (k+81) none 3 [.agg [.lit (.int .i64 v0_0_0),.lit (.int .i64 v0_0_1),.lit (.int .i64 v0_0_2),.lit (.int .i64 v0_0_3),.ro (List.map aA v0_1),.ro (List.map (aQ .u64) v0_2),.ro (List.map aY v0_3),.ro (List.map cG v0_4)],.ro (List.map eT v1),.ro (List.map eT v2)]=ob (b7 k ((v0_0_0,v0_0_1,v0_0_2,v0_0_3),v0_1,v0_2,v0_3,v0_4) v1 v2) fun r=>some ((.lit (.bool r)),[]):=by
 rw [aN]
 unfold b7
 simp (maxSteps:=2000000) -implicitDefEqProofs only [xe3,xb3,Ur,Xi,VQ,W3,VL,Ac,Bn,↓syP,syA,syD,simprocAttr,syE,ah,ag,af,syW,xFP,abi,yI,LV,KW,NT,Sh,aeW,xQ,WN,Y8,Pq,Yo,Pk,X1,On,WG,Pr,Ww,Ph,Oj,IC,nm,nE,C6,mK,mR]
 all_goals simp -implicitDefEqProofs only [List.map_nil]
end Go.Ab
