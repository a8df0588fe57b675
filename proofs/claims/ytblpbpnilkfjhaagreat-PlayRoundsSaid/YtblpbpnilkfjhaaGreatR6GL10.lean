import Derived.Test.YtblpbpnilkfjhaaGreatR6GYe
import Derived.Test.YtblpbpnilkfjhaaGreatR6Ax
import Derived.Test.YtblpbpnilkfjhaaGreatR6GY
import Derived.Test.YtblpbpnilkfjhaaGreatR6BL10
set_option linter.unusedVariables false
set_option linter.unusedSimpArgs false
set_option maxRecDepth 100000
set_option linter.unusedVariables false
set_option linter.unusedSimpArgs false
namespace Go.Ab
open Go.Proofs
def cz (k:Nat) (v0:(Int×Int×Int×Int)) (v1:Tyt) (v2:(List (List Int))) (v3:(List Int)) (v4:Int) (v5:Int):Option Bool:=
 ob (dm (k+91) v1) fun x7=>
 ob (b9 (k+91) v2) fun x8=>
 bif !x7 then
 some (true)
 else
 bif !x8 then
 some (true)
 else
 bif decide ((900:Int)<(↑v3.length:Int)) then
 some (true)
 else
 bif decide (v4<(0:Int)) then
 some (true)
 else
 bif decide ((100:Int)<v4) then
 some (true)
 else
 bif decide (v5<(0:Int)) then
 some (true)
 else
 bif decide (v4<v5) then
 some (true)
 else
 ob (fL (k+28) (v0.1,v0.2.1,v0.2.2.1,v0.2.2.2) v1 v2 v3) fun x9=>
 ob (dR (k+2) ((x9.1.1.1,x9.1.1.2.1,x9.1.1.2.2.1,x9.1.1.2.2.2),x9.1.2.1,x9.1.2.2.1,x9.1.2.2.2.1,x9.1.2.2.2.2) v4) fun x10=>
 ob (dR (k+2) ((x9.1.1.1,x9.1.1.2.1,x9.1.1.2.2.1,x9.1.1.2.2.2),x9.1.2.1,x9.1.2.2.1,x9.1.2.2.2.1,x9.1.2.2.2.2) v5) fun x11=>
 bif decide (v4<x10.2.2) then
 some (false)
 else
 bif decide (v5<x11.2.2) then
 some (false)
 else
 bif decide (x10.2.2<x11.2.2) then
 some (false)
 else
 bif decide ((↑x10.2.1.length:Int)<(↑x11.2.1.length:Int)) then
 some (false)
 else
 bif decide ((0:Int)≤(↑x11.2.1.length:Int)∧(↑x11.2.1.length:Int)≤(↑x10.2.1.length:Int)) then
 ob (dw (k+91) (List.take x11.2.1.length x10.2.1) x11.2.1) fun x12=>
 bif x12 then
 bif x11.2.2==v5 then
 some (true)
 else
 some (x11.2.2==x10.2.2)
 else
 some (false)
 else
 none
theorem kU (k:Nat) (v0_0:Int) (v0_1:Int) (v0_2:Int) (v0_3:Int) (v1:Tyt) (v2:(List (List Int))) (v3:(List Int)) (v4:Int) (v5:Int):xC (k+93) none 10 [(.agg [(.lit (.int .i64 v0_0)),(.lit (.int .i64 v0_1)),(.lit (.int .i64 v0_2)),(.lit (.int .i64 v0_3))]),(.ro (List.map an v1)),(.ro (List.map cA v2)),(.ro (List.map (aF .u8) v3)),(.lit (.int .i64 v4)),(.lit (.int .i64 v5))]=ob (cz k (v0_0,v0_1,v0_2,v0_3) v1 v2 v3 v4 v5) fun r=>some ((.lit (.bool r)),[]):=by
 rw [aH]
 unfold cz
 simp (maxSteps:=2000000) -implicitDefEqProofs only [ahK,agr,Sy,R6,Q9,Q8,RX,SY,SO,SN,SM,SQ,Ld,J2,MG,MJ,Jx,xw,Af,Aw,↓syP,syA,rtN,a7,V.pure,nsh,xy,V.kill,eE,spl,V.shift,di,V.scal,kF,aF,fA,aD,simprocAttr,syQ,lA,dK,cA,bn,aG,fm,dC,ah,ag,ae,syW,xFP,nc,yI,xF,iA,iE,ip,iy,En,dD,iH,nn,xR,xA,m9,iG,m8,io,nk,iw,ni,iq,m7,ix,iu,fw,iB,dG,ng,iD,nh,iF,na,iJ,nj,ir,nf,iK,ij,ft,d8,dr,abQ,oK,lZ,oq,rO,FS]
 all_goals simp -implicitDefEqProofs only [List.map_nil]
end Go.Ab
