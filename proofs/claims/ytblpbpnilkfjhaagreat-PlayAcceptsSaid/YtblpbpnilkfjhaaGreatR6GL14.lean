import Derived.Test.YtblpbpnilkfjhaaGreatR6G0B
import Derived.Test.YtblpbpnilkfjhaaGreatR6G0A
import Derived.Test.YtblpbpnilkfjhaaGreatR6B0A
import Derived.Test.YtblpbpnilkfjhaaGreatR6FacM
set_option linter.unusedVariables false
set_option linter.unusedSimpArgs false
set_option maxRecDepth 100000
set_option linter.unusedVariables false
set_option linter.unusedSimpArgs false
namespace Go.Ab
open Go.Proofs
def cC (k:Nat) (v0:(Int×Int×Int×Int)) (v1:Tyt) (v2:(List (List Int))) (v3:(List Int)) (v4:Int):Option Bool:=
 ob (dU (k+91) v1) fun x7=>
 ob (cq (k+91) v2) fun x8=>
 bif !x7 then
 some (true)
 else
 bif !x8 then
 some (true)
 else
 bif decide ((900:Int)<(↑v3.length:Int)) then
 some (true)
 else
 bif decide ((60:Int)<v4) then
 some (true)
 else
 ob (kz (k+28) (v0.1,v0.2.1,v0.2.2.1,v0.2.2.2) v1 v2 v3) fun x9=>
 bif !x9.2.2 then
 some ((↑x9.2.1.length:Int)==(0:Int))
 else
 ob (fA (k+2) ((x9.1.1.1,x9.1.1.2.1,x9.1.1.2.2.1,x9.1.1.2.2.2),x9.1.2.1,x9.1.2.2.1,x9.1.2.2.2.1,x9.1.2.2.2.2) v4) fun xB=>
 ob (eg (k+68) v1 x9.2.1) fun xD=>
 bif xD then
 bif decide (x9.2.1.length*24≤70368744177664) then
 bif room (x9.2.1++xB.2.1).length 24 then
 ob (eg (k+68) v1 (x9.2.1++xB.2.1)) fun xE=>
 some (xE)
 else
 none
 else
 none
 else
 some (false)
theorem mD (k:Nat) (v0_0 v0_1 v0_2 v0_3:Int) (v1:Tyt) (v2:(List (List Int))) (v3:(List Int)) (v4:Int):xC (k+93) none 14 [(.agg [(.lit (.int .i64 v0_0)),(.lit (.int .i64 v0_1)),(.lit (.int .i64 v0_2)),(.lit (.int .i64 v0_3))]),(.ro (List.map ak v1)),(.ro (List.map cz v2)),(.ro (List.map (av .u8) v3)),(.lit (.int .i64 v4))]=ob (cC k (v0_0,v0_1,v0_2,v0_3) v1 v2 v3 v4) fun r=>some ((.lit (.bool r)),[]):=by
 rw [aD]
 unfold cC
 simp -implicitDefEqProofs only [aqD,apN,aem,aeI,ahe,afK,afM,Nl,NR,↓syP,syA,rtN,aW,V.pure,nsh,Bb,V.kill,eZ,spl,V.shift,cX,V.scal,lz,av,fI,az,simprocAttr,syQ,mi,dH,cz,bn,aF,eU,da,af,ae,aa,syW,xFP,r6,yI,↓syI,xFM,xF,ip,iF,iw,gU,EH,dh,iN,nY,xR,xA,oh,gX,oA,iD,oj,iy,og,ii,oi,iP,ir,eJ,io,cZ,oB,iC,nN,gV,oe,iB,ov,iu,oo,ig,iQ,eY,eN,dM,aeb,uI,BZ,nS,Ak,Jv]
end Go.Ab
