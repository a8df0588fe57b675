import Derived.Test.YtblpbpnilkfjhaaGreatR6GY
import Derived.Test.YtblpbpnilkfjhaaGreatR6BX
import Derived.Test.YtblpbpnilkfjhaaGreatR6BU
set_option linter.unusedVariables false
set_option linter.unusedSimpArgs false
set_option maxRecDepth 100000
set_option linter.unusedVariables false
set_option linter.unusedSimpArgs false
namespace Go.Ab
open Go.Proofs
def aL (k:Nat) (v0:(Int×Int×Int×Int)) (v1:Tyt) (v2:(List (List Int))) (v3:Tye)  : Nat→Bool→Int→Int→Int→Int→Int→Tyt→List Int→List Tyw→List Tys→Option Bool
 | 0,_,_,_,_,_,_,_,_,_,_=>none
 | n+1,s7,sA,sB,sC,sD,sE,sF,sG,sH,sI=>
 bif decide (sA<(↑v3.length:Int)) then
 bif s7 then
 ob (idx v3 sA) fun xE=>
 ob (fy (k+16) ((sB,sC,sD,sE),sF,sG,sH,sI) (xE.1,xE.2.1,xE.2.2)) fun xB=>
 ob (fY (k+44) ((xB.1.1.1,xB.1.1.2.1,xB.1.1.2.2.1,xB.1.1.2.2.2),xB.1.2.1,xB.1.2.2.1,xB.1.2.2.2.1,xB.1.2.2.2.2)) fun xH=>
 bif xH then
 ob (eQ (k+44) ((xB.1.1.1,xB.1.1.2.1,xB.1.1.2.2.1,xB.1.1.2.2.2),xB.1.2.1,xB.1.2.2.1,xB.1.2.2.2.1,xB.1.2.2.2.2)) fun xI=>
 bif decide ((0:Int)<xI) then
 some (false)
 else
 aL k v0 v1 v2 v3  n (s7) (IntKind.i64.wrap (sA+(1:Int))) (xB.1.1.1) (xB.1.1.2.1) (xB.1.1.2.2.1) (xB.1.1.2.2.2) (xB.1.2.1) (xB.1.2.2.1) (xB.1.2.2.2.1) (xB.1.2.2.2.2)
 else
 aL k v0 v1 v2 v3  n (s7) (IntKind.i64.wrap (sA+(1:Int))) (xB.1.1.1) (xB.1.1.2.1) (xB.1.1.2.2.1) (xB.1.1.2.2.2) (xB.1.2.1) (xB.1.2.2.1) (xB.1.2.2.2.1) (xB.1.2.2.2.2)
 else
 bif !s7 then
 some (true)
 else
 ob (eY (k+45) ((sB,sC,sD,sE),sF,sG,sH,sI)) fun xJ=>
 some (xJ)
 else
 bif !s7 then
 some (true)
 else
 ob (eY (k+45) ((sB,sC,sD,sE),sF,sG,sH,sI)) fun xK=>
 some (xK)
theorem gI (k:Nat) (v0_0 v0_1 v0_2 v0_3:Int) (v1:Tyt) (v2:List (List Int)) (v3:Tye):∀ (n:Nat) (s7:Bool) (sA sB sC sD sE:Int) (sF:Tyt) (sG:List Int) (sH:List Tyw) (sI:List Tys) ⦃s5 s6 s8 s9:Bool⦄ ⦃sJ sK sL sM:Int⦄ ⦃sN:Tyt⦄ ⦃sO:List Int⦄ ⦃sP:List Tyw⦄ ⦃sQ:List Tys⦄ ⦃j28 j29:V⦄,rt none (itX (xX (xS (k+80)) 4 0 (k+80) false) rx (6) (av (xX (xS (k+80)) 4 0 (k+80) false) (aB (xS (k+80)).P Tryz.f4) Q2) n ⟨(.agg [.lit (.int .i64 v0_0),.lit (.int .i64 v0_1),.lit (.int .i64 v0_2),.lit (.int .i64 v0_3)]::.ro (List.map ap v1)::.ro (List.map dG v2)::.ro (List.map gf v3)::.ptr 0 0 0 0::uu::uu::uu::.lit (.bool false)::.lit (.bool true)::.lit (.bool s5)::.lit (.bool s6)::.ptr 5 0 0 0::.lit (.bool s7)::.lit (.int .i64 sA)::j28::j29::.lit (.bool true)::.ro (List.map ap v1)::.lit (.bool s5)::.ro (List.map dG v2)::.lit (.bool s6)::.lit (.bool true)::.lit (.bool false)::.lit (.bool false)::.lit (.bool s5)::.lit (.bool s8)::.lit (.bool s8)::.lit (.bool false)::.lit (.bool s6)::.lit (.bool s9)::.lit (.bool s9)::.lit (.bool false)::.ro (List.map gf v3)::.lit (.int .i64 (↑v3.length:Int))::.lit (.bool (decide ((500:Int)<(↑v3.length:Int))))::.lit (.bool (decide ((500:Int)<(↑v3.length:Int))))::uu::.tup [.agg [.lit (.int .i64 sJ),.lit (.int .i64 sK),.lit (.int .i64 sL),.lit (.int .i64 sM),.ro (List.map ap sN),.ro (List.map (aN IntKind.u64) sO),.ro (List.map aY sP),.ro (List.map cR sQ)],.lit (.bool s7)]::.agg [.lit (.int .i64 v0_0),.lit (.int .i64 v0_1),.lit (.int .i64 v0_2),.lit (.int .i64 v0_3)]::.ro (List.map ap v1)::.ro (List.map dG v2)::.tup [.agg [.lit (.int .i64 sJ),.lit (.int .i64 sK),.lit (.int .i64 sL),.lit (.int .i64 sM),.ro (List.map ap sN),.ro (List.map (aN IntKind.u64) sO),.ro (List.map aY sP),.ro (List.map cR sQ)],.lit (.bool s7)]::.agg [.lit (.int .i64 sJ),.lit (.int .i64 sK),.lit (.int .i64 sL),.lit (.int .i64 sM),.ro (List.map ap sN),.ro (List.map (aN IntKind.u64) sO),.ro (List.map aY sP),.ro (List.map cR sQ)]::.lit (.bool s7)::.junk::.junk::.junk::.junk::.junk::.junk::.junk::.junk::.junk::.junk::.junk::.junk::.junk::.junk::.junk::.junk::.junk::.junk::.junk::.junk::.junk::.junk::.junk::.junk::.junk::.junk::uu::uu::uu::uu::uu::uu::[]),[.box [.lit (.int .i64 v0_0),.lit (.int .i64 v0_1),.lit (.int .i64 v0_2),.lit (.int .i64 v0_3)],.rows 0 [] 0 true,.rows 0 [] 0 true,.rows 0 [] 0 true,.rows 0 [] 0 true,.box [.lit (.int .i64 sB),.lit (.int .i64 sC),.lit (.int .i64 sD),.lit (.int .i64 sE),.ro (List.map ap sF),.ro (List.map (aN IntKind.u64) sG),.ro (List.map aY sH),.ro (List.map cR sI)]]⟩)=ob (aL k (v0_0,v0_1,v0_2,v0_3) v1 v2 v3  n s7 sA sB sC sD sE sF sG sH sI) fun r=>some ((.lit (.bool r)),[]):=by
 intro n
 induction n with
 | zero=>intros;rfl
 | succ n ih=>
  intro s7 sA sB sC sD sE sF sG sH sI s5 s6 s8 s9 sJ sK sL sM sN sO sP sQ j28 j29
  rw [aL]
  simp -implicitDefEqProofs only [xe4,xb4,xz4,VM,Yl,Xd,We,Vy,V1,VL,u8,wq,u2,ut,ug,↓syP,syA,syD,simprocAttr,syE,ah,ag,af,syW,xQ,SC,Xn,KW,Ug,KS,XZ,NS,YD,Ko,V0,NN,KV,Gc,ko,gw,AK,u7,Bv,BV,fZ,acn,ih]
def bo (k:Nat) (v0:(Int×Int×Int×Int)) (v1:Tyt) (v2:(List (List Int))) (v3:Tye):Option Bool:=
 ob (dk (k+79) v1) fun xL=>
 ob (bS (k+79) v2) fun xN=>
 bif !xL then
 some true
 else
 bif !xN then
 some true
 else
 bif decide (500<(↑v3.length:Int)) then
 some true
 else
 ob (fL (k+58) v0 v1 v2) fun xD=>
 aL k v0 v1 v2 v3 (k+80) xD.2 0 xD.1.1.1 xD.1.1.2.1 xD.1.1.2.2.1 xD.1.1.2.2.2 xD.1.2.1 xD.1.2.2.1 xD.1.2.2.2.1 xD.1.2.2.2.2
theorem kW (k:Nat) (v0_0 v0_1 v0_2 v0_3:Int) (v1:Tyt) (v2:List (List Int)) (v3:Tye):xC (k+81) none 4 [.agg [.lit (.int .i64 v0_0),.lit (.int .i64 v0_1),.lit (.int .i64 v0_2),.lit (.int .i64 v0_3)],.ro (List.map ap v1),.ro (List.map dG v2),.ro (List.map gf v3)]=ob (bo k (v0_0,v0_1,v0_2,v0_3) v1 v2 v3) fun r=>some ((.lit (.bool r)),[]):=by
 rw [aK]
 unfold bo
 simp -implicitDefEqProofs only [xe4,xb4,xz4,VM,Yl,Xd,We,Vy,V1,VL,u8,wq,u2,ut,ug,↓syP,syA,syD,simprocAttr,syE,ah,ag,af,syW,xQ,SC,Xn,KW,Ug,KS,XZ,NS,YD,Ko,V0,NN,KV,Gc,ko,AK,fZ,gI k v0_0 v0_1 v0_2 v0_3 v1 v2 v3]
end Go.Ab
