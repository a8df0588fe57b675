import Derived.Test.YtblpbpnilkfjhaaGreatR6GY
import Derived.Test.YtblpbpnilkfjhaaGreatR6BX
import Derived.Test.YtblpbpnilkfjhaaGreatR6BU
set_option linter.unusedVariables false
set_option linter.unusedSimpArgs false
set_option maxRecDepth 100000
set_option linter.unusedVariables false
set_option linter.unusedSimpArgs false
namespace Go.Ab
open Go.Proofs
def aJ (k:Nat) (v0:(Int×Int×Int×Int)) (v1:Tyt) (v2:(List (List Int))) (v3:Tye)  : Nat→List Int→List Tys→Int→Int→Option Bool
 | 0,_,_,_,_=>none
 | n+1,sE,sD,sH,sG=>
 bif decide (sG<(↑sD.length:Int)) then
 ob (idx sD sG) fun xE=>
 bif xE.1==(2:Int) then
 aJ k v0 v1 v2 v3  n (sE) (sD) (IntKind.i64.wrap (sH+(1:Int))) (IntKind.i64.wrap (sG+(1:Int)))
 else
 ob (idx sD sG) fun xH=>
 bif xH.1==(5:Int) then
 aJ k v0 v1 v2 v3  n (sE) (sD) (IntKind.i64.wrap (sH+(1:Int))) (IntKind.i64.wrap (sG+(1:Int)))
 else
 aJ k v0 v1 v2 v3  n (sE) (sD) (sH) (IntKind.i64.wrap (sG+(1:Int)))
 else
 ob (aH sE (0:Int)) fun xI=>
 bif xI==IntKind.u64.wrap sH then
 some (decide ((0:Int)≤sH))
 else
 some (false)
theorem fY (k:Nat) (v0_0 v0_1 v0_2 v0_3:Int) (v1:Tyt) (v2:List (List Int)) (v3:Tye):∀ (n:Nat) (sE:List Int) (sD:List Tys) (sH sG:Int) ⦃sm sn sI:Bool⦄ ⦃sZ:Tye⦄ ⦃so sp:Bool⦄ ⦃sJ sK sL sM:Int⦄ ⦃sN:Tyt⦄ ⦃sO:List Int⦄ ⦃sP:List Tyw⦄ ⦃sQ:List Tys⦄ ⦃ss:Bool⦄ ⦃sa sb sc sd:Int⦄ ⦃se:Tyt⦄ ⦃sf:List Tyw⦄ ⦃st:Int⦄,rt none (itX (xX (xS (k+80)) 5 0 (k+80) false) uk (11) (av (xX (xS (k+80)) 5 0 (k+80) false) (aD (xS (k+80)).P Tryz.f5) Og) n ⟨(.agg [.lit (.int .i64 v0_0),.lit (.int .i64 v0_1),.lit (.int .i64 v0_2),.lit (.int .i64 v0_3)]::.ro (List.map ap v1)::.ro (List.map fQ v2)::.ro (List.map ga v3)::.ptr 0 0 0 0::uu::uu::uu::.lit (.bool false)::.lit (.bool true)::.lit (.bool sm)::.lit (.bool sn)::.ptr 5 0 0 0::.lit (.bool sI)::.ptr 10 0 0 0::.ro (List.map a8 sZ)::.lit (.int .i64 sH)::.lit (.int .i64 st)::.lit (.int .i64 sG)::.lit (.bool true)::.ro (List.map ap v1)::.lit (.bool sm)::.ro (List.map fQ v2)::.lit (.bool sn)::.lit (.bool true)::.lit (.bool false)::.lit (.bool false)::.lit (.bool sm)::.lit (.bool so)::.lit (.bool so)::.lit (.bool false)::.lit (.bool sn)::.lit (.bool sp)::.lit (.bool sp)::.lit (.bool false)::.ro (List.map ga v3)::.lit (.int .i64 (↑v3.length:Int))::.lit (.bool (decide ((500:Int)<(↑v3.length:Int))))::.lit (.bool (decide ((500:Int)<(↑v3.length:Int))))::uu::.tup [.agg [.lit (.int .i64 sJ),.lit (.int .i64 sK),.lit (.int .i64 sL),.lit (.int .i64 sM),.ro (List.map ap sN),.ro (List.map (aQ IntKind.u64) sO),.ro (List.map aZ sP),.ro (List.map dh sQ)],.lit (.bool sI)]::.agg [.lit (.int .i64 v0_0),.lit (.int .i64 v0_1),.lit (.int .i64 v0_2),.lit (.int .i64 v0_3)]::.ro (List.map ap v1)::.ro (List.map fQ v2)::.tup [.agg [.lit (.int .i64 sJ),.lit (.int .i64 sK),.lit (.int .i64 sL),.lit (.int .i64 sM),.ro (List.map ap sN),.ro (List.map (aQ IntKind.u64) sO),.ro (List.map aZ sP),.ro (List.map dh sQ)],.lit (.bool sI)]::.agg [.lit (.int .i64 sJ),.lit (.int .i64 sK),.lit (.int .i64 sL),.lit (.int .i64 sM),.ro (List.map ap sN),.ro (List.map (aQ IntKind.u64) sO),.ro (List.map aZ sP),.ro (List.map dh sQ)]::.lit (.bool sI)::.lit (.bool sI)::.lit (.bool ss)::.tup [.agg [.lit (.int .i64 sa),.lit (.int .i64 sb),.lit (.int .i64 sc),.lit (.int .i64 sd),.ro (List.map ap se),.ro (List.map (aQ IntKind.u64) sE),.ro (List.map aZ sf),.ro (List.map dh sD)],.ro (List.map a8 sZ)]::.agg [.lit (.int .i64 sJ),.lit (.int .i64 sK),.lit (.int .i64 sL),.lit (.int .i64 sM),.ro (List.map ap sN),.ro (List.map (aQ IntKind.u64) sO),.ro (List.map aZ sP),.ro (List.map dh sQ)]::.ro (List.map ga v3)::.tup [.agg [.lit (.int .i64 sa),.lit (.int .i64 sb),.lit (.int .i64 sc),.lit (.int .i64 sd),.ro (List.map ap se),.ro (List.map (aQ IntKind.u64) sE),.ro (List.map aZ sf),.ro (List.map dh sD)],.ro (List.map a8 sZ)]::.agg [.lit (.int .i64 sa),.lit (.int .i64 sb),.lit (.int .i64 sc),.lit (.int .i64 sd),.ro (List.map ap se),.ro (List.map (aQ IntKind.u64) sE),.ro (List.map aZ sf),.ro (List.map dh sD)]::.ro (List.map a8 sZ)::.junk::.junk::.junk::.junk::.junk::.junk::.junk::.junk::.junk::.junk::.junk::.junk::.junk::.junk::.junk::.junk::.junk::.junk::.junk::.junk::.junk::.junk::.junk::.junk::.junk::.junk::.junk::.junk::.junk::.junk::.junk::.junk::.junk::.junk::.junk::.junk::.junk::.junk::.junk::.junk::.junk::.junk::.junk::.junk::.junk::.junk::.junk::.junk::.junk::.junk::.junk::.junk::.junk::.junk::.junk::uu::uu::uu::uu::uu::uu::uu::uu::uu::uu::[]),[.box [.lit (.int .i64 v0_0),.lit (.int .i64 v0_1),.lit (.int .i64 v0_2),.lit (.int .i64 v0_3)],.rows 0 [] 0 true,.rows 0 [] 0 true,.rows 0 [] 0 true,.rows 0 [] 0 true,.box [.lit (.int .i64 sJ),.lit (.int .i64 sK),.lit (.int .i64 sL),.lit (.int .i64 sM),.ro (List.map ap sN),.ro (List.map (aQ IntKind.u64) sO),.ro (List.map aZ sP),.ro (List.map dh sQ)],.rows 0 [] 0 true,.rows 0 [] 0 true,.rows 0 [] 0 true,.rows 0 [] 0 true,.box [.lit (.int .i64 sa),.lit (.int .i64 sb),.lit (.int .i64 sc),.lit (.int .i64 sd),.ro (List.map ap se),.ro (List.map (aQ IntKind.u64) sE),.ro (List.map aZ sf),.ro (List.map dh sD)]]⟩)=ob (aJ k (v0_0,v0_1,v0_2,v0_3) v1 v2 v3  n sE sD sH sG) fun r=>some ((.lit (.bool r)),[]):=by
 intro n
 induction n with
 | zero=>intros;rfl
 | succ n ih=>
  intro sE sD sH sG sm sn sI sZ so sp sJ sK sL sM sN sO sP sQ ss sa sb sc sd se sf st
  rw [aJ]
  simp -implicitDefEqProofs only [xe5,xb5,xz5,Qm,OY,Pe,Ph,Oz,QN,P9,N8,NI,OX,GV,ow,pd,pk,o4,oi,om,oM,oQ,oX,↓syP,syA,syD,simprocAttr,syE,aj,ag,af,syW,xQ,Lj,VT,KF,Vt,Lf,UO,Na,Vy,Ny,Tz,LY,Nm,Gz,fT,cI,kY,pI,dL,YZ,ih]
def aw (k:Nat) (v0:(Int×Int×Int×Int)) (v1:Tyt) (v2:(List (List Int))) (v3:Tye)  : Nat→Tye→List Int→List Tys→Int→Int→Option Bool
 | 0,_,_,_,_,_=>none
 | n+1,s9,sB,sC,sF,sA=>
 bif decide (sA<(↑s9.length:Int)) then
 ob (idx s9 sA) fun xN=>
 bif xN.1==(0:Int) then
 ob (idx s9 sA) fun xO=>
 bif xO.1==(4:Int) then
 aw k v0 v1 v2 v3  n (s9) (sB) (sC) (IntKind.i64.wrap (IntKind.i64.wrap (sF+(1:Int)) - (1:Int))) (IntKind.i64.wrap (sA+(1:Int)))
 else
 aw k v0 v1 v2 v3  n (s9) (sB) (sC) (IntKind.i64.wrap (sF+(1:Int))) (IntKind.i64.wrap (sA+(1:Int)))
 else
 ob (idx s9 sA) fun xP=>
 bif xP.1==(3:Int) then
 ob (idx s9 sA) fun xT=>
 bif xT.1==(4:Int) then
 aw k v0 v1 v2 v3  n (s9) (sB) (sC) (IntKind.i64.wrap (IntKind.i64.wrap (sF+(1:Int)) - (1:Int))) (IntKind.i64.wrap (sA+(1:Int)))
 else
 aw k v0 v1 v2 v3  n (s9) (sB) (sC) (IntKind.i64.wrap (sF+(1:Int))) (IntKind.i64.wrap (sA+(1:Int)))
 else
 ob (idx s9 sA) fun xJ=>
 bif xJ.1==(4:Int) then
 aw k v0 v1 v2 v3  n (s9) (sB) (sC) (IntKind.i64.wrap (sF - (1:Int))) (IntKind.i64.wrap (sA+(1:Int)))
 else
 aw k v0 v1 v2 v3  n (s9) (sB) (sC) (sF) (IntKind.i64.wrap (sA+(1:Int)))
 else
 aJ k v0 v1 v2 v3 (k+80) (sB) (sC) (sF) ((0:Int))
theorem fW (k:Nat) (v0_0 v0_1 v0_2 v0_3:Int) (v1:Tyt) (v2:List (List Int)) (v3:Tye):∀ (n:Nat) (s9:Tye) (sB:List Int) (sC:List Tys) (sF sA:Int) ⦃s6 s7 s8 sq sr:Bool⦄ ⦃sR sS sT sU:Int⦄ ⦃sV:Tyt⦄ ⦃sW:List Int⦄ ⦃sX:List Tyw⦄ ⦃sY:List Tys⦄ ⦃su:Bool⦄ ⦃sg sh si sj:Int⦄ ⦃sk:Tyt⦄ ⦃sl:List Tyw⦄,rt none (itX (xX (xS (k+80)) 5 0 (k+80) false) o7 (11) (av (xX (xS (k+80)) 5 0 (k+80) false) (aD (xS (k+80)).P Tryz.f5) OL) n ⟨(.agg [.lit (.int .i64 v0_0),.lit (.int .i64 v0_1),.lit (.int .i64 v0_2),.lit (.int .i64 v0_3)]::.ro (List.map ap v1)::.ro (List.map fQ v2)::.ro (List.map ga v3)::.ptr 0 0 0 0::uu::uu::uu::.lit (.bool false)::.lit (.bool true)::.lit (.bool s6)::.lit (.bool s7)::.ptr 5 0 0 0::.lit (.bool s8)::.ptr 10 0 0 0::.ro (List.map a8 s9)::.lit (.int .i64 sF)::.lit (.int .i64 sA)::uu::.lit (.bool true)::.ro (List.map ap v1)::.lit (.bool s6)::.ro (List.map fQ v2)::.lit (.bool s7)::.lit (.bool true)::.lit (.bool false)::.lit (.bool false)::.lit (.bool s6)::.lit (.bool sq)::.lit (.bool sq)::.lit (.bool false)::.lit (.bool s7)::.lit (.bool sr)::.lit (.bool sr)::.lit (.bool false)::.ro (List.map ga v3)::.lit (.int .i64 (↑v3.length:Int))::.lit (.bool (decide ((500:Int)<(↑v3.length:Int))))::.lit (.bool (decide ((500:Int)<(↑v3.length:Int))))::uu::.tup [.agg [.lit (.int .i64 sR),.lit (.int .i64 sS),.lit (.int .i64 sT),.lit (.int .i64 sU),.ro (List.map ap sV),.ro (List.map (aQ IntKind.u64) sW),.ro (List.map aZ sX),.ro (List.map dh sY)],.lit (.bool s8)]::.agg [.lit (.int .i64 v0_0),.lit (.int .i64 v0_1),.lit (.int .i64 v0_2),.lit (.int .i64 v0_3)]::.ro (List.map ap v1)::.ro (List.map fQ v2)::.tup [.agg [.lit (.int .i64 sR),.lit (.int .i64 sS),.lit (.int .i64 sT),.lit (.int .i64 sU),.ro (List.map ap sV),.ro (List.map (aQ IntKind.u64) sW),.ro (List.map aZ sX),.ro (List.map dh sY)],.lit (.bool s8)]::.agg [.lit (.int .i64 sR),.lit (.int .i64 sS),.lit (.int .i64 sT),.lit (.int .i64 sU),.ro (List.map ap sV),.ro (List.map (aQ IntKind.u64) sW),.ro (List.map aZ sX),.ro (List.map dh sY)]::.lit (.bool s8)::.lit (.bool s8)::.lit (.bool su)::.tup [.agg [.lit (.int .i64 sg),.lit (.int .i64 sh),.lit (.int .i64 si),.lit (.int .i64 sj),.ro (List.map ap sk),.ro (List.map (aQ IntKind.u64) sB),.ro (List.map aZ sl),.ro (List.map dh sC)],.ro (List.map a8 s9)]::.agg [.lit (.int .i64 sR),.lit (.int .i64 sS),.lit (.int .i64 sT),.lit (.int .i64 sU),.ro (List.map ap sV),.ro (List.map (aQ IntKind.u64) sW),.ro (List.map aZ sX),.ro (List.map dh sY)]::.ro (List.map ga v3)::.tup [.agg [.lit (.int .i64 sg),.lit (.int .i64 sh),.lit (.int .i64 si),.lit (.int .i64 sj),.ro (List.map ap sk),.ro (List.map (aQ IntKind.u64) sB),.ro (List.map aZ sl),.ro (List.map dh sC)],.ro (List.map a8 s9)]::.agg [.lit (.int .i64 sg),.lit (.int .i64 sh),.lit (.int .i64 si),.lit (.int .i64 sj),.ro (List.map ap sk),.ro (List.map (aQ IntKind.u64) sB),.ro (List.map aZ sl),.ro (List.map dh sC)]::.ro (List.map a8 s9)::.junk::.junk::.junk::.junk::.junk::.junk::.junk::.junk::.junk::.junk::.junk::.junk::.junk::.junk::.junk::.junk::.junk::.junk::.junk::.junk::.junk::.junk::.junk::.junk::.junk::.junk::.junk::.junk::.junk::.junk::uu::uu::uu::uu::uu::uu::uu::uu::uu::uu::uu::uu::uu::uu::uu::uu::uu::uu::uu::uu::uu::uu::uu::uu::uu::uu::uu::uu::uu::uu::uu::uu::uu::uu::uu::[]),[.box [.lit (.int .i64 v0_0),.lit (.int .i64 v0_1),.lit (.int .i64 v0_2),.lit (.int .i64 v0_3)],.rows 0 [] 0 true,.rows 0 [] 0 true,.rows 0 [] 0 true,.rows 0 [] 0 true,.box [.lit (.int .i64 sR),.lit (.int .i64 sS),.lit (.int .i64 sT),.lit (.int .i64 sU),.ro (List.map ap sV),.ro (List.map (aQ IntKind.u64) sW),.ro (List.map aZ sX),.ro (List.map dh sY)],.rows 0 [] 0 true,.rows 0 [] 0 true,.rows 0 [] 0 true,.rows 0 [] 0 true,.box [.lit (.int .i64 sg),.lit (.int .i64 sh),.lit (.int .i64 si),.lit (.int .i64 sj),.ro (List.map ap sk),.ro (List.map (aQ IntKind.u64) sB),.ro (List.map aZ sl),.ro (List.map dh sC)]]⟩)=ob (aw k (v0_0,v0_1,v0_2,v0_3) v1 v2 v3  n s9 sB sC sF sA) fun r=>some ((.lit (.bool r)),[]):=by
 intro n
 induction n with
 | zero=>intros;rfl
 | succ n ih=>
  intro s9 sB sC sF sA s6 s7 s8 sq sr sR sS sT sU sV sW sX sY su sg sh si sj sk sl
  rw [aw]
  simp -implicitDefEqProofs only [xe5,xb5,xz5,Qm,OY,Pe,Ph,Oz,QN,P9,N8,NI,OX,GV,ow,pd,pk,o4,oi,om,oM,oQ,oX,↓syP,syA,syD,simprocAttr,syE,aj,ag,af,syW,xQ,Lj,VT,KF,Vt,Lf,UO,Na,Vy,Ny,Tz,LY,Nm,Gz,fT,cI,kY,pI,dL,Zl,ih,fY k v0_0 v0_1 v0_2 v0_3 v1 v2 v3]
def bU (k:Nat) (v0:(Int×Int×Int×Int)) (v1:Tyt) (v2:(List (List Int))) (v3:Tye):Option Bool:=
 ob (cX (k+79) v1) fun xK=>
 ob (bQ (k+79) v2) fun xL=>
 bif !xK then
 some true
 else
 bif !xL then
 some true
 else
 bif decide (500<(↑v3.length:Int)) then
 some true
 else
 ob (iA (k+58) v0 v1 v2) fun xB=>
 bif !xB.2 then
 some true
 else
 ob (fD (k+17) ((xB.1.1.1,xB.1.1.2.1,xB.1.1.2.2.1,xB.1.1.2.2.2),xB.1.2) v3) fun xD=>
 aw k v0 v1 v2 v3 (k+80) xD.2 xD.1.2.2.1 xD.1.2.2.2.2 0 0
theorem ki (k:Nat) (v0_0 v0_1 v0_2 v0_3:Int) (v1:Tyt) (v2:List (List Int)) (v3:Tye):xC (k+81) none 5 [.agg [.lit (.int .i64 v0_0),.lit (.int .i64 v0_1),.lit (.int .i64 v0_2),.lit (.int .i64 v0_3)],.ro (List.map ap v1),.ro (List.map fQ v2),.ro (List.map ga v3)]=ob (bU k (v0_0,v0_1,v0_2,v0_3) v1 v2 v3) fun r=>some ((.lit (.bool r)),[]):=by
 rw [aO]
 unfold bU
 simp -implicitDefEqProofs only [xe5,xb5,xz5,Qm,OY,Pe,Ph,Oz,QN,P9,N8,NI,OX,GV,ow,pd,pk,o4,oi,om,oM,oQ,oX,↓syP,syA,syD,simprocAttr,syE,aj,ag,af,syW,xQ,Lj,VT,KF,Vt,Lf,UO,Na,Vy,Ny,Tz,LY,Nm,Gz,fT,kY,pI,dL,fW k v0_0 v0_1 v0_2 v0_3 v1 v2 v3]
end Go.Ab
