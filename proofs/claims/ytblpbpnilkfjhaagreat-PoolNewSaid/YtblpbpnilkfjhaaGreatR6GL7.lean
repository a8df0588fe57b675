import Derived.Test.YtblpbpnilkfjhaaGreatR6GY
import Derived.Test.YtblpbpnilkfjhaaGreatR6BU
import Derived.Test.YtblpbpnilkfjhaaGreatR6FacQ
set_option linter.unusedVariables false
set_option linter.unusedSimpArgs false
set_option maxRecDepth 100000
set_option linter.unusedVariables false
set_option linter.unusedSimpArgs false
namespace Go.Ab
open Go.Proofs
def aZ (k:Nat) (v0:(Int×Int×Int×Int)) (v1:Tyt) (v2:(List (List Int)))  : Nat→Bool→Int→Int→Int→Int→Tyt→List Int→List Tyw→List Tys→List Tyw→Int→Int→Option Bool
 | 0,_,_,_,_,_,_,_,_,_,_,_,_=>none
 | n+1,s9,sC,sD,sE,sF,sG,sH,sA,sB,sI,sJ,sK=>
 bif decide (sK<(↑v2.length:Int)) then
 ob (idx v2 sK) fun xE=>
 aZ k v0 v1 v2  n (s9) (sC) (sD) (sE) (sF) (sG) (sH) (sA) (sB) (sI) (IntKind.i64.wrap (sJ+(↑xE.length:Int))) (IntKind.i64.wrap (sK+(1:Int)))
 else
 ob (ej (k+45) ((sC,sD,sE,sF),sG,sH,sA,sB)) fun xH=>
 bif xH then
 ob (dm (k+44) ((sC,sD,sE,sF),sG,sH,sA,sB)) fun xI=>
 bif !xI then
 ob (eb (k+43) ((sC,sD,sE,sF),sG,sH,sA,sB)) fun xJ=>
 bif !xJ then
 ob (dp (k+44) ((sC,sD,sE,sF),sG,sH,sA,sB)) fun xK=>
 bif xK==(0:Int) then
 bif (↑sA.length:Int)==v0.1 then
 bif (↑sB.length:Int)==(↑v2.length:Int) then
 bif sJ==(0:Int) then
 some (decide (sJ≤(↑v1.length:Int)))
 else
 bif !s9 then
 bif (↑sI.length:Int)==(0:Int) then
 some (decide (sJ≤(↑v1.length:Int)))
 else
 some (false)
 else
 some (false)
 else
 some (false)
 else
 some (false)
 else
 some (false)
 else
 some (false)
 else
 some (false)
 else
 some (false)
theorem fZ (k:Nat) (v0_0 v0_1 v0_2 v0_3:Int) (v1:Tyt) (v2:List (List Int)):∀ (n:Nat) (s9:Bool) (sC sD sE sF:Int) (sG:Tyt) (sH:List Int) (sA:List Tyw) (sB:List Tys) (sI:List Tyw) (sJ sK:Int) ⦃s6 s7 s8 sS sT sU:Bool⦄ ⦃sL sM sN sO:Int⦄ ⦃sP:Tyt⦄ ⦃sQ:List Int⦄ ⦃sR:List Tys⦄,rt none (itX (xX (xS (k+80)) 7 0 (k+80) false) NF (12) (ap (xX (xS (k+80)) 7 0 (k+80) false) (am (xS (k+80)).P Tryz.f7) MK) n ⟨(.agg [.lit (.int .i64 v0_0),.lit (.int .i64 v0_1),.lit (.int .i64 v0_2),.lit (.int .i64 v0_3)]::.ro (List.map an v1)::.ro (List.map cX v2)::.ptr 0 0 0 0::uu::uu::.lit (.bool false)::.lit (.bool true)::.lit (.bool s6)::.lit (.bool s7)::.ptr 5 0 0 0::.lit (.bool s8)::.ptr 10 0 0 0::.lit (.bool s9)::.lit (.int .i64 sJ)::.lit (.int .i64 sK)::.lit (.bool true)::.ro (List.map an v1)::.lit (.bool s6)::.ro (List.map cX v2)::.lit (.bool s7)::.lit (.bool true)::.lit (.bool false)::.lit (.bool false)::.lit (.bool s6)::.lit (.bool sS)::.lit (.bool sS)::.lit (.bool false)::.lit (.bool s7)::.lit (.bool sT)::.lit (.bool sT)::uu::.tup [.agg [.lit (.int .i64 sC),.lit (.int .i64 sD),.lit (.int .i64 sE),.lit (.int .i64 sF),.ro (List.map an sG),.ro (List.map (aF IntKind.u64) sH),.ro (List.map aU sA),.ro (List.map cf sB)],.lit (.bool s8)]::.agg [.lit (.int .i64 v0_0),.lit (.int .i64 v0_1),.lit (.int .i64 v0_2),.lit (.int .i64 v0_3)]::.ro (List.map an v1)::.ro (List.map cX v2)::.tup [.agg [.lit (.int .i64 sC),.lit (.int .i64 sD),.lit (.int .i64 sE),.lit (.int .i64 sF),.ro (List.map an sG),.ro (List.map (aF IntKind.u64) sH),.ro (List.map aU sA),.ro (List.map cf sB)],.lit (.bool s8)]::.agg [.lit (.int .i64 sC),.lit (.int .i64 sD),.lit (.int .i64 sE),.lit (.int .i64 sF),.ro (List.map an sG),.ro (List.map (aF IntKind.u64) sH),.ro (List.map aU sA),.ro (List.map cf sB)]::.lit (.bool s8)::.lit (.bool s8)::.lit (.bool sU)::uu::uu::uu::uu::uu::uu::uu::uu::uu::uu::uu::uu::uu::uu::uu::uu::.tup [.agg [.lit (.int .i64 sL),.lit (.int .i64 sM),.lit (.int .i64 sN),.lit (.int .i64 sO),.ro (List.map an sP),.ro (List.map (aF IntKind.u64) sQ),.ro (List.map aU sI),.ro (List.map cf sR)],.lit (.bool s9)]::.agg [.lit (.int .i64 v0_0),.lit (.int .i64 v0_1),.lit (.int .i64 v0_2),.lit (.int .i64 v0_3)]::.ro (List.map an v1)::.ro (List.map cX v2)::.own 11 0 v2.length::.ro (List.map cX v2)::.own 11 1 (v2++v2).length::.tup [.agg [.lit (.int .i64 sL),.lit (.int .i64 sM),.lit (.int .i64 sN),.lit (.int .i64 sO),.ro (List.map an sP),.ro (List.map (aF IntKind.u64) sQ),.ro (List.map aU sI),.ro (List.map cf sR)],.lit (.bool s9)]::.agg [.lit (.int .i64 sL),.lit (.int .i64 sM),.lit (.int .i64 sN),.lit (.int .i64 sO),.ro (List.map an sP),.ro (List.map (aF IntKind.u64) sQ),.ro (List.map aU sI),.ro (List.map cf sR)]::.lit (.bool s9)::.junk::.junk::.junk::.junk::.junk::.junk::.junk::.junk::.junk::.junk::.junk::.junk::.junk::uu::uu::uu::uu::uu::uu::uu::uu::uu::uu::uu::uu::uu::uu::uu::uu::uu::uu::uu::uu::uu::uu::uu::uu::uu::uu::uu::uu::uu::uu::uu::uu::uu::uu::uu::uu::uu::uu::uu::uu::uu::uu::uu::uu::uu::uu::uu::uu::uu::uu::uu::uu::uu::[]),[.box [.lit (.int .i64 v0_0),.lit (.int .i64 v0_1),.lit (.int .i64 v0_2),.lit (.int .i64 v0_3)],.rows 0 [] 0 true,.rows 0 [] 0 true,.rows 0 [] 0 true,.rows 0 [] 0 true,.box [.lit (.int .i64 sC),.lit (.int .i64 sD),.lit (.int .i64 sE),.lit (.int .i64 sF),.ro (List.map an sG),.ro (List.map (aF IntKind.u64) sH),.ro (List.map aU sA),.ro (List.map cf sB)],.rows 0 [] 0 true,.rows 0 [] 0 true,.rows 0 [] 0 true,.rows 0 [] 0 true,.box [.lit (.int .i64 sL),.lit (.int .i64 sM),.lit (.int .i64 sN),.lit (.int .i64 sO),.ro (List.map an sP),.ro (List.map (aF IntKind.u64) sQ),.ro (List.map aU sI),.ro (List.map cf sR)],.rows 1 (List.map cX (v2++v2)) 1 false]⟩)=ob (aZ k (v0_0,v0_1,v0_2,v0_3) v1 v2  n s9 sC sD sE sF sG sH sA sB sI sJ sK) fun r=>some ((.lit (.bool r)),[]):=by
 intro n
 induction n with
 | zero=>intros;rfl
 | succ n ih=>
  intro s9 sC sD sE sF sG sH sA sB sI sJ sK s6 s7 s8 sS sT sU sL sM sN sO sP sQ sR
  rw [aZ]
  simp -implicitDefEqProofs only [xe7,xb7,xz7,Qh,TJ,P8,RV,Su,Qs,QG,Tz,PO,Qj,Jr,Ja,Ha,IT,IQ,Ht,Iy,Ig,JP,Ia,Kg,rC,pD,pa,ri,↓syP,syA,syD,simprocAttr,syE,ag,af,ae,syW,xFP,WZ,yI,En,Fl,D8,Hu,xQ,Ow,Ts,HU,PF,JH,QD,JG,QB,Jz,QM,I9,IS,DR,gQ,ft,uJ,mO,wA,wS,eZ,Yk,ih]
def cN (k:Nat) (v0:(Int×Int×Int×Int)) (v1:Tyt) (v2:(List (List Int))):Option Bool:=
 ob (cT (k+79) v1) fun xL=>
 ob (bS (k+79) v2) fun xN=>
 bif !xL then
 some (true)
 else
 bif !xN then
 some (true)
 else
 ob (fq (k+58) (v0.1,v0.2.1,v0.2.2.1,v0.2.2.2) v1 v2) fun xB=>
 bif !xB.2 then
 bif (↑xB.1.2.2.2.1.length:Int)==(0:Int) then
 bif (↑xB.1.2.2.2.2.length:Int)==(0:Int) then
 some ((↑xB.1.2.2.1.length:Int)==(0:Int))
 else
 some (false)
 else
 some (false)
 else
 bif decide (v2.length*24≤70368744177664) then
 bif room (v2++v2).length 24 then
 ob (fq (k+58) (v0.1,v0.2.1,v0.2.2.1,v0.2.2.2) v1 (v2++v2)) fun xD=>
 aZ k v0 v1 v2 (k+80) (xD.2) (xB.1.1.1) (xB.1.1.2.1) (xB.1.1.2.2.1) (xB.1.1.2.2.2) (xB.1.2.1) (xB.1.2.2.1) (xB.1.2.2.2.1) (xB.1.2.2.2.2) (xD.1.2.2.2.1) ((0:Int)) ((0:Int))
 else
 none
 else
 none
theorem kv (k:Nat) (v0_0 v0_1 v0_2 v0_3:Int) (v1:Tyt) (v2:List (List Int)):xC (k+81) none 7 [.agg [.lit (.int .i64 v0_0),.lit (.int .i64 v0_1),.lit (.int .i64 v0_2),.lit (.int .i64 v0_3)],.ro (List.map an v1),.ro (List.map cX v2)]=ob (cN k (v0_0,v0_1,v0_2,v0_3) v1 v2) fun r=>some ((.lit (.bool r)),[]):=by
 rw [aH]
 unfold cN
 simp -implicitDefEqProofs only [xe7,xb7,xz7,Qh,TJ,P8,RV,Su,Qs,QG,Tz,PO,Qj,Jr,Ja,Ha,IT,IQ,Ht,Iy,Ig,JP,Ia,Kg,rC,pD,pa,ri,↓syP,syA,syD,simprocAttr,syE,ag,af,ae,syW,xFP,WZ,yI,En,Fl,D8,Hu,xQ,Ow,Ts,HU,PF,JH,QD,JG,QB,Jz,QM,I9,IS,DR,gQ,uJ,eZ,fZ k v0_0 v0_1 v0_2 v0_3 v1 v2]
end Go.Ab
