import Derived.Test.YtblpbpnilkfjhaaGreatR6GY
import Derived.Test.YtblpbpnilkfjhaaGreatR6BPl
import Derived.Test.YtblpbpnilkfjhaaGreatAbLibC
import Derived.Test.YtblpbpnilkfjhaaGreatR6FacP
import Derived.Test.YtblpbpnilkfjhaaGreatR6BA
set_option linter.unusedVariables false
set_option linter.unusedSimpArgs false
set_option maxRecDepth 100000
set_option linter.unusedVariables false
set_option linter.unusedSimpArgs false
namespace Go.Ab
open Go.Proofs
def cy (k:Nat) (v0:(List Int))  : Nat→Int→Nat→Tye→Option Tye
 | 0,_,_,_=>none
 | n+1,s5,s7,s8=>
 bif decide (s5<(↑v0.length:Int)) then
 bif decide ((0:Int)≤s5∧s5≤(↑v0.length:Int)) then
 bif decide ((0:Int)≤s5∧s5≤IntKind.i64.wrap (s5+bif decide ((↑(List.drop s5.toNat v0).length:Int)<(3:Int)) then (↑(List.drop s5.toNat v0).length:Int) else (3:Int))∧IntKind.i64.wrap (s5+bif decide ((↑(List.drop s5.toNat v0).length:Int)<(3:Int)) then (↑(List.drop s5.toNat v0).length:Int) else (3:Int))≤IntKind.i64.wrap (s5+bif decide ((↑(List.drop s5.toNat v0).length:Int)<(3:Int)) then (↑(List.drop s5.toNat v0).length:Int) else (3:Int))∧IntKind.i64.wrap (s5+bif decide ((↑(List.drop s5.toNat v0).length:Int)<(3:Int)) then (↑(List.drop s5.toNat v0).length:Int) else (3:Int))≤(↑v0.length:Int)) then
 bif (↑(List.drop s5.toNat (List.take (IntKind.i64.wrap (s5+bif decide ((↑(List.drop s5.toNat v0).length:Int)<(3:Int)) then (↑(List.drop s5.toNat v0).length:Int) else (3:Int))).toNat v0)).length:Int)==(3:Int) then
 ob (idx (List.drop s5.toNat (List.take (IntKind.i64.wrap (s5+bif decide ((↑(List.drop s5.toNat v0).length:Int)<(3:Int)) then (↑(List.drop s5.toNat v0).length:Int) else (3:Int))).toNat v0)) (0:Int)) fun xZ=>
 ob (idx (List.drop s5.toNat (List.take (IntKind.i64.wrap (s5+bif decide ((↑(List.drop s5.toNat v0).length:Int)<(3:Int)) then (↑(List.drop s5.toNat v0).length:Int) else (3:Int))).toNat v0)) (1:Int)) fun xa=>
 ob (idx (List.drop s5.toNat (List.take (IntKind.i64.wrap (s5+bif decide ((↑(List.drop s5.toNat v0).length:Int)<(3:Int)) then (↑(List.drop s5.toNat v0).length:Int) else (3:Int))).toNat v0)) (2:Int)) fun xb=>
 ck (s7==3||s7==0) (
 bif room (s8++[(IntKind.i64.wrap (xZ.tmod (4:Int)),IntKind.i64.wrap xa,IntKind.u64.wrap xb)]).length 24 then
 cy k v0  n (IntKind.i64.wrap (s5+(3:Int))) (3) (s8++[(IntKind.i64.wrap (xZ.tmod (4:Int)),IntKind.i64.wrap xa,IntKind.u64.wrap xb)])
 else
 none)
 else
 cy k v0  n (IntKind.i64.wrap (s5+(3:Int))) (s7) (s8)
 else
 none
 else
 none
 else
 some (s8)
theorem kK (k:Nat) (v0:List Int):∀ (n:Nat) (s5:Int) (s7:Nat) (s8:Tye) ⦃s9:Nat⦄ ⦃j6:V⦄,rt none (bq (itX (xX (xS (k+22)) 152 0 (k+22) false) C4 (6) (au (xX (xS (k+22)) 152 0 (k+22) false) (ap (xS (k+22)).P Tryz.f152) BH) n ⟨[.yld 5,.ptr 3 0 0 0,.ptr 4 0 0 0,uu,.lit (.int .i64 s5),j6,.junk,.junk,.junk,.junk,.junk,.junk,.junk,.junk,.junk,.junk,.junk,.junk,.junk,.junk,.junk,.junk,.junk,.junk,.junk,.junk,.junk,.junk,.junk,.junk,.junk],[.rows 0 [] 0 true,.rows s7 (List.map eP s8) s9 true,.box [.own 1 s9 s8.length],.box [.ro (List.map (aF IntKind.u8) v0)],.box [.lit (.int .i64 (3:Int))],(.loop ⟨LoopState.ready,none,73,[.ro (List.map (aF IntKind.u8) v0),uu,.own 0 0 0,.ptr 2 0 0 0,uu,.ro (List.map (aF IntKind.u8) v0),.fn (Fn.func (152:FuncId)) [] [.ptr 3 0 0 0,.ptr 4 0 0 0],uu,uu,uu,uu,uu,uu,uu,uu,uu,uu,uu,uu,uu,uu,uu,uu,uu,uu,uu,uu,uu,uu],[(7:Tmp)],LB,Ne⟩)]⟩) (rfK (au (xX (xS (k+23)) 73 0 (k+23) false) (ap (xS (k+23)).P Tryz.f73) H7) [.ro (List.map (aF IntKind.u8) v0),uu,.own 0 0 0,.ptr 2 0 0 0,uu,.ro (List.map (aF IntKind.u8) v0),.fn (Fn.func (152:FuncId)) [] [.ptr 3 0 0 0,.ptr 4 0 0 0],uu,uu,uu,uu,uu,uu,uu,uu,uu,uu,uu,uu,uu,uu,uu,uu,uu,uu,uu,uu,uu,uu] (5)))=ob (cy k v0  n s5 s7 s8) fun r=>some ((.ro (List.map eP r)),[]):=by
 intro n
 induction n with
 | zero=>intros;rfl
 | succ n ih=>
  intro s5 s7 s8 s9 j6
  rw [cy]
  simp (maxSteps:=2000000) -implicitDefEqProofs only [ajM,aeY,agd,K4,iz,iD,pA,En,aat,UN,Hi,nO,aH (g:=111),acL,Xd,UQ,FM,nP,↓syP,syA,syD,simprocAttr,syE,ah,ag,ae,syW,xFP,nq,xQ,N2,ih]
def gp (k:Nat) (v0:(List Int)):Option Tye:=
 cy k v0 (k+22) ((0:Int)) (0) ([])
theorem Ce (k:Nat) (v0:List Int):xC (k+24) none 73 [.ro (List.map (aF .u8) v0)]=ob (gp k v0) fun r=>some ((.ro (List.map eP r)),[]):=by
 rw [aH]
 unfold gp
 have hl0:=kK k v0 (k+22) ((0:Int)) (0) ([])
 try simp -implicitDefEqProofs only [List.map_nil,List.length_nil] at hl0
 simp (maxSteps:=2000000) -implicitDefEqProofs only [ajM,aeY,agd,K4,iz,iD,pA,En,aat,UN,Hi,nO,aH (g:=111),acL,Xd,UQ,FM,nP,↓syP,syA,syD,simprocAttr,syE,ah,ag,ae,syW,xFP,nq,xQ,kK k v0,hl0]
end Go.Ab
set_option maxRecDepth 100000
set_option linter.unusedVariables false
set_option linter.unusedSimpArgs false
namespace Go.Ab
open Go.Proofs
def bU (k:Nat) (v0:Typ) (v1:Tye)  : Nat→Int→Int→Int→Int→Tyt→List Tyw→List Tys→List Tyw→List Tys→Tye→Int→List Int→Nat→Option (Typ×Tye×Nat)
 | 0,_,_,_,_,_,_,_,_,_,_,_,_,_=>none
 | n+1,sM,sN,sO,sP,sQ,sR,sL,sV,sS,sH,sJ,sK,sI=>
 bif decide (sJ<(↑v1.length:Int)) then
 ob (idx v1 sJ) fun xE=>
 ob (gK (xE.1,xE.2.1,xE.2.2) v0.1.1 (↑v0.2.2.2.2.length:Int)) fun xc=>
 bif xc then
 bif xE.1==(0:Int) then
 bif decide ((0:Int)≤xE.2.1∧xE.2.1.toNat<sR.length) then
 ob (sV[xE.2.1.toNat]?) fun xN=>
 ob (gX k (sM,sN,sO,sP) sQ sK xE.2.1 (xN.1,xN.2.1,(xN.2.2.1.1,xN.2.2.1.2.1,xN.2.2.1.2.2.1,xN.2.2.1.2.2.2.1,xN.2.2.1.2.2.2.2.1,xN.2.2.1.2.2.2.2.2.1,xN.2.2.1.2.2.2.2.2.2),xN.2.2.2.1,xN.2.2.2.2) xE.2.2) fun xI=>
 bif decide ((0:Int)≤xE.2.1∧xE.2.1.toNat<sR.length) then
 ob (sV[xE.2.1.toNat]?) fun xu=>
 ck (sI==3||sI==0) (
 bif room (sH++xI.2.2).length 24 then
 bU k v0 v1  n (sM) (sN) (sO) (sP) (sQ) (sR) (sL) (sV.set xE.2.1.toNat (xI.2.1.1,xI.2.1.2.1,(xI.2.1.2.2.1.1,xI.2.1.2.2.1.2.1,xI.2.1.2.2.1.2.2.1,xI.2.1.2.2.1.2.2.2.1,xI.2.1.2.2.1.2.2.2.2.1,xI.2.1.2.2.1.2.2.2.2.2.1,xI.2.1.2.2.1.2.2.2.2.2.2),xI.2.1.2.2.2.1,xI.2.1.2.2.2.2)) (sS) (sH++xI.2.2) (IntKind.i64.wrap (sJ+(1:Int))) (xI.1) (3)
 else
 none)
 else
 none
 else
 none
 else
 bif xE.1==(1:Int) then
 bif decide ((0:Int)≤xE.2.1∧xE.2.1.toNat<sL.length) then
 ob (sS[xE.2.1.toNat]?) fun xO=>
 ob (fg (k+36) (sM,sN,sO,sP) sQ sK (xO.1,xO.2.1,xO.2.2.1,xO.2.2.2.1,xO.2.2.2.2.1,xO.2.2.2.2.2.1,xO.2.2.2.2.2.2.1,xO.2.2.2.2.2.2.2.1,xO.2.2.2.2.2.2.2.2)) fun xd=>
 bif xd then
 bif decide ((0:Int)≤xE.2.1∧xE.2.1.toNat<sL.length) then
 ob (sS[xE.2.1.toNat]?) fun xP=>
 ob (fw (k+20) (sM,sN,sO,sP) sQ sK xE.2.1 (xP.1,xP.2.1,xP.2.2.1,xP.2.2.2.1,xP.2.2.2.2.1,xP.2.2.2.2.2.1,xP.2.2.2.2.2.2.1,xP.2.2.2.2.2.2.2.1,xP.2.2.2.2.2.2.2.2)) fun xJ=>
 bif decide ((0:Int)≤xE.2.1∧xE.2.1.toNat<sL.length) then
 ob (sS[xE.2.1.toNat]?) fun xv=>
 ck (sI==3||sI==0) (
 bif room (sH++xJ.2.2).length 24 then
 bU k v0 v1  n (sM) (sN) (sO) (sP) (sQ) (sR) (sL) (sV) (sS.set xE.2.1.toNat (xJ.2.1.1,xJ.2.1.2.1,xJ.2.1.2.2.1,xJ.2.1.2.2.2.1,xJ.2.1.2.2.2.2.1,xJ.2.1.2.2.2.2.2.1,xJ.2.1.2.2.2.2.2.2.1,xJ.2.1.2.2.2.2.2.2.2.1,xJ.2.1.2.2.2.2.2.2.2.2)) (sH++xJ.2.2) (IntKind.i64.wrap (sJ+(1:Int))) (xJ.1) (3)
 else
 none)
 else
 none
 else
 none
 else
 ck (sI==3||sI==0) (
 bif room sH.length 24 then
 bU k v0 v1  n (sM) (sN) (sO) (sP) (sQ) (sR) (sL) (sV) (sS) (sH) (IntKind.i64.wrap (sJ+(1:Int))) (sK) (3)
 else
 none)
 else
 none
 else
 bif xE.1==(2:Int) then
 ob (bw sK (3:Int) (1:Int)) fun xe=>
 ck (sI==3||sI==0) (
 bif room sH.length 24 then
 bU k v0 v1  n (sM) (sN) (sO) (sP) (sQ) (sR) (sL) (sV) (sS) (sH) (IntKind.i64.wrap (sJ+(1:Int))) (xe) (3)
 else
 none)
 else
 ck (sI==3||sI==0) (
 bif room sH.length 24 then
 bU k v0 v1  n (sM) (sN) (sO) (sP) (sQ) (sR) (sL) (sV) (sS) (sH) (IntKind.i64.wrap (sJ+(1:Int))) (sK) (3)
 else
 none)
 else
 bU k v0 v1  n (sM) (sN) (sO) (sP) (sQ) (sR) (sL) (sV) (sS) (sH) (IntKind.i64.wrap (sJ+(1:Int))) (sK) (sI)
 else
 ck (decide (sR.length≤sV.length)) (
 ck (decide (sL.length≤sS.length)) (
 some ((((sM),(sN),(sO),(sP)),(sQ),(sK),(List.take sR.length sV),(List.take sL.length sS)),(sH),sI)))
theorem lK (k:Nat) (v0_0_0 v0_0_1 v0_0_2 v0_0_3:Int) (v0_1:Tyt) (v0_2:List Int) (v0_3:List Tyw) (v0_4:List Tys) (v1:Tye):∀ (n:Nat) (sM sN sO sP:Int) (sQ:Tyt) (sR:List Tyw) (sL:List Tys) (sV:List Tyw) (sS:List Tys) (sH:Tye) (sJ:Int) (sK:List Int) (sI:Nat) ⦃su:List Int⦄ ⦃sv sw:Bool⦄ ⦃so:Nat⦄ ⦃j117:V⦄,rt (some fun i=>i==1) (itX (xX (xS (k+62)) 17 0 (k+62) false) wB (15) (au (xX (xS (k+62)) 17 0 (k+62) false) (ap (xS (k+62)).P Tryz.f17) AU) n ⟨[.agg [.lit (.int .i64 v0_0_0),.lit (.int .i64 v0_0_1),.lit (.int .i64 v0_0_2),.lit (.int .i64 v0_0_3),.ro (List.map an v0_1),.ro (List.map (aF IntKind.u64) v0_2),.ro (List.map aK v0_3),.ro (List.map bD v0_4)],.ro (List.map eP v1),.ptr 0 0 0 0,uu,.ptr 5 0 0 0,.own 6 0 0,.ptr 13 0 0 0,.own 14 so sH.length,uu,j117,.agg [.lit (.int .i64 v0_0_0),.lit (.int .i64 v0_0_1),.lit (.int .i64 v0_0_2),.lit (.int .i64 v0_0_3),.ro (List.map an v0_1),.ro (List.map (aF IntKind.u64) v0_2),.ro (List.map aK v0_3),.ro (List.map bD v0_4)],.agg [.lit (.int .i64 sM),.lit (.int .i64 sN),.lit (.int .i64 sO),.lit (.int .i64 sP),.ro (List.map an sQ),.ro (List.map (aF IntKind.u64) su),.own 7 0 sR.length,.own 8 0 sL.length],.agg [.lit (.int .i64 v0_0_0),.lit (.int .i64 v0_0_1),.lit (.int .i64 v0_0_2),.lit (.int .i64 v0_0_3),.ro (List.map an v0_1),.ro (List.map (aF IntKind.u64) v0_2),.ro (List.map aK v0_3),.ro (List.map bD v0_4)],.lit (.bool sv),.lit (.bool sw),uu,.ro (List.map eP v1),.lit (.int .i64 (↑v1.length:Int)),.lit (.int .i64 sJ),.junk,.junk,.junk,.junk,.junk,.junk,.junk,.junk,.junk,.junk,.junk,.junk,.junk,.junk,.junk,.junk,uu,uu],[.box [.lit (.int .i64 v0_0_0),.lit (.int .i64 v0_0_1),.lit (.int .i64 v0_0_2),.lit (.int .i64 v0_0_3),.ro (List.map an v0_1),.ro (List.map (aF IntKind.u64) v0_2),.ro (List.map aK v0_3),.ro (List.map bD v0_4)],.rows 0 [] 0 true,.rows 0 [] 0 true,.rows 0 [] 0 true,.rows 0 [] 0 true,.box [.lit (.int .i64 (0:Int)),.lit (.int .i64 (0:Int)),.lit (.int .i64 (0:Int)),.lit (.int .i64 (0:Int)),.own 1 0 0,.own 2 0 0,.own 3 0 0,.own 4 0 0],.rows 0 [] 0 true,.rows 11 (List.map aK sV) 0 true,.rows 9 (List.map bD sS) 0 true,.rows 0 [] 0 true,.rows 0 [] 0 true,.rows 0 [] 0 true,.rows 0 [] 0 true,.box [.lit (.int .i64 sM),.lit (.int .i64 sN),.lit (.int .i64 sO),.lit (.int .i64 sP),.ro (List.map an sQ),.ro (List.map (aF IntKind.u64) sK),.own 7 0 sR.length,.own 8 0 sL.length],.rows sI (List.map aJ sH) so true]⟩)=ob (bU k ((v0_0_0,v0_0_1,v0_0_2,v0_0_3),v0_1,v0_2,v0_3,v0_4) v1  n sM sN sO sP sQ sR sL sV sS sH sJ sK sI) fun r=>some ((.tup [.agg [.lit (.int .i64 r.1.1.1),.lit (.int .i64 r.1.1.2.1),.lit (.int .i64 r.1.1.2.2.1),.lit (.int .i64 r.1.1.2.2.2),.ro (List.map an r.1.2.1),.ro (List.map (aF .u64) r.1.2.2.1),.ro (List.map aK r.1.2.2.2.1),.ro (List.map bD r.1.2.2.2.2)],.own 0 0 r.2.1.length]),[.rows r.2.2 (List.map aJ r.2.1) 0 true]):=by
 intro n
 induction n with
 | zero=>intros;rfl
 | succ n ih=>
  intro sM sN sO sP sQ sR sL sV sS sH sJ sK sI su sv sw so j117
  rw [bU]
  simp (maxSteps:=2000000) -implicitDefEqProofs only [Uw,Qg,P1,pm,fk,UC,OC,QD,oZ,o9,fx,fy,aH (g:=41),SK,Oz,pa,fj,TH,Rr,Tl,OG,Tq,PY,↓syP,syA,syD,simprocAttr,syE,ah,ag,ae,syW,un,ud,pl,xQ,dX,mJ,oI,wu,db,dU,u5,cF,IS,ih]
  all_goals try simp -implicitDefEqProofs only [List.map_nil,List.length_nil]
def gH (k:Nat) (v0:Typ) (v1:Tye):Option (Typ×Tye×Nat):=
 ob (dw (k+59) v0.2.1) fun xf=>
 ob (aQ 8 v0.2.2.1) fun xg=>
 ob (aQ 104 v0.2.2.2.1) fun xV=>
 ob (aQ 88 v0.2.2.2.2) fun xh=>
 ob (bY k (k+61) v0.1.1 v0.1.2.1 v0.1.2.2.1 v0.1.2.2.2 xf xg xV xh (↑xV.length:Int) 0 xV) fun xB=>
 ck (decide (xB.2.2.2.2.2.2.1.length≤xB.2.2.2.2.2.2.2.2.1.length)) (
 ck (decide (xB.2.2.2.2.2.2.2.1.length≤xB.2.2.2.2.2.2.2.2.2.length)) (
 ob (eF (k+27) v0) fun xi=>
 bif !xi then
 ck (decide (xB.2.2.2.2.2.2.1.length≤(List.take xB.2.2.2.2.2.2.1.length xB.2.2.2.2.2.2.2.2.1).length)) (
 ck (decide (xB.2.2.2.2.2.2.2.1.length≤(List.take xB.2.2.2.2.2.2.2.1.length xB.2.2.2.2.2.2.2.2.2).length)) (
 some (((xB.1,xB.2.1,xB.2.2.1,xB.2.2.2.1),xB.2.2.2.2.1,xB.2.2.2.2.2.1,(List.take xB.2.2.2.2.2.2.1.length (List.take xB.2.2.2.2.2.2.1.length xB.2.2.2.2.2.2.2.2.1)),(List.take xB.2.2.2.2.2.2.2.1.length (List.take xB.2.2.2.2.2.2.2.1.length xB.2.2.2.2.2.2.2.2.2))),[],0)))
 else
 bU k v0 v1 (k+62) xB.1 xB.2.1 xB.2.2.1 xB.2.2.2.1 xB.2.2.2.2.1 xB.2.2.2.2.2.2.1 xB.2.2.2.2.2.2.2.1 (List.take xB.2.2.2.2.2.2.1.length xB.2.2.2.2.2.2.2.2.1) (List.take xB.2.2.2.2.2.2.2.1.length xB.2.2.2.2.2.2.2.2.2) ([]) 0 xB.2.2.2.2.2.1 0))
theorem ea (k:Nat) (v0_0_0 v0_0_1 v0_0_2 v0_0_3:Int) (v0_1:Tyt) (v0_2:List Int) (v0_3:List Tyw) (v0_4:List Tys) (v1:Tye):xC (k+63) (some fun i=>i==1) 17 [.agg [.lit (.int .i64 v0_0_0),.lit (.int .i64 v0_0_1),.lit (.int .i64 v0_0_2),.lit (.int .i64 v0_0_3),.ro (List.map an v0_1),.ro (List.map (aF .u64) v0_2),.ro (List.map aK v0_3),.ro (List.map bD v0_4)],.ro (List.map eP v1)]=ob (gH k ((v0_0_0,v0_0_1,v0_0_2,v0_0_3),v0_1,v0_2,v0_3,v0_4) v1) fun r=>some ((.tup [.agg [.lit (.int .i64 r.1.1.1),.lit (.int .i64 r.1.1.2.1),.lit (.int .i64 r.1.1.2.2.1),.lit (.int .i64 r.1.1.2.2.2),.ro (List.map an r.1.2.1),.ro (List.map (aF .u64) r.1.2.2.1),.ro (List.map aK r.1.2.2.2.1),.ro (List.map bD r.1.2.2.2.2)],.own 0 0 r.2.1.length]),[.rows r.2.2 (List.map aJ r.2.1) 0 true]):=by
 rw [aH]
 unfold gH
 have hl0:=fun (xK:Int×Int×Int×Int×Tyt×List Int×List Tyw×List Tys×List Tyw×List Tys)=>lK k v0_0_0 v0_0_1 v0_0_2 v0_0_3 v0_1 v0_2 v0_3 v0_4 v1 (k+62) (xK.fst) (xK.snd.fst) (xK.snd.snd.fst) (xK.snd.snd.snd.fst) (xK.snd.snd.snd.snd.fst) (xK.snd.snd.snd.snd.snd.snd.fst) (xK.snd.snd.snd.snd.snd.snd.snd.fst) (List.take xK.snd.snd.snd.snd.snd.snd.fst.length xK.snd.snd.snd.snd.snd.snd.snd.snd.fst) (List.take xK.snd.snd.snd.snd.snd.snd.snd.fst.length xK.snd.snd.snd.snd.snd.snd.snd.snd.snd) ([]) ((0:Int)) (xK.snd.snd.snd.snd.snd.fst) (0)
 try simp -implicitDefEqProofs only [List.map_nil,List.length_nil] at hl0
 simp (maxSteps:=2000000) -implicitDefEqProofs only [Uw,Qg,P1,pm,fk,UC,OC,QD,oZ,o9,fx,fy,aH (g:=41),SK,Oz,pa,fj,TH,Rr,Tl,OG,Tq,PY,↓syP,syA,syD,simprocAttr,syE,ah,ag,ae,syW,un,ud,pl,xQ,db,dU,cF,lK k v0_0_0 v0_0_1 v0_0_2 v0_0_3 v0_1 v0_2 v0_3 v0_4 v1,hl0]
 all_goals try simp -implicitDefEqProofs only [List.map_nil,List.length_nil]
end Go.Ab
set_option maxRecDepth 100000
set_option linter.unusedVariables false
set_option linter.unusedSimpArgs false
namespace Go.Ab
open Go.Proofs
def eO (k:Nat) (v0:Typ)  : Nat→Int→Int→Int→Int→Tyt→List Int→List Tyw→List Tys→List Tyw→List Tys→Option (Typ×Tye)
 | 0,_,_,_,_,_,_,_,_,_,_=>none
 | n+1,s8,s9,sT,sU,sW,sA,sC,sD,sE,sB=>
 ck (decide (sC.length≤sE.length)) (
 ck (decide (sD.length≤sB.length)) (
 some ((((s8),(s9),(sT),(sU)),(sW),(sA),(List.take sC.length sE),(List.take sD.length sB)),[])))
def fb (k:Nat) (v0:Typ):Option (Typ×Tye):=
 ob (dw (k+59) v0.2.1) fun xj=>
 ob (aQ 8 v0.2.2.1) fun xk=>
 ob (aQ 104 v0.2.2.2.1) fun xW=>
 ob (aQ 88 v0.2.2.2.2) fun xl=>
 ob (bY k (k+61) v0.1.1 v0.1.2.1 v0.1.2.2.1 v0.1.2.2.2 xj xk xW xl (↑xW.length:Int) (0:Int) xW) fun xH=>
 ck (decide (xH.2.2.2.2.2.2.1.length≤xH.2.2.2.2.2.2.2.2.1.length)) (
 ck (decide (xH.2.2.2.2.2.2.2.1.length≤xH.2.2.2.2.2.2.2.2.2.length)) (
 ob (eF (k+27) ((v0.1.1,v0.1.2.1,v0.1.2.2.1,v0.1.2.2.2),v0.2.1,v0.2.2.1,v0.2.2.2.1,v0.2.2.2.2)) fun xm=>
 bif !xm then
 ck (decide (xH.2.2.2.2.2.2.1.length≤(List.take xH.2.2.2.2.2.2.1.length xH.2.2.2.2.2.2.2.2.1).length)) (
 ck (decide (xH.2.2.2.2.2.2.2.1.length≤(List.take xH.2.2.2.2.2.2.2.1.length xH.2.2.2.2.2.2.2.2.2).length)) (
 some ((((xH.1),(xH.2.1),(xH.2.2.1),(xH.2.2.2.1)),(xH.2.2.2.2.1),(xH.2.2.2.2.2.1),(List.take xH.2.2.2.2.2.2.1.length (List.take xH.2.2.2.2.2.2.1.length xH.2.2.2.2.2.2.2.2.1)),(List.take xH.2.2.2.2.2.2.2.1.length (List.take xH.2.2.2.2.2.2.2.1.length xH.2.2.2.2.2.2.2.2.2))),[])))
 else
 eO k v0 (k+62) (xH.1) (xH.2.1) (xH.2.2.1) (xH.2.2.2.1) (xH.2.2.2.2.1) (xH.2.2.2.2.2.1) (xH.2.2.2.2.2.2.1) (xH.2.2.2.2.2.2.2.1) (List.take xH.2.2.2.2.2.2.1.length xH.2.2.2.2.2.2.2.2.1) (List.take xH.2.2.2.2.2.2.2.1.length xH.2.2.2.2.2.2.2.2.2)))
theorem oq (k:Nat) (v0_0_0 v0_0_1 v0_0_2 v0_0_3:Int) (v0_1:Tyt) (v0_2:List Int) (v0_3:List Tyw) (v0_4:List Tys):∀ (n:Nat) (s8 s9 sT sU:Int) (sW:Tyt) (sA:List Int) (sC:List Tyw) (sD:List Tys) (sE:List Tyw) (sB:List Tys) ⦃sF sG:Bool⦄,rt (some fun i=>i==1) (itX (xX (xS (k+62)) 17 0 (k+62) false) wB (15) (au (xX (xS (k+62)) 17 0 (k+62) false) (ap (xS (k+62)).P Tryz.f17) AU) n ⟨[.agg [.lit (.int .i64 v0_0_0),.lit (.int .i64 v0_0_1),.lit (.int .i64 v0_0_2),.lit (.int .i64 v0_0_3),.ro (List.map an v0_1),.ro (List.map (aF IntKind.u64) v0_2),.ro (List.map aK v0_3),.ro (List.map bD v0_4)],.nil,.ptr 0 0 0 0,uu,.ptr 5 0 0 0,.own 6 0 0,.ptr 13 0 0 0,.own 14 0 0,uu,uu,.agg [.lit (.int .i64 v0_0_0),.lit (.int .i64 v0_0_1),.lit (.int .i64 v0_0_2),.lit (.int .i64 v0_0_3),.ro (List.map an v0_1),.ro (List.map (aF IntKind.u64) v0_2),.ro (List.map aK v0_3),.ro (List.map bD v0_4)],.agg [.lit (.int .i64 s8),.lit (.int .i64 s9),.lit (.int .i64 sT),.lit (.int .i64 sU),.ro (List.map an sW),.ro (List.map (aF IntKind.u64) sA),.own 7 0 sC.length,.own 8 0 sD.length],.agg [.lit (.int .i64 v0_0_0),.lit (.int .i64 v0_0_1),.lit (.int .i64 v0_0_2),.lit (.int .i64 v0_0_3),.ro (List.map an v0_1),.ro (List.map (aF IntKind.u64) v0_2),.ro (List.map aK v0_3),.ro (List.map bD v0_4)],.lit (.bool sF),.lit (.bool sG),uu,.nil,.lit (.int .i64 (0:Int)),.lit (.int .i64 (0:Int)),.junk,.junk,.junk,.junk,.junk,.junk,.junk,.junk,.junk,.junk,.junk,.junk,.junk,.junk,.junk,.junk,uu,uu],[.box [.lit (.int .i64 v0_0_0),.lit (.int .i64 v0_0_1),.lit (.int .i64 v0_0_2),.lit (.int .i64 v0_0_3),.ro (List.map an v0_1),.ro (List.map (aF IntKind.u64) v0_2),.ro (List.map aK v0_3),.ro (List.map bD v0_4)],.rows 0 [] 0 true,.rows 0 [] 0 true,.rows 0 [] 0 true,.rows 0 [] 0 true,.box [.lit (.int .i64 (0:Int)),.lit (.int .i64 (0:Int)),.lit (.int .i64 (0:Int)),.lit (.int .i64 (0:Int)),.own 1 0 0,.own 2 0 0,.own 3 0 0,.own 4 0 0],.rows 0 [] 0 true,.rows 11 (List.map aK sE) 0 true,.rows 9 (List.map bD sB) 0 true,.rows 0 [] 0 true,.rows 0 [] 0 true,.rows 0 [] 0 true,.rows 0 [] 0 true,.box [.lit (.int .i64 s8),.lit (.int .i64 s9),.lit (.int .i64 sT),.lit (.int .i64 sU),.ro (List.map an sW),.ro (List.map (aF IntKind.u64) sA),.own 7 0 sC.length,.own 8 0 sD.length],.rows 0 [] 0 true]⟩)=ob (eO k ((v0_0_0,v0_0_1,v0_0_2,v0_0_3),v0_1,v0_2,v0_3,v0_4)  n s8 s9 sT sU sW sA sC sD sE sB) fun r=>some ((.tup [.agg [.lit (.int .i64 r.1.1.1),.lit (.int .i64 r.1.1.2.1),.lit (.int .i64 r.1.1.2.2.1),.lit (.int .i64 r.1.1.2.2.2),.ro (List.map an r.1.2.1),.ro (List.map (aF .u64) r.1.2.2.1),.ro (List.map aK r.1.2.2.2.1),.ro (List.map bD r.1.2.2.2.2)],.own 0 0 0]),[.rows 0 [] 0 true]):=by
 intro n
 induction n with
 | zero=>intros;rfl
 | succ n ih=>
  intro s8 s9 sT sU sW sA sC sD sE sB sF sG
  rw [eO]
  simp (maxSteps:=2000000) -implicitDefEqProofs only [Uw,Qg,P1,pm,fk,UC,OC,QD,oZ,o9,fx,fy,aH (g:=41),SK,Oz,pa,fj,TH,Rr,Tl,OG,Tq,PY,↓syP,syA,syD,simprocAttr,syE,ah,ag,ae,syW,un,ud,pl,xFP,nq,yI,xQ,db,dU,cF,IS,ih]
theorem dz (k:Nat) (v0_0_0 v0_0_1 v0_0_2 v0_0_3:Int) (v0_1:Tyt) (v0_2:List Int) (v0_3:List Tyw) (v0_4:List Tys):xC (k+63) (some fun i=>i==1) 17 [.agg [.lit (.int .i64 v0_0_0),.lit (.int .i64 v0_0_1),.lit (.int .i64 v0_0_2),.lit (.int .i64 v0_0_3),.ro (List.map an v0_1),.ro (List.map (aF .u64) v0_2),.ro (List.map aK v0_3),.ro (List.map bD v0_4)],.nil]=ob (fb k ((v0_0_0,v0_0_1,v0_0_2,v0_0_3),v0_1,v0_2,v0_3,v0_4)) fun r=>some ((.tup [.agg [.lit (.int .i64 r.1.1.1),.lit (.int .i64 r.1.1.2.1),.lit (.int .i64 r.1.1.2.2.1),.lit (.int .i64 r.1.1.2.2.2),.ro (List.map an r.1.2.1),.ro (List.map (aF .u64) r.1.2.2.1),.ro (List.map aK r.1.2.2.2.1),.ro (List.map bD r.1.2.2.2.2)],.own 0 0 0]),[.rows 0 [] 0 true]):=by
 rw [aH]
 unfold fb
 simp (maxSteps:=2000000) -implicitDefEqProofs only [Uw,Qg,P1,pm,fk,UC,OC,QD,oZ,o9,fx,fy,aH (g:=41),SK,Oz,pa,fj,TH,Rr,Tl,OG,Tq,PY,↓syP,syA,syD,simprocAttr,syE,ah,ag,ae,syW,un,ud,pl,xFP,nq,yI,xQ,db,dU,cF,oq k v0_0_0 v0_0_1 v0_0_2 v0_0_3 v0_1 v0_2 v0_3 v0_4]
end Go.Ab
set_option maxRecDepth 100000
set_option linter.unusedVariables false
set_option linter.unusedSimpArgs false
namespace Go.Ab
open Go.Proofs
def dn (k:Nat) (v0:Int) (v1:Int) (v2:Int)  : Nat→Tye→Nat→Int→Option Tye
 | 0,_,_,_=>none
 | n+1,sZ,sm,sa=>
 bif decide (sa<v1) then
 ck (sm==3||sm==0) (
 bif room (sZ++[((1:Int),sa,v2)]).length 24 then
 dn k v0 v1 v2  n (sZ++[((1:Int),sa,v2)]) (3) (IntKind.i64.wrap (sa+(1:Int)))
 else
 none)
 else
 some (sZ)
theorem oE (k:Nat) (v0 v1 v2:Int):∀ (n:Nat) (sZ:Tye) (sm:Nat) (sa:Int) ⦃sx sy sz sp:Bool⦄ ⦃sq:Nat⦄ ⦃j39 j41:V⦄,rt none (itX (xX (xS (k+1)) 113 0 (k+1) false) Co (2) (au (xX (xS (k+1)) 113 0 (k+1) false) (ap (xS (k+1)).P Tryz.f113) CI) n ⟨[.lit (.int .i64 v0),.lit (.int .i64 v1),.lit (.int .u64 v2),uu,uu,uu,.own 0 0 0,.own 1 sq sZ.length,j39,j41,.lit (.int .i64 v0),.lit (.bool sx),.lit (.bool sy),.lit (.bool false),.lit (.int .i64 v1),.lit (.bool sz),.lit (.bool sp),.lit (.bool sp),.lit (.int .i64 v0),.junk,.junk,.junk,.junk,.junk,.junk,.junk,.junk,.junk,.junk,.lit (.int .i64 v1),.lit (.int .i64 sa),.junk,.junk,.junk,.junk,.junk,.junk,.junk,.junk,.junk,uu],[.rows 0 [] 0 true,.rows sm (List.map eP sZ) sq true]⟩)=ob (dn k v0 v1 v2  n sZ sm sa) fun r=>some ((.ro (List.map eP r)),[]):=by
 intro n
 induction n with
 | zero=>intros;rfl
 | succ n ih=>
  intro sZ sm sa sx sy sz sp sq j39 j41
  rw [dn]
  simp (maxSteps:=2000000) -implicitDefEqProofs only [Vp,Pr,RB,CK,CY,CB,l8,mf,l9,↓syP,syA,syD,simprocAttr,syE,ah,ag,ae,syW,xFP,nq,yI,xQ,ea,dz,iv,LP,ih]
def di (k:Nat) (v0:Int) (v1:Int) (v2:Int)  : Nat→Tye→Int→Nat→Option Tye
 | 0,_,_,_=>none
 | n+1,sb,sc,sd=>
 bif decide (sc<v0) then
 ck (sd==3||sd==0) (
 bif room (sb++[((0:Int),sc,v2)]).length 24 then
 di k v0 v1 v2  n (sb++[((0:Int),sc,v2)]) (IntKind.i64.wrap (sc+(1:Int))) (3)
 else
 none)
 else
 dn k v0 v1 v2 (k+1) (sb) (sd) ((0:Int))
theorem kX (k:Nat) (v0 v1 v2:Int):∀ (n:Nat) (sb:Tye) (sc:Int) (sd:Nat) ⦃sB s20 s21 sr:Bool⦄ ⦃ss:Nat⦄ ⦃j27:V⦄,rt none (itX (xX (xS (k+1)) 113 0 (k+1) false) BM (2) (au (xX (xS (k+1)) 113 0 (k+1) false) (ap (xS (k+1)).P Tryz.f113) CE) n ⟨[.lit (.int .i64 v0),.lit (.int .i64 v1),.lit (.int .u64 v2),uu,uu,uu,.own 0 0 0,.own 1 ss sb.length,j27,uu,.lit (.int .i64 v0),.lit (.bool sB),.lit (.bool s20),.lit (.bool false),.lit (.int .i64 v1),.lit (.bool s21),.lit (.bool sr),.lit (.bool sr),.lit (.int .i64 v0),.lit (.int .i64 sc),.junk,.junk,.junk,.junk,.junk,.junk,.junk,.junk,.junk,uu,uu,uu,uu,uu,uu,uu,uu,uu,uu,uu,uu],[.rows 0 [] 0 true,.rows sd (List.map eP sb) ss true]⟩)=ob (di k v0 v1 v2  n sb sc sd) fun r=>some ((.ro (List.map eP r)),[]):=by
 intro n
 induction n with
 | zero=>intros;rfl
 | succ n ih=>
  intro sb sc sd sB s20 s21 sr ss j27
  rw [di]
  simp (maxSteps:=2000000) -implicitDefEqProofs only [Vp,Pr,RB,CK,CY,CB,l8,mf,l9,↓syP,syA,syD,simprocAttr,syE,ah,ag,ae,syW,xFP,nq,yI,xQ,ea,dz,iv,LD,ih,oE k v0 v1 v2]
def f9 (k:Nat) (v0:Int) (v1:Int) (v2:Int):Option Tye:=
 ob (cJ v0 (21:Int)) fun xn=>
 bif !xn then
 some []
 else
 ob (cJ v1 (21:Int)) fun xo=>
 bif !xo then
 some []
 else
 di k v0 v1 v2 (k+1) ([]) ((0:Int)) (0)
theorem Eg (k:Nat) (v0 v1 v2:Int):xC (k+2) none 113 [.lit (.int .i64 v0),.lit (.int .i64 v1),.lit (.int .u64 v2)]=ob (f9 k v0 v1 v2) fun r=>some ((.ro (List.map eP r)),[]):=by
 rw [aH]
 unfold f9
 have hl0:=kX k v0 v1 v2 (k+1) ([]) ((0:Int)) (0)
 try simp -implicitDefEqProofs only [List.map_nil,List.length_nil] at hl0
 simp (maxSteps:=2000000) -implicitDefEqProofs only [Vp,Pr,RB,CK,CY,CB,l8,mf,l9,↓syP,syA,syD,simprocAttr,syE,ah,ag,ae,syW,xFP,nq,yI,xQ,ea,dz,iv,kX k v0 v1 v2,hl0]
 all_goals simp -implicitDefEqProofs only [List.map_nil]
def dm (k:Nat) (v0:Typ) (v1:Int)  : Nat→Int→Int→Int→Int→Tyt→List Int→List Tyw→List Tys→Int→Nat→Tye→Option (Typ×Tye×Int)
 | 0,_,_,_,_,_,_,_,_,_,_,_=>none
 | n+1,s4,s5,s6,s7,s8,s9,sT,sU,sX,sn,sY=>
 bif decide (sX<bif decide ((5000:Int)<v1) then (5000:Int) else v1) then
 ob (f9 (k+86) v0.1.1 (↑v0.2.2.2.2.length:Int) (IntKind.u64.wrap sX)) fun xp=>
 ob (d9 (k+50) ((s4,s5,s6,s7),s8,s9,sT,sU)) fun xq=>
 bif xq then
 some ((((s4),(s5),(s6),(s7)),(s8),(s9),(sT),(sU)),(sY),(sX))
 else
 ob (gH (k+24) ((s4,s5,s6,s7),s8,s9,sT,sU) xp) fun xT=>
 ck (sn==3||sn==0) (
 bif room (sY++xT.2.1).length 24 then
 dm k v0 v1  n (xT.1.1.1) (xT.1.1.2.1) (xT.1.1.2.2.1) (xT.1.1.2.2.2) (xT.1.2.1) (xT.1.2.2.1) (xT.1.2.2.2.1) (xT.1.2.2.2.2) (IntKind.i64.wrap (sX+(1:Int))) (3) (sY++xT.2.1)
 else
 none)
 else
 some ((((s4),(s5),(s6),(s7)),(s8),(s9),(sT),(sU)),(sY),(sX))
theorem kY (k:Nat) (v0_0_0 v0_0_1 v0_0_2 v0_0_3:Int) (v0_1:Tyt) (v0_2:List Int) (v0_3:List Tyw) (v0_4:List Tys) (v1:Int):∀ (n:Nat) (s4 s5 s6 s7:Int) (s8:Tyt) (s9:List Int) (sT:List Tyw) (sU:List Tys) (sX:Int) (sn:Nat) (sY:Tye) ⦃sW sA:Bool⦄ ⦃st:Nat⦄ ⦃se sf sg sh:Int⦄ ⦃si:Tyt⦄ ⦃sj:List Int⦄ ⦃sk:List Tyw⦄ ⦃sl:List Tys⦄,rt none (bq (itX (xX (xS (k+88)) 112 0 (k+88) false) BQ (19) (au (xX (xS (k+88)) 112 0 (k+88) false) (ap (xS (k+88)).P Tryz.f112) CU) n ⟨[.yld 18,.ptr 17 0 0 0,.ptr 16 0 0 0,uu,.lit (.int .i64 sX),.junk,.junk,.junk,.junk,.junk,.junk,.junk,.junk,.junk,.junk,.junk,.junk,.junk,.junk,.junk,.junk,.junk,.junk,.junk],[.box [.lit (.int .i64 v0_0_0),.lit (.int .i64 v0_0_1),.lit (.int .i64 v0_0_2),.lit (.int .i64 v0_0_3),.ro (List.map an v0_1),.ro (List.map (aF IntKind.u64) v0_2),.ro (List.map aK v0_3),.ro (List.map bD v0_4)],.rows 0 [] 0 true,.rows 0 [] 0 true,.rows 0 [] 0 true,.rows 0 [] 0 true,.box [.lit (.int .i64 (0:Int)),.lit (.int .i64 (0:Int)),.lit (.int .i64 (0:Int)),.lit (.int .i64 (0:Int)),.own 1 0 0,.own 2 0 0,.own 3 0 0,.own 4 0 0],.rows 0 [] 0 true,.rows sn (List.map aJ sY) st true,.rows 0 [] 0 true,.rows 0 [] 0 true,.rows 0 [] 0 true,.rows 0 [] 0 true,.box [.lit (.int .i64 s4),.lit (.int .i64 s5),.lit (.int .i64 s6),.lit (.int .i64 s7),.ro (List.map an s8),.ro (List.map (aF IntKind.u64) s9),.ro (List.map aK sT),.ro (List.map bD sU)],.rows 0 [] 0 true,.box [.own 7 st sY.length],.box [.lit (.int .i64 sX)],.box [.lit (.int .i64 v0_0_0),.lit (.int .i64 v0_0_1),.lit (.int .i64 v0_0_2),.lit (.int .i64 v0_0_3),.ro (List.map an v0_1),.ro (List.map (aF IntKind.u64) v0_2),.ro (List.map aK v0_3),.ro (List.map bD v0_4)],.box [.lit (.int .i64 v1)],(.loop ⟨LoopState.ready,none,36,[.agg [.lit (.int .i64 v0_0_0),.lit (.int .i64 v0_0_1),.lit (.int .i64 v0_0_2),.lit (.int .i64 v0_0_3),.ro (List.map an v0_1),.ro (List.map (aF IntKind.u64) v0_2),.ro (List.map aK v0_3),.ro (List.map bD v0_4)],.lit (.int .i64 v1),.ptr 0 0 0 0,uu,.ptr 5 0 0 0,.own 6 0 0,.lit (.int .i64 (0:Int)),.ptr 12 0 0 0,.ptr 14 0 0 0,.ptr 15 0 0 0,uu,uu,uu,uu,.tup [.agg [.lit (.int .i64 se),.lit (.int .i64 sf),.lit (.int .i64 sg),.lit (.int .i64 sh),.ro (List.map an si),.ro (List.map (aF IntKind.u64) sj),.ro (List.map aK sk),.ro (List.map bD sl)],.own 7 0 0],.agg [.lit (.int .i64 v0_0_0),.lit (.int .i64 v0_0_1),.lit (.int .i64 v0_0_2),.lit (.int .i64 v0_0_3),.ro (List.map an v0_1),.ro (List.map (aF IntKind.u64) v0_2),.ro (List.map aK v0_3),.ro (List.map bD v0_4)],.tup [.agg [.lit (.int .i64 se),.lit (.int .i64 sf),.lit (.int .i64 sg),.lit (.int .i64 sh),.ro (List.map an si),.ro (List.map (aF IntKind.u64) sj),.ro (List.map aK sk),.ro (List.map bD sl)],.own 7 0 0],.agg [.lit (.int .i64 se),.lit (.int .i64 sf),.lit (.int .i64 sg),.lit (.int .i64 sh),.ro (List.map an si),.ro (List.map (aF IntKind.u64) sj),.ro (List.map aK sk),.ro (List.map bD sl)],.own 7 0 0,.agg [.lit (.int .i64 v0_0_0),.lit (.int .i64 v0_0_1),.lit (.int .i64 v0_0_2),.lit (.int .i64 v0_0_3),.ro (List.map an v0_1),.ro (List.map (aF IntKind.u64) v0_2),.ro (List.map aK v0_3),.ro (List.map bD v0_4)],.lit (.bool sW),.lit (.bool sA),uu,.agg [.lit (.int .i64 v0_0_0),.lit (.int .i64 v0_0_1),.lit (.int .i64 v0_0_2),.lit (.int .i64 v0_0_3),.ro (List.map an v0_1),.ro (List.map (aF IntKind.u64) v0_2),.ro (List.map aK v0_3),.ro (List.map bD v0_4)],.lit (.int .i64 v1),.fn (Fn.func (112:FuncId)) [] [.ptr 17 0 0 0,.ptr 16 0 0 0],uu,uu,uu,uu,uu,uu,uu,uu,uu,uu,uu,uu,uu,uu,uu,uu,uu,uu,uu],[(26:Tmp),(27:Tmp)],LL,Lc⟩)]⟩) (rfK (au (xX (xS (k+89)) 36 0 (k+89) false) (ap (xS (k+89)).P Tryz.f36) ED) [.agg [.lit (.int .i64 v0_0_0),.lit (.int .i64 v0_0_1),.lit (.int .i64 v0_0_2),.lit (.int .i64 v0_0_3),.ro (List.map an v0_1),.ro (List.map (aF IntKind.u64) v0_2),.ro (List.map aK v0_3),.ro (List.map bD v0_4)],.lit (.int .i64 v1),.ptr 0 0 0 0,uu,.ptr 5 0 0 0,.own 6 0 0,.lit (.int .i64 (0:Int)),.ptr 12 0 0 0,.ptr 14 0 0 0,.ptr 15 0 0 0,uu,uu,uu,uu,.tup [.agg [.lit (.int .i64 se),.lit (.int .i64 sf),.lit (.int .i64 sg),.lit (.int .i64 sh),.ro (List.map an si),.ro (List.map (aF IntKind.u64) sj),.ro (List.map aK sk),.ro (List.map bD sl)],.own 7 0 0],.agg [.lit (.int .i64 v0_0_0),.lit (.int .i64 v0_0_1),.lit (.int .i64 v0_0_2),.lit (.int .i64 v0_0_3),.ro (List.map an v0_1),.ro (List.map (aF IntKind.u64) v0_2),.ro (List.map aK v0_3),.ro (List.map bD v0_4)],.tup [.agg [.lit (.int .i64 se),.lit (.int .i64 sf),.lit (.int .i64 sg),.lit (.int .i64 sh),.ro (List.map an si),.ro (List.map (aF IntKind.u64) sj),.ro (List.map aK sk),.ro (List.map bD sl)],.own 7 0 0],.agg [.lit (.int .i64 se),.lit (.int .i64 sf),.lit (.int .i64 sg),.lit (.int .i64 sh),.ro (List.map an si),.ro (List.map (aF IntKind.u64) sj),.ro (List.map aK sk),.ro (List.map bD sl)],.own 7 0 0,.agg [.lit (.int .i64 v0_0_0),.lit (.int .i64 v0_0_1),.lit (.int .i64 v0_0_2),.lit (.int .i64 v0_0_3),.ro (List.map an v0_1),.ro (List.map (aF IntKind.u64) v0_2),.ro (List.map aK v0_3),.ro (List.map bD v0_4)],.lit (.bool sW),.lit (.bool sA),uu,.agg [.lit (.int .i64 v0_0_0),.lit (.int .i64 v0_0_1),.lit (.int .i64 v0_0_2),.lit (.int .i64 v0_0_3),.ro (List.map an v0_1),.ro (List.map (aF IntKind.u64) v0_2),.ro (List.map aK v0_3),.ro (List.map bD v0_4)],.lit (.int .i64 v1),.fn (Fn.func (112:FuncId)) [] [.ptr 17 0 0 0,.ptr 16 0 0 0],uu,uu,uu,uu,uu,uu,uu,uu,uu,uu,uu,uu,uu,uu,uu,uu,uu,uu,uu] (18)))=ob (dm k ((v0_0_0,v0_0_1,v0_0_2,v0_0_3),v0_1,v0_2,v0_3,v0_4) v1  n s4 s5 s6 s7 s8 s9 sT sU sX sn sY) fun r=>some ((.tup [.agg [.lit (.int .i64 r.1.1.1),.lit (.int .i64 r.1.1.2.1),.lit (.int .i64 r.1.1.2.2.1),.lit (.int .i64 r.1.1.2.2.2),.ro (List.map an r.1.2.1),.ro (List.map (aF .u64) r.1.2.2.1),.ro (List.map aK r.1.2.2.2.1),.ro (List.map bD r.1.2.2.2.2)],.ro (List.map aJ r.2.1),.lit (.int .i64 r.2.2)]),[]):=by
 intro n
 induction n with
 | zero=>intros;rfl
 | succ n ih=>
  intro s4 s5 s6 s7 s8 s9 sT sU sX sn sY sW sA st se sf sg sh si sj sk sl
  rw [dm]
  simp (maxSteps:=2000000) -implicitDefEqProofs only [ajy,ae7,ahe,Lu,LU,fJ,fE,rx,Do,ajw,agy,aH (g:=74),abT,Y8,Xb,Hg,oc,↓syP,syA,syD,simprocAttr,syE,ah,ag,ae,syW,xFP,nq,yI,xQ,ea,dz,dU,lY,Eg,MG,ih]
def dY (k:Nat) (v0:Typ) (v1:Int):Option (Typ×Tye×Int):=
 ob (fb (k+26) ((v0.1.1,v0.1.2.1,v0.1.2.2.1,v0.1.2.2.2),v0.2.1,v0.2.2.1,v0.2.2.2.1,v0.2.2.2.2)) fun xL=>
 ob (eF (k+54) ((v0.1.1,v0.1.2.1,v0.1.2.2.1,v0.1.2.2.2),v0.2.1,v0.2.2.1,v0.2.2.2.1,v0.2.2.2.2)) fun xr=>
 bif !xr then
 some ((((xL.1.1.1),(xL.1.1.2.1),(xL.1.1.2.2.1),(xL.1.1.2.2.2)),(xL.1.2.1),(xL.1.2.2.1),(xL.1.2.2.2.1),(xL.1.2.2.2.2)),[],((0:Int)))
 else
 dm k v0 v1 (k+88) (xL.1.1.1) (xL.1.1.2.1) (xL.1.1.2.2.1) (xL.1.1.2.2.2) (xL.1.2.1) (xL.1.2.2.1) (xL.1.2.2.2.1) (xL.1.2.2.2.2) ((0:Int)) (0) ([])
theorem rU (k:Nat) (v0_0_0 v0_0_1 v0_0_2 v0_0_3:Int) (v0_1:Tyt) (v0_2:List Int) (v0_3:List Tyw) (v0_4:List Tys) (v1:Int):xC (k+90) none 36 [.agg [.lit (.int .i64 v0_0_0),.lit (.int .i64 v0_0_1),.lit (.int .i64 v0_0_2),.lit (.int .i64 v0_0_3),.ro (List.map an v0_1),.ro (List.map (aF .u64) v0_2),.ro (List.map aK v0_3),.ro (List.map bD v0_4)],.lit (.int .i64 v1)]=ob (dY k ((v0_0_0,v0_0_1,v0_0_2,v0_0_3),v0_1,v0_2,v0_3,v0_4) v1) fun r=>some ((.tup [.agg [.lit (.int .i64 r.1.1.1),.lit (.int .i64 r.1.1.2.1),.lit (.int .i64 r.1.1.2.2.1),.lit (.int .i64 r.1.1.2.2.2),.ro (List.map an r.1.2.1),.ro (List.map (aF .u64) r.1.2.2.1),.ro (List.map aK r.1.2.2.2.1),.ro (List.map bD r.1.2.2.2.2)],.ro (List.map aJ r.2.1),.lit (.int .i64 r.2.2)]),[]):=by
 rw [aH]
 unfold dY
 have hl0:=fun (xU:Typ×Tye)=>kY k v0_0_0 v0_0_1 v0_0_2 v0_0_3 v0_1 v0_2 v0_3 v0_4 v1 (k+88) (xU.fst.fst.fst) (xU.fst.fst.snd.fst) (xU.fst.fst.snd.snd.fst) (xU.fst.fst.snd.snd.snd) (xU.fst.snd.fst) (xU.fst.snd.snd.fst) (xU.fst.snd.snd.snd.fst) (xU.fst.snd.snd.snd.snd) ((0:Int)) (0) ([])
 try simp -implicitDefEqProofs only [List.map_nil,List.length_nil] at hl0
 simp (maxSteps:=2000000) -implicitDefEqProofs only [ajy,ae7,ahe,Lu,LU,fJ,fE,rx,Do,ajw,agy,aH (g:=74),abT,Y8,Xb,Hg,oc,↓syP,syA,syD,simprocAttr,syE,ah,ag,ae,syW,xFP,nq,yI,xQ,ea,dz,dU,kY k v0_0_0 v0_0_1 v0_0_2 v0_0_3 v0_1 v0_2 v0_3 v0_4 v1,hl0]
 all_goals simp -implicitDefEqProofs only [List.map_nil]
end Go.Ab
set_option maxRecDepth 100000
set_option linter.unusedVariables false
set_option linter.unusedSimpArgs false
namespace Go.Ab
open Go.Proofs
def gV (k:Nat) (v0:(Int×Int×Int×Int)) (v1:Tyt) (v2:(List (List Int))) (v3:(List Int)):Option (Typ×Tye×Bool):=
 ob (kd (k+41) (v0.1,v0.2.1,v0.2.2.1,v0.2.2.2) v1 v2) fun x4=>
 bif !x4.2 then
 some (((((0:Int)),((0:Int)),((0:Int)),((0:Int))),[],[],[],[]),[],(false))
 else
 ob (gp (k+39) v3) fun x5=>
 ob (fo k ((x4.1.1.1,x4.1.1.2.1,x4.1.1.2.2.1,x4.1.1.2.2.2),x4.1.2.1,x4.1.2.2.1,x4.1.2.2.2.1,x4.1.2.2.2.2) x5) fun x6=>
 some ((((x6.1.1.1),(x6.1.1.2.1),(x6.1.1.2.2.1),(x6.1.1.2.2.2)),(x6.1.2.1),(x6.1.2.2.1),(x6.1.2.2.2.1),(x6.1.2.2.2.2)),(x6.2),(true))
theorem GI (k:Nat) (v0_0 v0_1 v0_2 v0_3:Int) (v1:Tyt) (v2:List (List Int)) (v3:List Int):xC (k+64) none 34 [.agg [.lit (.int .i64 v0_0),.lit (.int .i64 v0_1),.lit (.int .i64 v0_2),.lit (.int .i64 v0_3)],.ro (List.map an v1),.ro (List.map eo v2),.ro (List.map (aF .u8) v3)]=ob (gV k (v0_0,v0_1,v0_2,v0_3) v1 v2 v3) fun r=>some ((.tup [.agg [.lit (.int .i64 r.1.1.1),.lit (.int .i64 r.1.1.2.1),.lit (.int .i64 r.1.1.2.2.1),.lit (.int .i64 r.1.1.2.2.2),.ro (List.map an r.1.2.1),.ro (List.map (aF .u64) r.1.2.2.1),.ro (List.map aK r.1.2.2.2.1),.ro (List.map bD r.1.2.2.2.2)],.ro (List.map aJ r.2.1),.lit (.bool r.2.2)]),[]):=by
 rw [aH]
 unfold gV
 simp (maxSteps:=2000000) -implicitDefEqProofs only [aj9,ajR,↓syP,syA,syD,simprocAttr,syE,ah,ag,ae,syW,xFP,nq,yI,xQ,ea,dz,Bc,Jv,Ce]
 all_goals simp -implicitDefEqProofs only [List.map_nil]
def ao (k:Nat) (v0:Tyt) (v1:Tye)  : Nat→Int→Int→Int→Int→Int→Int→Int→Option (Int×Int×Int)
 | 0,_,_,_,_,_,_,_=>none
 | n+1,sA,sC,sD,sF,sG,sE,sB=>
 bif decide (sA<(↑v1.length:Int)) then
 ob (idx v1 sA) fun xD=>
 bif decide (xD.1<(0:Int)) then
 ao k v0 v1  n (IntKind.i64.wrap (sA+(1:Int))) (sC) (sD) (sF) (sG) (sE) (sB)
 else
 bif decide ((6:Int)≤xD.1) then
 ao k v0 v1  n (IntKind.i64.wrap (sA+(1:Int))) (sC) (sD) (sF) (sG) (sE) (sB)
 else
 bif xD.1==(0:Int) then
 bif xD.1==(0:Int) then
 ao k v0 v1  n (IntKind.i64.wrap (sA+(1:Int))) (IntKind.i64.wrap (sC+(1:Int))) (sD) (sF) (sG) (sE) (sB)
 else
 bif xD.1==(1:Int) then
 ao k v0 v1  n (IntKind.i64.wrap (sA+(1:Int))) (sC) (IntKind.i64.wrap (sC+(1:Int))) (sF) (sG) (sE) (sB)
 else
 bif xD.1==(2:Int) then
 ao k v0 v1  n (IntKind.i64.wrap (sA+(1:Int))) (sC) (sD) (IntKind.i64.wrap (sC+(1:Int))) (sG) (sE) (sB)
 else
 bif xD.1==(3:Int) then
 ao k v0 v1  n (IntKind.i64.wrap (sA+(1:Int))) (sC) (sD) (sF) (IntKind.i64.wrap (sC+(1:Int))) (sE) (sB)
 else
 bif xD.1==(4:Int) then
 ao k v0 v1  n (IntKind.i64.wrap (sA+(1:Int))) (sC) (sD) (sF) (sG) (IntKind.i64.wrap (sC+(1:Int))) (sB)
 else
 bif xD.1==(5:Int) then
 ao k v0 v1  n (IntKind.i64.wrap (sA+(1:Int))) (sC) (sD) (sF) (sG) (sE) (IntKind.i64.wrap (sC+(1:Int)))
 else
 none
 else
 bif xD.1==(1:Int) then
 bif xD.1==(0:Int) then
 ao k v0 v1  n (IntKind.i64.wrap (sA+(1:Int))) (IntKind.i64.wrap (sD+(1:Int))) (sD) (sF) (sG) (sE) (sB)
 else
 bif xD.1==(1:Int) then
 ao k v0 v1  n (IntKind.i64.wrap (sA+(1:Int))) (sC) (IntKind.i64.wrap (sD+(1:Int))) (sF) (sG) (sE) (sB)
 else
 bif xD.1==(2:Int) then
 ao k v0 v1  n (IntKind.i64.wrap (sA+(1:Int))) (sC) (sD) (IntKind.i64.wrap (sD+(1:Int))) (sG) (sE) (sB)
 else
 bif xD.1==(3:Int) then
 ao k v0 v1  n (IntKind.i64.wrap (sA+(1:Int))) (sC) (sD) (sF) (IntKind.i64.wrap (sD+(1:Int))) (sE) (sB)
 else
 bif xD.1==(4:Int) then
 ao k v0 v1  n (IntKind.i64.wrap (sA+(1:Int))) (sC) (sD) (sF) (sG) (IntKind.i64.wrap (sD+(1:Int))) (sB)
 else
 bif xD.1==(5:Int) then
 ao k v0 v1  n (IntKind.i64.wrap (sA+(1:Int))) (sC) (sD) (sF) (sG) (sE) (IntKind.i64.wrap (sD+(1:Int)))
 else
 none
 else
 bif xD.1==(2:Int) then
 bif xD.1==(0:Int) then
 ao k v0 v1  n (IntKind.i64.wrap (sA+(1:Int))) (IntKind.i64.wrap (sF+(1:Int))) (sD) (sF) (sG) (sE) (sB)
 else
 bif xD.1==(1:Int) then
 ao k v0 v1  n (IntKind.i64.wrap (sA+(1:Int))) (sC) (IntKind.i64.wrap (sF+(1:Int))) (sF) (sG) (sE) (sB)
 else
 bif xD.1==(2:Int) then
 ao k v0 v1  n (IntKind.i64.wrap (sA+(1:Int))) (sC) (sD) (IntKind.i64.wrap (sF+(1:Int))) (sG) (sE) (sB)
 else
 bif xD.1==(3:Int) then
 ao k v0 v1  n (IntKind.i64.wrap (sA+(1:Int))) (sC) (sD) (sF) (IntKind.i64.wrap (sF+(1:Int))) (sE) (sB)
 else
 bif xD.1==(4:Int) then
 ao k v0 v1  n (IntKind.i64.wrap (sA+(1:Int))) (sC) (sD) (sF) (sG) (IntKind.i64.wrap (sF+(1:Int))) (sB)
 else
 bif xD.1==(5:Int) then
 ao k v0 v1  n (IntKind.i64.wrap (sA+(1:Int))) (sC) (sD) (sF) (sG) (sE) (IntKind.i64.wrap (sF+(1:Int)))
 else
 none
 else
 bif xD.1==(3:Int) then
 bif xD.1==(0:Int) then
 ao k v0 v1  n (IntKind.i64.wrap (sA+(1:Int))) (IntKind.i64.wrap (sG+(1:Int))) (sD) (sF) (sG) (sE) (sB)
 else
 bif xD.1==(1:Int) then
 ao k v0 v1  n (IntKind.i64.wrap (sA+(1:Int))) (sC) (IntKind.i64.wrap (sG+(1:Int))) (sF) (sG) (sE) (sB)
 else
 bif xD.1==(2:Int) then
 ao k v0 v1  n (IntKind.i64.wrap (sA+(1:Int))) (sC) (sD) (IntKind.i64.wrap (sG+(1:Int))) (sG) (sE) (sB)
 else
 bif xD.1==(3:Int) then
 ao k v0 v1  n (IntKind.i64.wrap (sA+(1:Int))) (sC) (sD) (sF) (IntKind.i64.wrap (sG+(1:Int))) (sE) (sB)
 else
 bif xD.1==(4:Int) then
 ao k v0 v1  n (IntKind.i64.wrap (sA+(1:Int))) (sC) (sD) (sF) (sG) (IntKind.i64.wrap (sG+(1:Int))) (sB)
 else
 bif xD.1==(5:Int) then
 ao k v0 v1  n (IntKind.i64.wrap (sA+(1:Int))) (sC) (sD) (sF) (sG) (sE) (IntKind.i64.wrap (sG+(1:Int)))
 else
 none
 else
 bif xD.1==(4:Int) then
 bif xD.1==(0:Int) then
 ao k v0 v1  n (IntKind.i64.wrap (sA+(1:Int))) (IntKind.i64.wrap (sE+(1:Int))) (sD) (sF) (sG) (sE) (sB)
 else
 bif xD.1==(1:Int) then
 ao k v0 v1  n (IntKind.i64.wrap (sA+(1:Int))) (sC) (IntKind.i64.wrap (sE+(1:Int))) (sF) (sG) (sE) (sB)
 else
 bif xD.1==(2:Int) then
 ao k v0 v1  n (IntKind.i64.wrap (sA+(1:Int))) (sC) (sD) (IntKind.i64.wrap (sE+(1:Int))) (sG) (sE) (sB)
 else
 bif xD.1==(3:Int) then
 ao k v0 v1  n (IntKind.i64.wrap (sA+(1:Int))) (sC) (sD) (sF) (IntKind.i64.wrap (sE+(1:Int))) (sE) (sB)
 else
 bif xD.1==(4:Int) then
 ao k v0 v1  n (IntKind.i64.wrap (sA+(1:Int))) (sC) (sD) (sF) (sG) (IntKind.i64.wrap (sE+(1:Int))) (sB)
 else
 bif xD.1==(5:Int) then
 ao k v0 v1  n (IntKind.i64.wrap (sA+(1:Int))) (sC) (sD) (sF) (sG) (sE) (IntKind.i64.wrap (sE+(1:Int)))
 else
 none
 else
 bif xD.1==(5:Int) then
 bif xD.1==(0:Int) then
 ao k v0 v1  n (IntKind.i64.wrap (sA+(1:Int))) (IntKind.i64.wrap (sB+(1:Int))) (sD) (sF) (sG) (sE) (sB)
 else
 bif xD.1==(1:Int) then
 ao k v0 v1  n (IntKind.i64.wrap (sA+(1:Int))) (sC) (IntKind.i64.wrap (sB+(1:Int))) (sF) (sG) (sE) (sB)
 else
 bif xD.1==(2:Int) then
 ao k v0 v1  n (IntKind.i64.wrap (sA+(1:Int))) (sC) (sD) (IntKind.i64.wrap (sB+(1:Int))) (sG) (sE) (sB)
 else
 bif xD.1==(3:Int) then
 ao k v0 v1  n (IntKind.i64.wrap (sA+(1:Int))) (sC) (sD) (sF) (IntKind.i64.wrap (sB+(1:Int))) (sE) (sB)
 else
 bif xD.1==(4:Int) then
 ao k v0 v1  n (IntKind.i64.wrap (sA+(1:Int))) (sC) (sD) (sF) (sG) (IntKind.i64.wrap (sB+(1:Int))) (sB)
 else
 bif xD.1==(5:Int) then
 ao k v0 v1  n (IntKind.i64.wrap (sA+(1:Int))) (sC) (sD) (sF) (sG) (sE) (IntKind.i64.wrap (sB+(1:Int)))
 else
 none
 else
 none
 else
 some ((sC),(sD),(sE))
theorem oV (k:Nat) (v0:Tyt) (v1:Tye):∀ (n:Nat) (sA sC sD sF sG sE sB:Int) ⦃j12:V⦄,rt none (itX (xX (xS k) 37 0 k false) ot (1) (au (xX (xS k) 37 0 k false) (ap (xS k).P Tryz.f37) Ia) n ⟨[.ro (List.map an v0),.ro (List.map aJ v1),uu,uu,.lit (.int .i64 (0:Int)),.lit (.int .i64 (0:Int)),.lit (.int .i64 (0:Int)),.ptr 0 0 0 0,uu,j12,.ro (List.map aJ v1),.lit (.int .i64 (↑v1.length:Int)),.lit (.int .i64 sA),.junk,.junk,.junk,.junk,.junk,.junk,.junk,.junk,.junk,.junk,.junk,.junk,.junk,.junk,.junk,.junk,.junk,.junk,uu,uu,uu,uu,uu,uu],[.box [.lit (.int .i64 sC),.lit (.int .i64 sD),.lit (.int .i64 sF),.lit (.int .i64 sG),.lit (.int .i64 sE),.lit (.int .i64 sB)]]⟩)=ob (ao k v0 v1  n sA sC sD sF sG sE sB) fun r=>some ((.tup [.lit (.int .i64 r.1),.lit (.int .i64 r.2.1),.lit (.int .i64 r.2.2)]),[]):=by
 intro n
 induction n with
 | zero=>intros;rfl
 | succ n ih=>
  intro sA sC sD sF sG sE sB j12
  rw [ao]
  simp (maxSteps:=2000000) -implicitDefEqProofs only [aju,af2,ahW,Lf,Mu,rk,rj,↓syP,syA,syD,simprocAttr,syE,ah,ag,ae,syW,xFP,nq,yI,xQ,ea,dz,T9,ih]
def rP (k:Nat) (v0:Tyt) (v1:Tye):Option (Int×Int×Int):=
 ao k v0 v1 (k) ((0:Int)) ((0:Int)) ((0:Int)) ((0:Int)) ((0:Int)) ((0:Int)) ((0:Int))
theorem DQ (k:Nat) (v0:Tyt) (v1:Tye):xC (k+1) none 37 [.ro (List.map an v0),.ro (List.map aJ v1)]=ob (rP k v0 v1) fun r=>some ((.tup [.lit (.int .i64 r.1),.lit (.int .i64 r.2.1),.lit (.int .i64 r.2.2)]),[]):=by
 rw [aH]
 unfold rP
 simp (maxSteps:=2000000) -implicitDefEqProofs only [aju,af2,ahW,Lf,Mu,rk,rj,↓syP,syA,syD,simprocAttr,syE,ah,ag,ae,syW,xFP,nq,yI,xQ,ea,dz,oV k v0 v1]
end Go.Ab
set_option maxRecDepth 100000
set_option linter.unusedVariables false
set_option linter.unusedSimpArgs false
namespace Go.Ab
open Go.Proofs
def dF (k:Nat) (v0:Typ)  : Nat→Int→Int→Option Int
 | 0,_,_=>none
 | n+1,s4,s6=>
 bif decide (s6<(↑v0.2.2.2.2.length:Int)) then
 ob (idx v0.2.2.2.2 s6) fun xs=>
 dF k v0  n (IntKind.i64.wrap (s4+(↑xs.2.1.length:Int))) (IntKind.i64.wrap (s6+(1:Int)))
 else
 ob (eF k ((v0.1.1,v0.1.2.1,v0.1.2.2.1,v0.1.2.2.2),v0.2.1,v0.2.2.1,v0.2.2.2.1,v0.2.2.2.2)) fun xt=>
 bif !xt then
 some ((0:Int))
 else
 some (s4)
theorem pV (k:Nat) (v0_0_0 v0_0_1 v0_0_2 v0_0_3:Int) (v0_1:Tyt) (v0_2:List Int) (v0_3:List Tyw) (v0_4:List Tys):∀ (n:Nat) (s4 s6:Int) ⦃j5:V⦄,rt none (itX (xX (xS (k+35)) 39 0 (k+35) false) IJ (1) (au (xX (xS (k+35)) 39 0 (k+35) false) (ap (xS (k+35)).P Tryz.f39) I9) n ⟨[.agg [.lit (.int .i64 v0_0_0),.lit (.int .i64 v0_0_1),.lit (.int .i64 v0_0_2),.lit (.int .i64 v0_0_3),.ro (List.map an v0_1),.ro (List.map (aF IntKind.u64) v0_2),.ro (List.map aK v0_3),.ro (List.map bD v0_4)],.ptr 0 0 0 0,.lit (.int .i64 (0:Int)),.lit (.int .i64 s4),uu,j5,.ptr 0 0 0 7,.ro (List.map bD v0_4),.lit (.int .i64 (↑v0_4.length:Int)),.lit (.int .i64 s6),.junk,.junk,.junk,.junk,.junk,.junk,.junk,.junk,.junk,uu,uu,uu,uu],[.box [.lit (.int .i64 v0_0_0),.lit (.int .i64 v0_0_1),.lit (.int .i64 v0_0_2),.lit (.int .i64 v0_0_3),.ro (List.map an v0_1),.ro (List.map (aF IntKind.u64) v0_2),.ro (List.map aK v0_3),.ro (List.map bD v0_4)]]⟩)=ob (dF k ((v0_0_0,v0_0_1,v0_0_2,v0_0_3),v0_1,v0_2,v0_3,v0_4)  n s4 s6) fun r=>some ((.lit (.int .i64 r)),[]):=by
 intro n
 induction n with
 | zero=>intros;rfl
 | succ n ih=>
  intro s4 s6 j5
  rw [dF]
  simp (maxSteps:=2000000) -implicitDefEqProofs only [ai8,agI,agN,Lh,pE,↓syP,syA,syD,simprocAttr,syE,ah,ag,ae,syW,xFP,nq,yI,xQ,dU,Ti,ih]
def kw (k:Nat) (v0:Typ):Option Int:=
 dF k v0 (k+35) ((0:Int)) ((0:Int))
theorem wo (k:Nat) (v0_0_0 v0_0_1 v0_0_2 v0_0_3:Int) (v0_1:Tyt) (v0_2:List Int) (v0_3:List Tyw) (v0_4:List Tys):xC (k+36) none 39 [.agg [.lit (.int .i64 v0_0_0),.lit (.int .i64 v0_0_1),.lit (.int .i64 v0_0_2),.lit (.int .i64 v0_0_3),.ro (List.map an v0_1),.ro (List.map (aF .u64) v0_2),.ro (List.map aK v0_3),.ro (List.map bD v0_4)]]=ob (kw k ((v0_0_0,v0_0_1,v0_0_2,v0_0_3),v0_1,v0_2,v0_3,v0_4)) fun r=>some ((.lit (.int .i64 r)),[]):=by
 rw [aH]
 unfold kw
 simp (maxSteps:=2000000) -implicitDefEqProofs only [ai8,agI,agN,Lh,pE,↓syP,syA,syD,simprocAttr,syE,ah,ag,ae,syW,xFP,nq,yI,xQ,pV k v0_0_0 v0_0_1 v0_0_2 v0_0_3 v0_1 v0_2 v0_3 v0_4]
end Go.Ab
set_option maxRecDepth 100000
set_option linter.unusedVariables false
set_option linter.unusedSimpArgs false
namespace Go.Ab
open Go.Proofs
end Go.Ab
set_option maxRecDepth 100000
set_option maxHeartbeats 4000000
set_option linter.unusedVariables false
set_option linter.unusedSimpArgs false
namespace Go.Ab
open Go.Proofs
abbrev axA:Typ:=
 ((1,1,1,0),[(1,[])],[0,0,0,0,0,0,0,0,0,0,0,0],[(0,[],(1,0,0,0,0,0,0),0,0)],[(0,[0],0,0,0,0,0,0,0)])
abbrev axE:Typ:=
 ((1,1,1,0),[(1,[])],[0,0,65537,0,1,1,2,0,0,0,0,0],[(8,[],(5,3,0,0,65536,65536,0),0,0)],[(0,[],0,0,0,0,0,0,0)])
abbrev axL:Tye:=[(0,0,0),(2,0,0),(4,0,0),(5,0,0)]
section
variable (j:Nat)
theorem akj:xC (j+91) none 34 [.agg [.lit (.int .i64 1),.lit (.int .i64 1),.lit (.int .i64 1),.lit (.int .i64 0)],.ro (List.map an [(1,[])]),.ro (List.map eo [[0]]),.nil] =
  some (.tup [.agg [.lit (.int .i64 1),.lit (.int .i64 1),.lit (.int .i64 1),.lit (.int .i64 0),.ro (List.map an [(1,[])]),.ro (List.map (aF .u64) [0,0,0,0,0,0,0,0,0,0,0,0]),.ro (List.map aK [(0,[],(1,0,0,0,0,0,0),0,0)]),.ro (List.map bD [(0,[0],0,0,0,0,0,0,0)])],.ro [],.lit (.bool true)],[]):=by kernel_rfl
theorem axD:dY (j+1) axA 500=some (axE,axL,38):=by kernel_rfl
theorem akb:xC (j+91) none 36 [.agg [.lit (.int .i64 1),.lit (.int .i64 1),.lit (.int .i64 1),.lit (.int .i64 0),.ro (List.map an [(1,[])]),.ro (List.map (aF .u64) [0,0,0,0,0,0,0,0,0,0,0,0]),.ro (List.map aK [(0,[],(1,0,0,0,0,0,0),0,0)]),.ro (List.map bD [(0,[0],0,0,0,0,0,0,0)])],.lit (.int .i64 500)]=some (.tup [.agg [.lit (.int .i64 1),.lit (.int .i64 1),.lit (.int .i64 1),.lit (.int .i64 0),.ro (List.map an [(1,[])]),.ro (List.map (aF .u64) [0,0,65537,0,1,1,2,0,0,0,0,0]),.ro (List.map aK [(8,[],(5,3,0,0,65536,65536,0),0,0)]),.ro (List.map bD [(0,[],0,0,0,0,0,0,0)])],.ro (List.map aJ [(0,0,0),(2,0,0),(4,0,0),(5,0,0)]),.lit (.int .i64 38)],[]):=by
 refine (rU (j+1) _ _ _ _ _ _ _ _ _).trans ?_
 show ob (dY (j+1) axA 500) _=_
 rw [axD,af]
theorem akn:xC (j+91) none 37 [.ro (List.map an [(1,[])]),.ro (List.map aJ [(0,0,0),(2,0,0),(4,0,0),(5,0,0)])]=some (.tup [.lit (.int .i64 1),.lit (.int .i64 0),.lit (.int .i64 1)],[]):=(DQ (j+90) [(1,[])] axL).trans (by kernel_rfl)
theorem akG:xC (j+91) none 39 [.agg [.lit (.int .i64 1),.lit (.int .i64 1),.lit (.int .i64 1),.lit (.int .i64 0),.ro (List.map an [(1,[])]),.ro (List.map (aF .u64) [0,0,0,0,0,0,0,0,0,0,0,0]),.ro (List.map aK [(0,[],(1,0,0,0,0,0,0),0,0)]),.ro (List.map bD [(0,[0],0,0,0,0,0,0,0)])]]=some (.lit (.int .i64 1),[]):=(wo (j+55) _ _ _ _ _ _ _ _).trans (by kernel_rfl)
theorem ako:xC (j+91) none 29 [.agg [.lit (.int .i64 1),.lit (.int .i64 1),.lit (.int .i64 1),.lit (.int .i64 0),.ro (List.map an [(1,[])]),.ro (List.map (aF .u64) [0,0,65537,0,1,1,2,0,0,0,0,0]),.ro (List.map aK [(8,[],(5,3,0,0,65536,65536,0),0,0)]),.ro (List.map bD [(0,[],0,0,0,0,0,0,0)])]]=some (.lit (.bool true),[]):=(lY (j+54) _ _ _ _ _ _ _ _).trans (by kernel_rfl)
theorem akD:xC (j+91) none 35 [.agg [.lit (.int .i64 1),.lit (.int .i64 1),.lit (.int .i64 1),.lit (.int .i64 0),.ro (List.map an [(1,[])]),.ro (List.map (aF .u64) [0,0,0,0,0,0,0,0,0,0,0,0]),.ro (List.map aK [(0,[],(1,0,0,0,0,0,0),0,0)]),.ro (List.map bD [(0,[0],0,0,0,0,0,0,0)])],.nil]=some (.lit (.bool true),[]):=by kernel_rfl
end
theorem abv (j:Nat):xC (j+92) none 33 []=some (.lit (.bool true),[]):=by
 rw [aH]
 simp (maxSteps:=2000000) -implicitDefEqProofs only [aj6,ai2,Ug,Uv,Uu,SU,T0,Ux,Uh,S1,TN,TT,NM,AR,↓syP,syA,syD,simprocAttr,syE,ah,ag,ae,syW,xQ,xFP,List.length_cons,List.length_nil,akj,akb,akn,akG,ako,akD,decide_true,decide_false,cond_true,cond_false]
 rfl
end Go.Ab
