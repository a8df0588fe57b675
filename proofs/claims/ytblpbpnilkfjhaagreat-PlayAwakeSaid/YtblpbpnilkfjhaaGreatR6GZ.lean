import Derived.Test.YtblpbpnilkfjhaaGreatR6GY
import Derived.Test.YtblpbpnilkfjhaaGreatR6BU
import Derived.Test.YtblpbpnilkfjhaaGreatAbLibC
import Derived.Test.YtblpbpnilkfjhaaGreatR6FacP
set_option linter.unusedVariables false
set_option linter.unusedSimpArgs false
set_option maxRecDepth 100000
set_option linter.unusedVariables false
set_option linter.unusedSimpArgs false
namespace Go.Ab
open Go.Proofs
def cj (k:Nat) (v0:(List Int))  : Nat→Int→Nat→Tye→Option Tye
 | 0,_,_,_=>none
 | n+1,s5,s7,s8=>
 bif decide (s5<(↑v0.length:Int)) then
 bif decide ((0:Int)≤s5∧s5≤(↑v0.length:Int)) then
 bif decide ((0:Int)≤s5∧s5≤IntKind.i64.wrap (s5+bif decide ((↑(List.drop s5.toNat v0).length:Int)<(3:Int)) then (↑(List.drop s5.toNat v0).length:Int) else (3:Int))∧IntKind.i64.wrap (s5+bif decide ((↑(List.drop s5.toNat v0).length:Int)<(3:Int)) then (↑(List.drop s5.toNat v0).length:Int) else (3:Int))≤IntKind.i64.wrap (s5+bif decide ((↑(List.drop s5.toNat v0).length:Int)<(3:Int)) then (↑(List.drop s5.toNat v0).length:Int) else (3:Int))∧IntKind.i64.wrap (s5+bif decide ((↑(List.drop s5.toNat v0).length:Int)<(3:Int)) then (↑(List.drop s5.toNat v0).length:Int) else (3:Int))≤(↑v0.length:Int)) then
 bif (↑(List.drop s5.toNat (List.take (IntKind.i64.wrap (s5+bif decide ((↑(List.drop s5.toNat v0).length:Int)<(3:Int)) then (↑(List.drop s5.toNat v0).length:Int) else (3:Int))).toNat v0)).length:Int)==(3:Int) then
 ob (idx (List.drop s5.toNat (List.take (IntKind.i64.wrap (s5+bif decide ((↑(List.drop s5.toNat v0).length:Int)<(3:Int)) then (↑(List.drop s5.toNat v0).length:Int) else (3:Int))).toNat v0)) (0:Int)) fun xd=>
 ob (idx (List.drop s5.toNat (List.take (IntKind.i64.wrap (s5+bif decide ((↑(List.drop s5.toNat v0).length:Int)<(3:Int)) then (↑(List.drop s5.toNat v0).length:Int) else (3:Int))).toNat v0)) (1:Int)) fun xe=>
 ob (idx (List.drop s5.toNat (List.take (IntKind.i64.wrap (s5+bif decide ((↑(List.drop s5.toNat v0).length:Int)<(3:Int)) then (↑(List.drop s5.toNat v0).length:Int) else (3:Int))).toNat v0)) (2:Int)) fun xf=>
 ck (s7==3||s7==0) (
 bif room (s8++[(IntKind.i64.wrap (xd.tmod (4:Int)),IntKind.i64.wrap xe,IntKind.u64.wrap xf)]).length 24 then
 cj k v0  n (IntKind.i64.wrap (s5+(3:Int))) (3) (s8++[(IntKind.i64.wrap (xd.tmod (4:Int)),IntKind.i64.wrap xe,IntKind.u64.wrap xf)])
 else
 none)
 else
 cj k v0  n (IntKind.i64.wrap (s5+(3:Int))) (s7) (s8)
 else
 none
 else
 none
 else
 some (s8)
theorem kD (k:Nat) (v0:List Int):∀ (n:Nat) (s5:Int) (s7:Nat) (s8:Tye) ⦃s9:Nat⦄ ⦃j6:V⦄,rt none (bq (itX (xX (xS (k+22)) 152 0 (k+22) false) Dy (6) (aw (xX (xS (k+22)) 152 0 (k+22) false) (av (xS (k+22)).P Tryz.f152) C7) n ⟨[.yld 5,.ptr 3 0 0 0,.ptr 4 0 0 0,uu,.lit (.int .i64 s5),j6,.junk,.junk,.junk,.junk,.junk,.junk,.junk,.junk,.junk,.junk,.junk,.junk,.junk,.junk,.junk,.junk,.junk,.junk,.junk,.junk,.junk,.junk,.junk,.junk,.junk],[.rows 0 [] 0 true,.rows s7 (List.map fi s8) s9 true,.box [.own 1 s9 s8.length],.box [.ro (List.map (aG IntKind.u8) v0)],.box [.lit (.int .i64 (3:Int))],(.loop ⟨LoopState.ready,none,73,[.ro (List.map (aG IntKind.u8) v0),uu,.own 0 0 0,.ptr 2 0 0 0,uu,.ro (List.map (aG IntKind.u8) v0),.fn (Fn.func (152:FuncId)) [] [.ptr 3 0 0 0,.ptr 4 0 0 0],uu,uu,uu,uu,uu,uu,uu,uu,uu,uu,uu,uu,uu,uu,uu,uu,uu,uu,uu,uu,uu,uu],[(7:Tmp)],Nk,MW⟩)]⟩) (rfK (aw (xX (xS (k+23)) 73 0 (k+23) false) (av (xS (k+23)).P Tryz.f73) Ir) [.ro (List.map (aG IntKind.u8) v0),uu,.own 0 0 0,.ptr 2 0 0 0,uu,.ro (List.map (aG IntKind.u8) v0),.fn (Fn.func (152:FuncId)) [] [.ptr 3 0 0 0,.ptr 4 0 0 0],uu,uu,uu,uu,uu,uu,uu,uu,uu,uu,uu,uu,uu,uu,uu,uu,uu,uu,uu,uu,uu,uu] (5)))=ob (cj k v0  n s5 s7 s8) fun r=>some ((.ro (List.map fi r)),[]):=by
 intro n
 induction n with
 | zero=>intros;rfl
 | succ n ih=>
  intro s5 s7 s8 s9 j6
  rw [cj]
  simp -implicitDefEqProofs only [ahB,aeL,afH,Om,iA,iy,r5,FP,abn,X1,Gj,oi,aH (g:=111),Zq,V3,UI,HM,ow,↓syP,syA,syD,simprocAttr,syE,ah,ag,ae,syW,xFP,nM,xQ,Nm,ih]
def gA (k:Nat) (v0:(List Int)):Option Tye:=
 cj k v0 (k+22) ((0:Int)) (0) ([])
theorem DN (k:Nat) (v0:List Int):xC (k+24) none 73 [.ro (List.map (aG .u8) v0)]=ob (gA k v0) fun r=>some ((.ro (List.map fi r)),[]):=by
 rw [aH]
 unfold gA
 have hl0:=kD k v0 (k+22) ((0:Int)) (0) ([])
 try simp -implicitDefEqProofs only [List.map_nil,List.length_nil] at hl0
 simp -implicitDefEqProofs only [ahB,aeL,afH,Om,iA,iy,r5,FP,abn,X1,Gj,oi,aH (g:=111),Zq,V3,UI,HM,ow,↓syP,syA,syD,simprocAttr,syE,ah,ag,ae,syW,xFP,nM,xQ,kD k v0,hl0]
end Go.Ab
set_option maxRecDepth 100000
set_option linter.unusedVariables false
set_option linter.unusedSimpArgs false
namespace Go.Ab
open Go.Proofs
def cC (k:Nat) (v0:Typ) (v1:Tye)  : Nat→Int→Int→Int→Int→Tyt→List Tyw→List Tys→List Tyw→List Tys→Tye→Int→List Int→Nat→Option (Typ×Tye×Nat)
 | 0,_,_,_,_,_,_,_,_,_,_,_,_,_=>none
 | n+1,sN,sO,sP,sQ,sR,sS,sM,sW,sT,sH,sK,sL,sI=>
 bif decide (sK<(↑v1.length:Int)) then
 ob (idx v1 sK) fun xE=>
 ob (gQ (xE.1,xE.2.1,xE.2.2) v0.1.1 (↑v0.2.2.2.2.length:Int)) fun xh=>
 bif xh then
 bif xE.1==(0:Int) then
 bif decide ((0:Int)≤xE.2.1∧xE.2.1.toNat<sS.length) then
 ob (sW[xE.2.1.toNat]?) fun xN=>
 ob (gW k (sN,sO,sP,sQ) sR sL xE.2.1 (xN.1,xN.2.1,(xN.2.2.1.1,xN.2.2.1.2.1,xN.2.2.1.2.2.1,xN.2.2.1.2.2.2.1,xN.2.2.1.2.2.2.2.1,xN.2.2.1.2.2.2.2.2.1,xN.2.2.1.2.2.2.2.2.2),xN.2.2.2.1,xN.2.2.2.2) xE.2.2) fun xI=>
 bif decide ((0:Int)≤xE.2.1∧xE.2.1.toNat<sS.length) then
 ob (sW[xE.2.1.toNat]?) fun x153=>
 ck (sI==3||sI==0) (
 bif room (sH++xI.2.2).length 24 then
 cC k v0 v1  n (sN) (sO) (sP) (sQ) (sR) (sS) (sM) (sW.set xE.2.1.toNat (xI.2.1.1,xI.2.1.2.1,(xI.2.1.2.2.1.1,xI.2.1.2.2.1.2.1,xI.2.1.2.2.1.2.2.1,xI.2.1.2.2.1.2.2.2.1,xI.2.1.2.2.1.2.2.2.2.1,xI.2.1.2.2.1.2.2.2.2.2.1,xI.2.1.2.2.1.2.2.2.2.2.2),xI.2.1.2.2.2.1,xI.2.1.2.2.2.2)) (sT) (sH++xI.2.2) (IntKind.i64.wrap (sK+(1:Int))) (xI.1) (3)
 else
 none)
 else
 none
 else
 none
 else
 bif xE.1==(1:Int) then
 bif decide ((0:Int)≤xE.2.1∧xE.2.1.toNat<sM.length) then
 ob (sT[xE.2.1.toNat]?) fun xO=>
 ob (eT (k+36) (sN,sO,sP,sQ) sR sL (xO.1,xO.2.1,xO.2.2.1,xO.2.2.2.1,xO.2.2.2.2.1,xO.2.2.2.2.2.1,xO.2.2.2.2.2.2.1,xO.2.2.2.2.2.2.2.1,xO.2.2.2.2.2.2.2.2)) fun xi=>
 bif xi then
 bif decide ((0:Int)≤xE.2.1∧xE.2.1.toNat<sM.length) then
 ob (sT[xE.2.1.toNat]?) fun xP=>
 ob (fA (k+20) (sN,sO,sP,sQ) sR sL xE.2.1 (xP.1,xP.2.1,xP.2.2.1,xP.2.2.2.1,xP.2.2.2.2.1,xP.2.2.2.2.2.1,xP.2.2.2.2.2.2.1,xP.2.2.2.2.2.2.2.1,xP.2.2.2.2.2.2.2.2)) fun xJ=>
 bif decide ((0:Int)≤xE.2.1∧xE.2.1.toNat<sM.length) then
 ob (sT[xE.2.1.toNat]?) fun x158=>
 ck (sI==3||sI==0) (
 bif room (sH++xJ.2.2).length 24 then
 cC k v0 v1  n (sN) (sO) (sP) (sQ) (sR) (sS) (sM) (sW) (sT.set xE.2.1.toNat (xJ.2.1.1,xJ.2.1.2.1,xJ.2.1.2.2.1,xJ.2.1.2.2.2.1,xJ.2.1.2.2.2.2.1,xJ.2.1.2.2.2.2.2.1,xJ.2.1.2.2.2.2.2.2.1,xJ.2.1.2.2.2.2.2.2.2.1,xJ.2.1.2.2.2.2.2.2.2.2)) (sH++xJ.2.2) (IntKind.i64.wrap (sK+(1:Int))) (xJ.1) (3)
 else
 none)
 else
 none
 else
 none
 else
 ck (sI==3||sI==0) (
 bif room sH.length 24 then
 cC k v0 v1  n (sN) (sO) (sP) (sQ) (sR) (sS) (sM) (sW) (sT) (sH) (IntKind.i64.wrap (sK+(1:Int))) (sL) (3)
 else
 none)
 else
 none
 else
 bif xE.1==(2:Int) then
 ob (bo sL (3:Int) (1:Int)) fun xj=>
 ck (sI==3||sI==0) (
 bif room sH.length 24 then
 cC k v0 v1  n (sN) (sO) (sP) (sQ) (sR) (sS) (sM) (sW) (sT) (sH) (IntKind.i64.wrap (sK+(1:Int))) (xj) (3)
 else
 none)
 else
 ck (sI==3||sI==0) (
 bif room sH.length 24 then
 cC k v0 v1  n (sN) (sO) (sP) (sQ) (sR) (sS) (sM) (sW) (sT) (sH) (IntKind.i64.wrap (sK+(1:Int))) (sL) (3)
 else
 none)
 else
 cC k v0 v1  n (sN) (sO) (sP) (sQ) (sR) (sS) (sM) (sW) (sT) (sH) (IntKind.i64.wrap (sK+(1:Int))) (sL) (sI)
 else
 ck (decide (sS.length≤sW.length)) (
 ck (decide (sM.length≤sT.length)) (
 some ((((sN),(sO),(sP),(sQ)),(sR),(sL),(List.take sS.length sW),(List.take sM.length sT)),(sH),sI)))
theorem lP (k:Nat) (v0_0_0 v0_0_1 v0_0_2 v0_0_3:Int) (v0_1:Tyt) (v0_2:List Int) (v0_3:List Tyw) (v0_4:List Tys) (v1:Tye):∀ (n:Nat) (sN sO sP sQ:Int) (sR:Tyt) (sS:List Tyw) (sM:List Tys) (sW:List Tyw) (sT:List Tys) (sH:Tye) (sK:Int) (sL:List Int) (sI:Nat) ⦃sw:List Int⦄ ⦃sx sy:Bool⦄ ⦃sq:Nat⦄ ⦃j117:V⦄,rt (some fun i=>i==1) (itX (xX (xS (k+62)) 17 0 (k+62) false) Ax (15) (aw (xX (xS (k+62)) 17 0 (k+62) false) (av (xS (k+62)).P Tryz.f17) B8) n ⟨[.agg [.lit (.int .i64 v0_0_0),.lit (.int .i64 v0_0_1),.lit (.int .i64 v0_0_2),.lit (.int .i64 v0_0_3),.ro (List.map ao v0_1),.ro (List.map (aG IntKind.u64) v0_2),.ro (List.map aM v0_3),.ro (List.map bD v0_4)],.ro (List.map fi v1),.ptr 0 0 0 0,uu,.ptr 5 0 0 0,.own 6 0 0,.ptr 13 0 0 0,.own 14 sq sH.length,uu,j117,.agg [.lit (.int .i64 v0_0_0),.lit (.int .i64 v0_0_1),.lit (.int .i64 v0_0_2),.lit (.int .i64 v0_0_3),.ro (List.map ao v0_1),.ro (List.map (aG IntKind.u64) v0_2),.ro (List.map aM v0_3),.ro (List.map bD v0_4)],.agg [.lit (.int .i64 sN),.lit (.int .i64 sO),.lit (.int .i64 sP),.lit (.int .i64 sQ),.ro (List.map ao sR),.ro (List.map (aG IntKind.u64) sw),.own 7 0 sS.length,.own 8 0 sM.length],.agg [.lit (.int .i64 v0_0_0),.lit (.int .i64 v0_0_1),.lit (.int .i64 v0_0_2),.lit (.int .i64 v0_0_3),.ro (List.map ao v0_1),.ro (List.map (aG IntKind.u64) v0_2),.ro (List.map aM v0_3),.ro (List.map bD v0_4)],.lit (.bool sx),.lit (.bool sy),uu,.ro (List.map fi v1),.lit (.int .i64 (↑v1.length:Int)),.lit (.int .i64 sK),.junk,.junk,.junk,.junk,.junk,.junk,.junk,.junk,.junk,.junk,.junk,.junk,.junk,.junk,.junk,.junk,uu,uu],[.box [.lit (.int .i64 v0_0_0),.lit (.int .i64 v0_0_1),.lit (.int .i64 v0_0_2),.lit (.int .i64 v0_0_3),.ro (List.map ao v0_1),.ro (List.map (aG IntKind.u64) v0_2),.ro (List.map aM v0_3),.ro (List.map bD v0_4)],.rows 0 [] 0 true,.rows 0 [] 0 true,.rows 0 [] 0 true,.rows 0 [] 0 true,.box [.lit (.int .i64 (0:Int)),.lit (.int .i64 (0:Int)),.lit (.int .i64 (0:Int)),.lit (.int .i64 (0:Int)),.own 1 0 0,.own 2 0 0,.own 3 0 0,.own 4 0 0],.rows 0 [] 0 true,.rows 11 (List.map aM sW) 0 true,.rows 9 (List.map bD sT) 0 true,.rows 0 [] 0 true,.rows 0 [] 0 true,.rows 0 [] 0 true,.rows 0 [] 0 true,.box [.lit (.int .i64 sN),.lit (.int .i64 sO),.lit (.int .i64 sP),.lit (.int .i64 sQ),.ro (List.map ao sR),.ro (List.map (aG IntKind.u64) sL),.own 7 0 sS.length,.own 8 0 sM.length],.rows sI (List.map aX sH) sq true]⟩)=ob (cC k ((v0_0_0,v0_0_1,v0_0_2,v0_0_3),v0_1,v0_2,v0_3,v0_4) v1  n sN sO sP sQ sR sS sM sW sT sH sK sL sI) fun r=>some ((.tup [.agg [.lit (.int .i64 r.1.1.1),.lit (.int .i64 r.1.1.2.1),.lit (.int .i64 r.1.1.2.2.1),.lit (.int .i64 r.1.1.2.2.2),.ro (List.map ao r.1.2.1),.ro (List.map (aG .u64) r.1.2.2.1),.ro (List.map aM r.1.2.2.2.1),.ro (List.map bD r.1.2.2.2.2)],.own 0 0 r.2.1.length]),[.rows r.2.2 (List.map aX r.2.1) 0 true]):=by
 intro n
 induction n with
 | zero=>intros;rfl
 | succ n ih=>
  intro sN sO sP sQ sR sS sM sW sT sH sK sL sI sw sx sy sq j117
  rw [cC]
  simp -implicitDefEqProofs only [S3,Rp,PS,pm,fC,TR,Ph,PF,pN,pp,fh,fw,aH (g:=41),S4,RO,pi,fe,Tn,RR,Tk,Pz,T3,QB,↓syP,syA,syD,simprocAttr,syE,ah,ag,ae,syW,uU,uL,pM,xQ,dZ,mV,o7,AY,db,cy,wy,cw,H5,ih]
  all_goals try simp -implicitDefEqProofs only [List.map_nil,List.length_nil]
def oH (k:Nat) (v0:Typ) (v1:Tye):Option (Typ×Tye×Nat):=
 ob (dz (k+59) v0.2.1) fun xk=>
 ob (aO 8 v0.2.2.1) fun xl=>
 ob (aO 104 v0.2.2.2.1) fun xZ=>
 ob (aO 88 v0.2.2.2.2) fun xm=>
 ob (bO k (k+61) v0.1.1 v0.1.2.1 v0.1.2.2.1 v0.1.2.2.2 xk xl xZ xm (↑xZ.length:Int) 0 xZ) fun xB=>
 ck (decide (xB.2.2.2.2.2.2.1.length≤xB.2.2.2.2.2.2.2.2.1.length)) (
 ck (decide (xB.2.2.2.2.2.2.2.1.length≤xB.2.2.2.2.2.2.2.2.2.length)) (
 ob (du (k+27) v0) fun xn=>
 bif !xn then
 ck (decide (xB.2.2.2.2.2.2.1.length≤(List.take xB.2.2.2.2.2.2.1.length xB.2.2.2.2.2.2.2.2.1).length)) (
 ck (decide (xB.2.2.2.2.2.2.2.1.length≤(List.take xB.2.2.2.2.2.2.2.1.length xB.2.2.2.2.2.2.2.2.2).length)) (
 some (((xB.1,xB.2.1,xB.2.2.1,xB.2.2.2.1),xB.2.2.2.2.1,xB.2.2.2.2.2.1,(List.take xB.2.2.2.2.2.2.1.length (List.take xB.2.2.2.2.2.2.1.length xB.2.2.2.2.2.2.2.2.1)),(List.take xB.2.2.2.2.2.2.2.1.length (List.take xB.2.2.2.2.2.2.2.1.length xB.2.2.2.2.2.2.2.2.2))),[],0)))
 else
 cC k v0 v1 (k+62) xB.1 xB.2.1 xB.2.2.1 xB.2.2.2.1 xB.2.2.2.2.1 xB.2.2.2.2.2.2.1 xB.2.2.2.2.2.2.2.1 (List.take xB.2.2.2.2.2.2.1.length xB.2.2.2.2.2.2.2.2.1) (List.take xB.2.2.2.2.2.2.2.1.length xB.2.2.2.2.2.2.2.2.2) ([]) 0 xB.2.2.2.2.2.1 0))
theorem ef (k:Nat) (v0_0_0 v0_0_1 v0_0_2 v0_0_3:Int) (v0_1:Tyt) (v0_2:List Int) (v0_3:List Tyw) (v0_4:List Tys) (v1:Tye):xC (k+63) (some fun i=>i==1) 17 [.agg [.lit (.int .i64 v0_0_0),.lit (.int .i64 v0_0_1),.lit (.int .i64 v0_0_2),.lit (.int .i64 v0_0_3),.ro (List.map ao v0_1),.ro (List.map (aG .u64) v0_2),.ro (List.map aM v0_3),.ro (List.map bD v0_4)],.ro (List.map fi v1)]=ob (oH k ((v0_0_0,v0_0_1,v0_0_2,v0_0_3),v0_1,v0_2,v0_3,v0_4) v1) fun r=>some ((.tup [.agg [.lit (.int .i64 r.1.1.1),.lit (.int .i64 r.1.1.2.1),.lit (.int .i64 r.1.1.2.2.1),.lit (.int .i64 r.1.1.2.2.2),.ro (List.map ao r.1.2.1),.ro (List.map (aG .u64) r.1.2.2.1),.ro (List.map aM r.1.2.2.2.1),.ro (List.map bD r.1.2.2.2.2)],.own 0 0 r.2.1.length]),[.rows r.2.2 (List.map aX r.2.1) 0 true]):=by
 rw [aH]
 unfold oH
 have hl0:=fun (xK:Int×Int×Int×Int×Tyt×List Int×List Tyw×List Tys×List Tyw×List Tys)=>lP k v0_0_0 v0_0_1 v0_0_2 v0_0_3 v0_1 v0_2 v0_3 v0_4 v1 (k+62) (xK.fst) (xK.snd.fst) (xK.snd.snd.fst) (xK.snd.snd.snd.fst) (xK.snd.snd.snd.snd.fst) (xK.snd.snd.snd.snd.snd.snd.fst) (xK.snd.snd.snd.snd.snd.snd.snd.fst) (List.take xK.snd.snd.snd.snd.snd.snd.fst.length xK.snd.snd.snd.snd.snd.snd.snd.snd.fst) (List.take xK.snd.snd.snd.snd.snd.snd.snd.fst.length xK.snd.snd.snd.snd.snd.snd.snd.snd.snd) ([]) ((0:Int)) (xK.snd.snd.snd.snd.snd.fst) (0)
 try simp -implicitDefEqProofs only [List.map_nil,List.length_nil] at hl0
 simp -implicitDefEqProofs only [S3,Rp,PS,pm,fC,TR,Ph,PF,pN,pp,fh,fw,aH (g:=41),S4,RO,pi,fe,Tn,RR,Tk,Pz,T3,QB,↓syP,syA,syD,simprocAttr,syE,ah,ag,ae,syW,uU,uL,pM,xQ,db,cy,cw,lP k v0_0_0 v0_0_1 v0_0_2 v0_0_3 v0_1 v0_2 v0_3 v0_4 v1,hl0]
 all_goals try simp -implicitDefEqProofs only [List.map_nil,List.length_nil]
end Go.Ab
set_option maxRecDepth 100000
set_option linter.unusedVariables false
set_option linter.unusedSimpArgs false
namespace Go.Ab
open Go.Proofs
def gr (k:Nat) (v0:Typ)  : Nat→Int→Int→Int→Int→Tyt→List Int→List Tyw→List Tys→List Tyw→List Tys→Option (Typ×Tye)
 | 0,_,_,_,_,_,_,_,_,_,_=>none
 | n+1,s8,s9,sU,sV,sJ,sA,sC,sD,sE,sB=>
 ck (decide (sC.length≤sE.length)) (
 ck (decide (sD.length≤sB.length)) (
 some ((((s8),(s9),(sU),(sV)),(sJ),(sA),(List.take sC.length sE),(List.take sD.length sB)),[])))
def kK (k:Nat) (v0:Typ):Option (Typ×Tye):=
 ob (dz (k+59) v0.2.1) fun xo=>
 ob (aO 8 v0.2.2.1) fun xp=>
 ob (aO 104 v0.2.2.2.1) fun xa=>
 ob (aO 88 v0.2.2.2.2) fun xq=>
 ob (bO k (k+61) v0.1.1 v0.1.2.1 v0.1.2.2.1 v0.1.2.2.2 xo xp xa xq (↑xa.length:Int) (0:Int) xa) fun xH=>
 ck (decide (xH.2.2.2.2.2.2.1.length≤xH.2.2.2.2.2.2.2.2.1.length)) (
 ck (decide (xH.2.2.2.2.2.2.2.1.length≤xH.2.2.2.2.2.2.2.2.2.length)) (
 ob (du (k+27) ((v0.1.1,v0.1.2.1,v0.1.2.2.1,v0.1.2.2.2),v0.2.1,v0.2.2.1,v0.2.2.2.1,v0.2.2.2.2)) fun xr=>
 bif !xr then
 ck (decide (xH.2.2.2.2.2.2.1.length≤(List.take xH.2.2.2.2.2.2.1.length xH.2.2.2.2.2.2.2.2.1).length)) (
 ck (decide (xH.2.2.2.2.2.2.2.1.length≤(List.take xH.2.2.2.2.2.2.2.1.length xH.2.2.2.2.2.2.2.2.2).length)) (
 some ((((xH.1),(xH.2.1),(xH.2.2.1),(xH.2.2.2.1)),(xH.2.2.2.2.1),(xH.2.2.2.2.2.1),(List.take xH.2.2.2.2.2.2.1.length (List.take xH.2.2.2.2.2.2.1.length xH.2.2.2.2.2.2.2.2.1)),(List.take xH.2.2.2.2.2.2.2.1.length (List.take xH.2.2.2.2.2.2.2.1.length xH.2.2.2.2.2.2.2.2.2))),[])))
 else
 gr k v0 (k+62) (xH.1) (xH.2.1) (xH.2.2.1) (xH.2.2.2.1) (xH.2.2.2.2.1) (xH.2.2.2.2.2.1) (xH.2.2.2.2.2.2.1) (xH.2.2.2.2.2.2.2.1) (List.take xH.2.2.2.2.2.2.1.length xH.2.2.2.2.2.2.2.2.1) (List.take xH.2.2.2.2.2.2.2.1.length xH.2.2.2.2.2.2.2.2.2)))
theorem pX (k:Nat) (v0_0_0 v0_0_1 v0_0_2 v0_0_3:Int) (v0_1:Tyt) (v0_2:List Int) (v0_3:List Tyw) (v0_4:List Tys):∀ (n:Nat) (s8 s9 sU sV:Int) (sJ:Tyt) (sA:List Int) (sC:List Tyw) (sD:List Tys) (sE:List Tyw) (sB:List Tys) ⦃sF sG:Bool⦄,rt (some fun i=>i==1) (itX (xX (xS (k+62)) 17 0 (k+62) false) Ax (15) (aw (xX (xS (k+62)) 17 0 (k+62) false) (av (xS (k+62)).P Tryz.f17) B8) n ⟨[.agg [.lit (.int .i64 v0_0_0),.lit (.int .i64 v0_0_1),.lit (.int .i64 v0_0_2),.lit (.int .i64 v0_0_3),.ro (List.map ao v0_1),.ro (List.map (aG IntKind.u64) v0_2),.ro (List.map aM v0_3),.ro (List.map bD v0_4)],.nil,.ptr 0 0 0 0,uu,.ptr 5 0 0 0,.own 6 0 0,.ptr 13 0 0 0,.own 14 0 0,uu,uu,.agg [.lit (.int .i64 v0_0_0),.lit (.int .i64 v0_0_1),.lit (.int .i64 v0_0_2),.lit (.int .i64 v0_0_3),.ro (List.map ao v0_1),.ro (List.map (aG IntKind.u64) v0_2),.ro (List.map aM v0_3),.ro (List.map bD v0_4)],.agg [.lit (.int .i64 s8),.lit (.int .i64 s9),.lit (.int .i64 sU),.lit (.int .i64 sV),.ro (List.map ao sJ),.ro (List.map (aG IntKind.u64) sA),.own 7 0 sC.length,.own 8 0 sD.length],.agg [.lit (.int .i64 v0_0_0),.lit (.int .i64 v0_0_1),.lit (.int .i64 v0_0_2),.lit (.int .i64 v0_0_3),.ro (List.map ao v0_1),.ro (List.map (aG IntKind.u64) v0_2),.ro (List.map aM v0_3),.ro (List.map bD v0_4)],.lit (.bool sF),.lit (.bool sG),uu,.nil,.lit (.int .i64 (0:Int)),.lit (.int .i64 (0:Int)),.junk,.junk,.junk,.junk,.junk,.junk,.junk,.junk,.junk,.junk,.junk,.junk,.junk,.junk,.junk,.junk,uu,uu],[.box [.lit (.int .i64 v0_0_0),.lit (.int .i64 v0_0_1),.lit (.int .i64 v0_0_2),.lit (.int .i64 v0_0_3),.ro (List.map ao v0_1),.ro (List.map (aG IntKind.u64) v0_2),.ro (List.map aM v0_3),.ro (List.map bD v0_4)],.rows 0 [] 0 true,.rows 0 [] 0 true,.rows 0 [] 0 true,.rows 0 [] 0 true,.box [.lit (.int .i64 (0:Int)),.lit (.int .i64 (0:Int)),.lit (.int .i64 (0:Int)),.lit (.int .i64 (0:Int)),.own 1 0 0,.own 2 0 0,.own 3 0 0,.own 4 0 0],.rows 0 [] 0 true,.rows 11 (List.map aM sE) 0 true,.rows 9 (List.map bD sB) 0 true,.rows 0 [] 0 true,.rows 0 [] 0 true,.rows 0 [] 0 true,.rows 0 [] 0 true,.box [.lit (.int .i64 s8),.lit (.int .i64 s9),.lit (.int .i64 sU),.lit (.int .i64 sV),.ro (List.map ao sJ),.ro (List.map (aG IntKind.u64) sA),.own 7 0 sC.length,.own 8 0 sD.length],.rows 0 [] 0 true]⟩)=ob (gr k ((v0_0_0,v0_0_1,v0_0_2,v0_0_3),v0_1,v0_2,v0_3,v0_4)  n s8 s9 sU sV sJ sA sC sD sE sB) fun r=>some ((.tup [.agg [.lit (.int .i64 r.1.1.1),.lit (.int .i64 r.1.1.2.1),.lit (.int .i64 r.1.1.2.2.1),.lit (.int .i64 r.1.1.2.2.2),.ro (List.map ao r.1.2.1),.ro (List.map (aG .u64) r.1.2.2.1),.ro (List.map aM r.1.2.2.2.1),.ro (List.map bD r.1.2.2.2.2)],.own 0 0 0]),[.rows 0 [] 0 true]):=by
 intro n
 induction n with
 | zero=>intros;rfl
 | succ n ih=>
  intro s8 s9 sU sV sJ sA sC sD sE sB sF sG
  rw [gr]
  simp -implicitDefEqProofs only [S3,Rp,PS,pm,fC,TR,Ph,PF,pN,pp,fh,fw,aH (g:=41),S4,RO,pi,fe,Tn,RR,Tk,Pz,T3,QB,↓syP,syA,syD,simprocAttr,syE,ah,ag,ae,syW,uU,uL,pM,xFP,nM,yI,xQ,db,cy,cw,H5,ih]
theorem dB (k:Nat) (v0_0_0 v0_0_1 v0_0_2 v0_0_3:Int) (v0_1:Tyt) (v0_2:List Int) (v0_3:List Tyw) (v0_4:List Tys):xC (k+63) (some fun i=>i==1) 17 [.agg [.lit (.int .i64 v0_0_0),.lit (.int .i64 v0_0_1),.lit (.int .i64 v0_0_2),.lit (.int .i64 v0_0_3),.ro (List.map ao v0_1),.ro (List.map (aG .u64) v0_2),.ro (List.map aM v0_3),.ro (List.map bD v0_4)],.nil]=ob (kK k ((v0_0_0,v0_0_1,v0_0_2,v0_0_3),v0_1,v0_2,v0_3,v0_4)) fun r=>some ((.tup [.agg [.lit (.int .i64 r.1.1.1),.lit (.int .i64 r.1.1.2.1),.lit (.int .i64 r.1.1.2.2.1),.lit (.int .i64 r.1.1.2.2.2),.ro (List.map ao r.1.2.1),.ro (List.map (aG .u64) r.1.2.2.1),.ro (List.map aM r.1.2.2.2.1),.ro (List.map bD r.1.2.2.2.2)],.own 0 0 0]),[.rows 0 [] 0 true]):=by
 rw [aH]
 unfold kK
 simp -implicitDefEqProofs only [S3,Rp,PS,pm,fC,TR,Ph,PF,pN,pp,fh,fw,aH (g:=41),S4,RO,pi,fe,Tn,RR,Tk,Pz,T3,QB,↓syP,syA,syD,simprocAttr,syE,ah,ag,ae,syW,uU,uL,pM,xFP,nM,yI,xQ,db,cy,cw,pX k v0_0_0 v0_0_1 v0_0_2 v0_0_3 v0_1 v0_2 v0_3 v0_4]
end Go.Ab
set_option maxRecDepth 100000
set_option linter.unusedVariables false
set_option linter.unusedSimpArgs false
namespace Go.Ab
open Go.Proofs
def gz (k:Nat) (v0:Int) (v1:Int) (v2:Int)  : Nat→Tye→Nat→Int→Option Tye
 | 0,_,_,_=>none
 | n+1,sb,so,sc=>
 bif decide (sc<v1) then
 ck (so==3||so==0) (
 bif room (sb++[((1:Int),sc,v2)]).length 24 then
 gz k v0 v1 v2  n (sb++[((1:Int),sc,v2)]) (3) (IntKind.i64.wrap (sc+(1:Int)))
 else
 none)
 else
 some (sb)
theorem pP (k:Nat) (v0 v1 v2:Int):∀ (n:Nat) (sb:Tye) (so:Nat) (sc:Int) ⦃sz s32 s33 sr:Bool⦄ ⦃ss:Nat⦄ ⦃j39 j41:V⦄,rt none (itX (xX (xS (k+1)) 113 0 (k+1) false) Cq (2) (aw (xX (xS (k+1)) 113 0 (k+1) false) (av (xS (k+1)).P Tryz.f113) Cl) n ⟨[.lit (.int .i64 v0),.lit (.int .i64 v1),.lit (.int .u64 v2),uu,uu,uu,.own 0 0 0,.own 1 ss sb.length,j39,j41,.lit (.int .i64 v0),.lit (.bool sz),.lit (.bool s32),.lit (.bool false),.lit (.int .i64 v1),.lit (.bool s33),.lit (.bool sr),.lit (.bool sr),.lit (.int .i64 v0),.junk,.junk,.junk,.junk,.junk,.junk,.junk,.junk,.junk,.junk,.lit (.int .i64 v1),.lit (.int .i64 sc),.junk,.junk,.junk,.junk,.junk,.junk,.junk,.junk,.junk,uu],[.rows 0 [] 0 true,.rows so (List.map fi sb) ss true]⟩)=ob (gz k v0 v1 v2  n sb so sc) fun r=>some ((.ro (List.map fi r)),[]):=by
 intro n
 induction n with
 | zero=>intros;rfl
 | succ n ih=>
  intro sb so sc sz s32 s33 sr ss j39 j41
  rw [gz]
  simp -implicitDefEqProofs only [WC,Pn,QI,CW,Ck,Dm,ms,mA,mz,↓syP,syA,syD,simprocAttr,syE,ah,ag,ae,syW,xFP,nM,yI,xQ,ef,dB,ia,M5,ih]
def gB (k:Nat) (v0:Int) (v1:Int) (v2:Int)  : Nat→Tye→Int→Nat→Option Tye
 | 0,_,_,_=>none
 | n+1,sd,se,sf=>
 bif decide (se<v0) then
 ck (sf==3||sf==0) (
 bif room (sd++[((0:Int),se,v2)]).length 24 then
 gB k v0 v1 v2  n (sd++[((0:Int),se,v2)]) (IntKind.i64.wrap (se+(1:Int))) (3)
 else
 none)
 else
 gz k v0 v1 v2 (k+1) (sd) (sf) ((0:Int))
theorem kW (k:Nat) (v0 v1 v2:Int):∀ (n:Nat) (sd:Tye) (se:Int) (sf:Nat) ⦃sB sX sZ st:Bool⦄ ⦃su:Nat⦄ ⦃j27:V⦄,rt none (itX (xX (xS (k+1)) 113 0 (k+1) false) CO (2) (aw (xX (xS (k+1)) 113 0 (k+1) false) (av (xS (k+1)).P Tryz.f113) DD) n ⟨[.lit (.int .i64 v0),.lit (.int .i64 v1),.lit (.int .u64 v2),uu,uu,uu,.own 0 0 0,.own 1 su sd.length,j27,uu,.lit (.int .i64 v0),.lit (.bool sB),.lit (.bool sX),.lit (.bool false),.lit (.int .i64 v1),.lit (.bool sZ),.lit (.bool st),.lit (.bool st),.lit (.int .i64 v0),.lit (.int .i64 se),.junk,.junk,.junk,.junk,.junk,.junk,.junk,.junk,.junk,uu,uu,uu,uu,uu,uu,uu,uu,uu,uu,uu,uu],[.rows 0 [] 0 true,.rows sf (List.map fi sd) su true]⟩)=ob (gB k v0 v1 v2  n sd se sf) fun r=>some ((.ro (List.map fi r)),[]):=by
 intro n
 induction n with
 | zero=>intros;rfl
 | succ n ih=>
  intro sd se sf sB sX sZ st su j27
  rw [gB]
  simp -implicitDefEqProofs only [WC,Pn,QI,CW,Ck,Dm,ms,mA,mz,↓syP,syA,syD,simprocAttr,syE,ah,ag,ae,syW,xFP,nM,yI,xQ,ef,dB,ia,Lu,ih,pP k v0 v1 v2]
def m7 (k:Nat) (v0:Int) (v1:Int) (v2:Int):Option Tye:=
 ob (cG v0 (21:Int)) fun xs=>
 bif !xs then
 some []
 else
 ob (cG v1 (21:Int)) fun xt=>
 bif !xt then
 some []
 else
 gB k v0 v1 v2 (k+1) ([]) ((0:Int)) (0)
theorem ET (k:Nat) (v0 v1 v2:Int):xC (k+2) none 113 [.lit (.int .i64 v0),.lit (.int .i64 v1),.lit (.int .u64 v2)]=ob (m7 k v0 v1 v2) fun r=>some ((.ro (List.map fi r)),[]):=by
 rw [aH]
 unfold m7
 have hl0:=kW k v0 v1 v2 (k+1) ([]) ((0:Int)) (0)
 try simp -implicitDefEqProofs only [List.map_nil,List.length_nil] at hl0
 simp -implicitDefEqProofs only [WC,Pn,QI,CW,Ck,Dm,ms,mA,mz,↓syP,syA,syD,simprocAttr,syE,ah,ag,ae,syW,xFP,nM,yI,xQ,ef,dB,ia,kW k v0 v1 v2,hl0]
 all_goals simp -implicitDefEqProofs only [List.map_nil]
def gt (k:Nat) (v0:Typ) (v1:Int)  : Nat→Int→Int→Int→Int→Tyt→List Int→List Tyw→List Tys→Int→Nat→Tye→Option (Typ×Tye×Int)
 | 0,_,_,_,_,_,_,_,_,_,_,_=>none
 | n+1,s4,s5,s6,s7,s8,s9,sU,sV,sY,sp,sa=>
 bif decide (sY<bif decide ((5000:Int)<v1) then (5000:Int) else v1) then
 ob (m7 (k+86) v0.1.1 (↑v0.2.2.2.2.length:Int) (IntKind.u64.wrap sY)) fun xu=>
 ob (mn (k+50) ((s4,s5,s6,s7),s8,s9,sU,sV)) fun xv=>
 bif xv then
 some ((((s4),(s5),(s6),(s7)),(s8),(s9),(sU),(sV)),(sa),(sY))
 else
 ob (oH (k+24) ((s4,s5,s6,s7),s8,s9,sU,sV) xu) fun xT=>
 ck (sp==3||sp==0) (
 bif room (sa++xT.2.1).length 24 then
 gt k v0 v1  n (xT.1.1.1) (xT.1.1.2.1) (xT.1.1.2.2.1) (xT.1.1.2.2.2) (xT.1.2.1) (xT.1.2.2.1) (xT.1.2.2.2.1) (xT.1.2.2.2.2) (IntKind.i64.wrap (sY+(1:Int))) (3) (sa++xT.2.1)
 else
 none)
 else
 some ((((s4),(s5),(s6),(s7)),(s8),(s9),(sU),(sV)),(sa),(sY))
theorem lg (k:Nat) (v0_0_0 v0_0_1 v0_0_2 v0_0_3:Int) (v0_1:Tyt) (v0_2:List Int) (v0_3:List Tyw) (v0_4:List Tys) (v1:Int):∀ (n:Nat) (s4 s5 s6 s7:Int) (s8:Tyt) (s9:List Int) (sU:List Tyw) (sV:List Tys) (sY:Int) (sp:Nat) (sa:Tye) ⦃sJ sA:Bool⦄ ⦃sv:Nat⦄ ⦃sg sh si sj:Int⦄ ⦃sk:Tyt⦄ ⦃sl:List Int⦄ ⦃sm:List Tyw⦄ ⦃sn:List Tys⦄,rt none (bq (itX (xX (xS (k+88)) 112 0 (k+88) false) Cu (19) (aw (xX (xS (k+88)) 112 0 (k+88) false) (av (xS (k+88)).P Tryz.f112) DL) n ⟨[.yld 18,.ptr 17 0 0 0,.ptr 16 0 0 0,uu,.lit (.int .i64 sY),.junk,.junk,.junk,.junk,.junk,.junk,.junk,.junk,.junk,.junk,.junk,.junk,.junk,.junk,.junk,.junk,.junk,.junk,.junk],[.box [.lit (.int .i64 v0_0_0),.lit (.int .i64 v0_0_1),.lit (.int .i64 v0_0_2),.lit (.int .i64 v0_0_3),.ro (List.map ao v0_1),.ro (List.map (aG IntKind.u64) v0_2),.ro (List.map aM v0_3),.ro (List.map bD v0_4)],.rows 0 [] 0 true,.rows 0 [] 0 true,.rows 0 [] 0 true,.rows 0 [] 0 true,.box [.lit (.int .i64 (0:Int)),.lit (.int .i64 (0:Int)),.lit (.int .i64 (0:Int)),.lit (.int .i64 (0:Int)),.own 1 0 0,.own 2 0 0,.own 3 0 0,.own 4 0 0],.rows 0 [] 0 true,.rows sp (List.map aX sa) sv true,.rows 0 [] 0 true,.rows 0 [] 0 true,.rows 0 [] 0 true,.rows 0 [] 0 true,.box [.lit (.int .i64 s4),.lit (.int .i64 s5),.lit (.int .i64 s6),.lit (.int .i64 s7),.ro (List.map ao s8),.ro (List.map (aG IntKind.u64) s9),.ro (List.map aM sU),.ro (List.map bD sV)],.rows 0 [] 0 true,.box [.own 7 sv sa.length],.box [.lit (.int .i64 sY)],.box [.lit (.int .i64 v0_0_0),.lit (.int .i64 v0_0_1),.lit (.int .i64 v0_0_2),.lit (.int .i64 v0_0_3),.ro (List.map ao v0_1),.ro (List.map (aG IntKind.u64) v0_2),.ro (List.map aM v0_3),.ro (List.map bD v0_4)],.box [.lit (.int .i64 v1)],(.loop ⟨LoopState.ready,none,36,[.agg [.lit (.int .i64 v0_0_0),.lit (.int .i64 v0_0_1),.lit (.int .i64 v0_0_2),.lit (.int .i64 v0_0_3),.ro (List.map ao v0_1),.ro (List.map (aG IntKind.u64) v0_2),.ro (List.map aM v0_3),.ro (List.map bD v0_4)],.lit (.int .i64 v1),.ptr 0 0 0 0,uu,.ptr 5 0 0 0,.own 6 0 0,.lit (.int .i64 (0:Int)),.ptr 12 0 0 0,.ptr 14 0 0 0,.ptr 15 0 0 0,uu,uu,uu,uu,.tup [.agg [.lit (.int .i64 sg),.lit (.int .i64 sh),.lit (.int .i64 si),.lit (.int .i64 sj),.ro (List.map ao sk),.ro (List.map (aG IntKind.u64) sl),.ro (List.map aM sm),.ro (List.map bD sn)],.own 7 0 0],.agg [.lit (.int .i64 v0_0_0),.lit (.int .i64 v0_0_1),.lit (.int .i64 v0_0_2),.lit (.int .i64 v0_0_3),.ro (List.map ao v0_1),.ro (List.map (aG IntKind.u64) v0_2),.ro (List.map aM v0_3),.ro (List.map bD v0_4)],.tup [.agg [.lit (.int .i64 sg),.lit (.int .i64 sh),.lit (.int .i64 si),.lit (.int .i64 sj),.ro (List.map ao sk),.ro (List.map (aG IntKind.u64) sl),.ro (List.map aM sm),.ro (List.map bD sn)],.own 7 0 0],.agg [.lit (.int .i64 sg),.lit (.int .i64 sh),.lit (.int .i64 si),.lit (.int .i64 sj),.ro (List.map ao sk),.ro (List.map (aG IntKind.u64) sl),.ro (List.map aM sm),.ro (List.map bD sn)],.own 7 0 0,.agg [.lit (.int .i64 v0_0_0),.lit (.int .i64 v0_0_1),.lit (.int .i64 v0_0_2),.lit (.int .i64 v0_0_3),.ro (List.map ao v0_1),.ro (List.map (aG IntKind.u64) v0_2),.ro (List.map aM v0_3),.ro (List.map bD v0_4)],.lit (.bool sJ),.lit (.bool sA),uu,.agg [.lit (.int .i64 v0_0_0),.lit (.int .i64 v0_0_1),.lit (.int .i64 v0_0_2),.lit (.int .i64 v0_0_3),.ro (List.map ao v0_1),.ro (List.map (aG IntKind.u64) v0_2),.ro (List.map aM v0_3),.ro (List.map bD v0_4)],.lit (.int .i64 v1),.fn (Fn.func (112:FuncId)) [] [.ptr 17 0 0 0,.ptr 16 0 0 0],uu,uu,uu,uu,uu,uu,uu,uu,uu,uu,uu,uu,uu,uu,uu,uu,uu,uu,uu],[(26:Tmp),(27:Tmp)],Oz,N1⟩)]⟩) (rfK (aw (xX (xS (k+89)) 36 0 (k+89) false) (av (xS (k+89)).P Tryz.f36) F6) [.agg [.lit (.int .i64 v0_0_0),.lit (.int .i64 v0_0_1),.lit (.int .i64 v0_0_2),.lit (.int .i64 v0_0_3),.ro (List.map ao v0_1),.ro (List.map (aG IntKind.u64) v0_2),.ro (List.map aM v0_3),.ro (List.map bD v0_4)],.lit (.int .i64 v1),.ptr 0 0 0 0,uu,.ptr 5 0 0 0,.own 6 0 0,.lit (.int .i64 (0:Int)),.ptr 12 0 0 0,.ptr 14 0 0 0,.ptr 15 0 0 0,uu,uu,uu,uu,.tup [.agg [.lit (.int .i64 sg),.lit (.int .i64 sh),.lit (.int .i64 si),.lit (.int .i64 sj),.ro (List.map ao sk),.ro (List.map (aG IntKind.u64) sl),.ro (List.map aM sm),.ro (List.map bD sn)],.own 7 0 0],.agg [.lit (.int .i64 v0_0_0),.lit (.int .i64 v0_0_1),.lit (.int .i64 v0_0_2),.lit (.int .i64 v0_0_3),.ro (List.map ao v0_1),.ro (List.map (aG IntKind.u64) v0_2),.ro (List.map aM v0_3),.ro (List.map bD v0_4)],.tup [.agg [.lit (.int .i64 sg),.lit (.int .i64 sh),.lit (.int .i64 si),.lit (.int .i64 sj),.ro (List.map ao sk),.ro (List.map (aG IntKind.u64) sl),.ro (List.map aM sm),.ro (List.map bD sn)],.own 7 0 0],.agg [.lit (.int .i64 sg),.lit (.int .i64 sh),.lit (.int .i64 si),.lit (.int .i64 sj),.ro (List.map ao sk),.ro (List.map (aG IntKind.u64) sl),.ro (List.map aM sm),.ro (List.map bD sn)],.own 7 0 0,.agg [.lit (.int .i64 v0_0_0),.lit (.int .i64 v0_0_1),.lit (.int .i64 v0_0_2),.lit (.int .i64 v0_0_3),.ro (List.map ao v0_1),.ro (List.map (aG IntKind.u64) v0_2),.ro (List.map aM v0_3),.ro (List.map bD v0_4)],.lit (.bool sJ),.lit (.bool sA),uu,.agg [.lit (.int .i64 v0_0_0),.lit (.int .i64 v0_0_1),.lit (.int .i64 v0_0_2),.lit (.int .i64 v0_0_3),.ro (List.map ao v0_1),.ro (List.map (aG IntKind.u64) v0_2),.ro (List.map aM v0_3),.ro (List.map bD v0_4)],.lit (.int .i64 v1),.fn (Fn.func (112:FuncId)) [] [.ptr 17 0 0 0,.ptr 16 0 0 0],uu,uu,uu,uu,uu,uu,uu,uu,uu,uu,uu,uu,uu,uu,uu,uu,uu,uu,uu] (18)))=ob (gt k ((v0_0_0,v0_0_1,v0_0_2,v0_0_3),v0_1,v0_2,v0_3,v0_4) v1  n s4 s5 s6 s7 s8 s9 sU sV sY sp sa) fun r=>some ((.tup [.agg [.lit (.int .i64 r.1.1.1),.lit (.int .i64 r.1.1.2.1),.lit (.int .i64 r.1.1.2.2.1),.lit (.int .i64 r.1.1.2.2.2),.ro (List.map ao r.1.2.1),.ro (List.map (aG .u64) r.1.2.2.1),.ro (List.map aM r.1.2.2.2.1),.ro (List.map bD r.1.2.2.2.2)],.ro (List.map aX r.2.1),.lit (.int .i64 r.2.2)]),[]):=by
 intro n
 induction n with
 | zero=>intros;rfl
 | succ n ih=>
  intro s4 s5 s6 s7 s8 s9 sU sV sY sp sa sJ sA sv sg sh si sj sk sl sm sn
  rw [gt]
  simp -implicitDefEqProofs only [ahY,afh,aes,LY,Mt,fE,fF,rr,EE,ahj,ad1,aH (g:=74),Z4,WI,UX,GJ,oB,↓syP,syA,syD,simprocAttr,syE,ah,ag,ae,syW,xFP,nM,yI,xQ,ef,dB,cy,pg,ET,NX,ih]
def lc (k:Nat) (v0:Typ) (v1:Int):Option (Typ×Tye×Int):=
 ob (kK (k+26) ((v0.1.1,v0.1.2.1,v0.1.2.2.1,v0.1.2.2.2),v0.2.1,v0.2.2.1,v0.2.2.2.1,v0.2.2.2.2)) fun xL=>
 ob (du (k+54) ((v0.1.1,v0.1.2.1,v0.1.2.2.1,v0.1.2.2.2),v0.2.1,v0.2.2.1,v0.2.2.2.1,v0.2.2.2.2)) fun xw=>
 bif !xw then
 some ((((xL.1.1.1),(xL.1.1.2.1),(xL.1.1.2.2.1),(xL.1.1.2.2.2)),(xL.1.2.1),(xL.1.2.2.1),(xL.1.2.2.2.1),(xL.1.2.2.2.2)),[],((0:Int)))
 else
 gt k v0 v1 (k+88) (xL.1.1.1) (xL.1.1.2.1) (xL.1.1.2.2.1) (xL.1.1.2.2.2) (xL.1.2.1) (xL.1.2.2.1) (xL.1.2.2.2.1) (xL.1.2.2.2.2) ((0:Int)) (0) ([])
theorem FE (k:Nat) (v0_0_0 v0_0_1 v0_0_2 v0_0_3:Int) (v0_1:Tyt) (v0_2:List Int) (v0_3:List Tyw) (v0_4:List Tys) (v1:Int):xC (k+90) none 36 [.agg [.lit (.int .i64 v0_0_0),.lit (.int .i64 v0_0_1),.lit (.int .i64 v0_0_2),.lit (.int .i64 v0_0_3),.ro (List.map ao v0_1),.ro (List.map (aG .u64) v0_2),.ro (List.map aM v0_3),.ro (List.map bD v0_4)],.lit (.int .i64 v1)]=ob (lc k ((v0_0_0,v0_0_1,v0_0_2,v0_0_3),v0_1,v0_2,v0_3,v0_4) v1) fun r=>some ((.tup [.agg [.lit (.int .i64 r.1.1.1),.lit (.int .i64 r.1.1.2.1),.lit (.int .i64 r.1.1.2.2.1),.lit (.int .i64 r.1.1.2.2.2),.ro (List.map ao r.1.2.1),.ro (List.map (aG .u64) r.1.2.2.1),.ro (List.map aM r.1.2.2.2.1),.ro (List.map bD r.1.2.2.2.2)],.ro (List.map aX r.2.1),.lit (.int .i64 r.2.2)]),[]):=by
 rw [aH]
 unfold lc
 have hl0:=fun (xU:Typ×Tye)=>lg k v0_0_0 v0_0_1 v0_0_2 v0_0_3 v0_1 v0_2 v0_3 v0_4 v1 (k+88) (xU.fst.fst.fst) (xU.fst.fst.snd.fst) (xU.fst.fst.snd.snd.fst) (xU.fst.fst.snd.snd.snd) (xU.fst.snd.fst) (xU.fst.snd.snd.fst) (xU.fst.snd.snd.snd.fst) (xU.fst.snd.snd.snd.snd) ((0:Int)) (0) ([])
 try simp -implicitDefEqProofs only [List.map_nil,List.length_nil] at hl0
 simp -implicitDefEqProofs only [ahY,afh,aes,LY,Mt,fE,fF,rr,EE,ahj,ad1,aH (g:=74),Z4,WI,UX,GJ,oB,↓syP,syA,syD,simprocAttr,syE,ah,ag,ae,syW,xFP,nM,yI,xQ,ef,dB,cy,lg k v0_0_0 v0_0_1 v0_0_2 v0_0_3 v0_1 v0_2 v0_3 v0_4 v1,hl0]
 all_goals simp -implicitDefEqProofs only [List.map_nil]
end Go.Ab
set_option maxRecDepth 100000
set_option linter.unusedVariables false
set_option linter.unusedSimpArgs false
namespace Go.Ab
open Go.Proofs
def gT (k:Nat) (v0:(Int×Int×Int×Int)) (v1:Tyt) (v2:(List (List Int))) (v3:(List Int)):Option (Typ×Tye×Bool):=
 ob (f8 (k+41) (v0.1,v0.2.1,v0.2.2.1,v0.2.2.2) v1 v2) fun x4=>
 bif !x4.2 then
 some (((((0:Int)),((0:Int)),((0:Int)),((0:Int))),[],[],[],[]),[],(false))
 else
 ob (gA (k+39) v3) fun x5=>
 ob (gh k ((x4.1.1.1,x4.1.1.2.1,x4.1.1.2.2.1,x4.1.1.2.2.2),x4.1.2.1,x4.1.2.2.1,x4.1.2.2.2.1,x4.1.2.2.2.2) x5) fun x6=>
 some ((((x6.1.1.1),(x6.1.1.2.1),(x6.1.1.2.2.1),(x6.1.1.2.2.2)),(x6.1.2.1),(x6.1.2.2.1),(x6.1.2.2.2.1),(x6.1.2.2.2.2)),(x6.2),(true))
theorem Hr (k:Nat) (v0_0 v0_1 v0_2 v0_3:Int) (v1:Tyt) (v2:List (List Int)) (v3:List Int):xC (k+64) none 34 [.agg [.lit (.int .i64 v0_0),.lit (.int .i64 v0_1),.lit (.int .i64 v0_2),.lit (.int .i64 v0_3)],.ro (List.map ao v1),.ro (List.map fT v2),.ro (List.map (aG .u8) v3)]=ob (gT k (v0_0,v0_1,v0_2,v0_3) v1 v2 v3) fun r=>some ((.tup [.agg [.lit (.int .i64 r.1.1.1),.lit (.int .i64 r.1.1.2.1),.lit (.int .i64 r.1.1.2.2.1),.lit (.int .i64 r.1.1.2.2.2),.ro (List.map ao r.1.2.1),.ro (List.map (aG .u64) r.1.2.2.1),.ro (List.map aM r.1.2.2.2.1),.ro (List.map bD r.1.2.2.2.2)],.ro (List.map aX r.2.1),.lit (.bool r.2.2)]),[]):=by
 rw [aH]
 unfold gT
 simp -implicitDefEqProofs only [aip,ahE,↓syP,syA,syD,simprocAttr,syE,ah,ag,ae,syW,xFP,nM,yI,xQ,ef,dB,BS,KD,DN]
 all_goals simp -implicitDefEqProofs only [List.map_nil]
def ap (k:Nat) (v0:Tyt) (v1:Tye)  : Nat→Int→Int→Int→Int→Int→Int→Int→Option (Int×Int×Int)
 | 0,_,_,_,_,_,_,_=>none
 | n+1,sA,sC,sD,sF,sG,sE,sB=>
 bif decide (sA<(↑v1.length:Int)) then
 ob (idx v1 sA) fun xD=>
 bif decide (xD.1<(0:Int)) then
 ap k v0 v1  n (IntKind.i64.wrap (sA+(1:Int))) (sC) (sD) (sF) (sG) (sE) (sB)
 else
 bif decide ((6:Int)≤xD.1) then
 ap k v0 v1  n (IntKind.i64.wrap (sA+(1:Int))) (sC) (sD) (sF) (sG) (sE) (sB)
 else
 bif xD.1==(0:Int) then
 bif xD.1==(0:Int) then
 ap k v0 v1  n (IntKind.i64.wrap (sA+(1:Int))) (IntKind.i64.wrap (sC+(1:Int))) (sD) (sF) (sG) (sE) (sB)
 else
 bif xD.1==(1:Int) then
 ap k v0 v1  n (IntKind.i64.wrap (sA+(1:Int))) (sC) (IntKind.i64.wrap (sC+(1:Int))) (sF) (sG) (sE) (sB)
 else
 bif xD.1==(2:Int) then
 ap k v0 v1  n (IntKind.i64.wrap (sA+(1:Int))) (sC) (sD) (IntKind.i64.wrap (sC+(1:Int))) (sG) (sE) (sB)
 else
 bif xD.1==(3:Int) then
 ap k v0 v1  n (IntKind.i64.wrap (sA+(1:Int))) (sC) (sD) (sF) (IntKind.i64.wrap (sC+(1:Int))) (sE) (sB)
 else
 bif xD.1==(4:Int) then
 ap k v0 v1  n (IntKind.i64.wrap (sA+(1:Int))) (sC) (sD) (sF) (sG) (IntKind.i64.wrap (sC+(1:Int))) (sB)
 else
 bif xD.1==(5:Int) then
 ap k v0 v1  n (IntKind.i64.wrap (sA+(1:Int))) (sC) (sD) (sF) (sG) (sE) (IntKind.i64.wrap (sC+(1:Int)))
 else
 none
 else
 bif xD.1==(1:Int) then
 bif xD.1==(0:Int) then
 ap k v0 v1  n (IntKind.i64.wrap (sA+(1:Int))) (IntKind.i64.wrap (sD+(1:Int))) (sD) (sF) (sG) (sE) (sB)
 else
 bif xD.1==(1:Int) then
 ap k v0 v1  n (IntKind.i64.wrap (sA+(1:Int))) (sC) (IntKind.i64.wrap (sD+(1:Int))) (sF) (sG) (sE) (sB)
 else
 bif xD.1==(2:Int) then
 ap k v0 v1  n (IntKind.i64.wrap (sA+(1:Int))) (sC) (sD) (IntKind.i64.wrap (sD+(1:Int))) (sG) (sE) (sB)
 else
 bif xD.1==(3:Int) then
 ap k v0 v1  n (IntKind.i64.wrap (sA+(1:Int))) (sC) (sD) (sF) (IntKind.i64.wrap (sD+(1:Int))) (sE) (sB)
 else
 bif xD.1==(4:Int) then
 ap k v0 v1  n (IntKind.i64.wrap (sA+(1:Int))) (sC) (sD) (sF) (sG) (IntKind.i64.wrap (sD+(1:Int))) (sB)
 else
 bif xD.1==(5:Int) then
 ap k v0 v1  n (IntKind.i64.wrap (sA+(1:Int))) (sC) (sD) (sF) (sG) (sE) (IntKind.i64.wrap (sD+(1:Int)))
 else
 none
 else
 bif xD.1==(2:Int) then
 bif xD.1==(0:Int) then
 ap k v0 v1  n (IntKind.i64.wrap (sA+(1:Int))) (IntKind.i64.wrap (sF+(1:Int))) (sD) (sF) (sG) (sE) (sB)
 else
 bif xD.1==(1:Int) then
 ap k v0 v1  n (IntKind.i64.wrap (sA+(1:Int))) (sC) (IntKind.i64.wrap (sF+(1:Int))) (sF) (sG) (sE) (sB)
 else
 bif xD.1==(2:Int) then
 ap k v0 v1  n (IntKind.i64.wrap (sA+(1:Int))) (sC) (sD) (IntKind.i64.wrap (sF+(1:Int))) (sG) (sE) (sB)
 else
 bif xD.1==(3:Int) then
 ap k v0 v1  n (IntKind.i64.wrap (sA+(1:Int))) (sC) (sD) (sF) (IntKind.i64.wrap (sF+(1:Int))) (sE) (sB)
 else
 bif xD.1==(4:Int) then
 ap k v0 v1  n (IntKind.i64.wrap (sA+(1:Int))) (sC) (sD) (sF) (sG) (IntKind.i64.wrap (sF+(1:Int))) (sB)
 else
 bif xD.1==(5:Int) then
 ap k v0 v1  n (IntKind.i64.wrap (sA+(1:Int))) (sC) (sD) (sF) (sG) (sE) (IntKind.i64.wrap (sF+(1:Int)))
 else
 none
 else
 bif xD.1==(3:Int) then
 bif xD.1==(0:Int) then
 ap k v0 v1  n (IntKind.i64.wrap (sA+(1:Int))) (IntKind.i64.wrap (sG+(1:Int))) (sD) (sF) (sG) (sE) (sB)
 else
 bif xD.1==(1:Int) then
 ap k v0 v1  n (IntKind.i64.wrap (sA+(1:Int))) (sC) (IntKind.i64.wrap (sG+(1:Int))) (sF) (sG) (sE) (sB)
 else
 bif xD.1==(2:Int) then
 ap k v0 v1  n (IntKind.i64.wrap (sA+(1:Int))) (sC) (sD) (IntKind.i64.wrap (sG+(1:Int))) (sG) (sE) (sB)
 else
 bif xD.1==(3:Int) then
 ap k v0 v1  n (IntKind.i64.wrap (sA+(1:Int))) (sC) (sD) (sF) (IntKind.i64.wrap (sG+(1:Int))) (sE) (sB)
 else
 bif xD.1==(4:Int) then
 ap k v0 v1  n (IntKind.i64.wrap (sA+(1:Int))) (sC) (sD) (sF) (sG) (IntKind.i64.wrap (sG+(1:Int))) (sB)
 else
 bif xD.1==(5:Int) then
 ap k v0 v1  n (IntKind.i64.wrap (sA+(1:Int))) (sC) (sD) (sF) (sG) (sE) (IntKind.i64.wrap (sG+(1:Int)))
 else
 none
 else
 bif xD.1==(4:Int) then
 bif xD.1==(0:Int) then
 ap k v0 v1  n (IntKind.i64.wrap (sA+(1:Int))) (IntKind.i64.wrap (sE+(1:Int))) (sD) (sF) (sG) (sE) (sB)
 else
 bif xD.1==(1:Int) then
 ap k v0 v1  n (IntKind.i64.wrap (sA+(1:Int))) (sC) (IntKind.i64.wrap (sE+(1:Int))) (sF) (sG) (sE) (sB)
 else
 bif xD.1==(2:Int) then
 ap k v0 v1  n (IntKind.i64.wrap (sA+(1:Int))) (sC) (sD) (IntKind.i64.wrap (sE+(1:Int))) (sG) (sE) (sB)
 else
 bif xD.1==(3:Int) then
 ap k v0 v1  n (IntKind.i64.wrap (sA+(1:Int))) (sC) (sD) (sF) (IntKind.i64.wrap (sE+(1:Int))) (sE) (sB)
 else
 bif xD.1==(4:Int) then
 ap k v0 v1  n (IntKind.i64.wrap (sA+(1:Int))) (sC) (sD) (sF) (sG) (IntKind.i64.wrap (sE+(1:Int))) (sB)
 else
 bif xD.1==(5:Int) then
 ap k v0 v1  n (IntKind.i64.wrap (sA+(1:Int))) (sC) (sD) (sF) (sG) (sE) (IntKind.i64.wrap (sE+(1:Int)))
 else
 none
 else
 bif xD.1==(5:Int) then
 bif xD.1==(0:Int) then
 ap k v0 v1  n (IntKind.i64.wrap (sA+(1:Int))) (IntKind.i64.wrap (sB+(1:Int))) (sD) (sF) (sG) (sE) (sB)
 else
 bif xD.1==(1:Int) then
 ap k v0 v1  n (IntKind.i64.wrap (sA+(1:Int))) (sC) (IntKind.i64.wrap (sB+(1:Int))) (sF) (sG) (sE) (sB)
 else
 bif xD.1==(2:Int) then
 ap k v0 v1  n (IntKind.i64.wrap (sA+(1:Int))) (sC) (sD) (IntKind.i64.wrap (sB+(1:Int))) (sG) (sE) (sB)
 else
 bif xD.1==(3:Int) then
 ap k v0 v1  n (IntKind.i64.wrap (sA+(1:Int))) (sC) (sD) (sF) (IntKind.i64.wrap (sB+(1:Int))) (sE) (sB)
 else
 bif xD.1==(4:Int) then
 ap k v0 v1  n (IntKind.i64.wrap (sA+(1:Int))) (sC) (sD) (sF) (sG) (IntKind.i64.wrap (sB+(1:Int))) (sB)
 else
 bif xD.1==(5:Int) then
 ap k v0 v1  n (IntKind.i64.wrap (sA+(1:Int))) (sC) (sD) (sF) (sG) (sE) (IntKind.i64.wrap (sB+(1:Int)))
 else
 none
 else
 none
 else
 some ((sC),(sD),(sE))
theorem pn (k:Nat) (v0:Tyt) (v1:Tye):∀ (n:Nat) (sA sC sD sF sG sE sB:Int) ⦃j12:V⦄,rt none (itX (xX (xS k) 37 0 k false) pk (1) (aw (xX (xS k) 37 0 k false) (av (xS k).P Tryz.f37) Ia) n ⟨[.ro (List.map ao v0),.ro (List.map aX v1),uu,uu,.lit (.int .i64 (0:Int)),.lit (.int .i64 (0:Int)),.lit (.int .i64 (0:Int)),.ptr 0 0 0 0,uu,j12,.ro (List.map aX v1),.lit (.int .i64 (↑v1.length:Int)),.lit (.int .i64 sA),.junk,.junk,.junk,.junk,.junk,.junk,.junk,.junk,.junk,.junk,.junk,.junk,.junk,.junk,.junk,.junk,.junk,.junk,uu,uu,uu,uu,uu,uu],[.box [.lit (.int .i64 sC),.lit (.int .i64 sD),.lit (.int .i64 sF),.lit (.int .i64 sG),.lit (.int .i64 sE),.lit (.int .i64 sB)]]⟩)=ob (ap k v0 v1  n sA sC sD sF sG sE sB) fun r=>some ((.tup [.lit (.int .i64 r.1),.lit (.int .i64 r.2.1),.lit (.int .i64 r.2.2)]),[]):=by
 intro n
 induction n with
 | zero=>intros;rfl
 | succ n ih=>
  intro sA sC sD sF sG sE sB j12
  rw [ap]
  simp -implicitDefEqProofs only [ahq,ag4,adE,Mj,MR,rb,rP,↓syP,syA,syD,simprocAttr,syE,ah,ag,ae,syW,xFP,nM,yI,xQ,ef,dB,TD,ih]
def uc (k:Nat) (v0:Tyt) (v1:Tye):Option (Int×Int×Int):=
 ap k v0 v1 (k) ((0:Int)) ((0:Int)) ((0:Int)) ((0:Int)) ((0:Int)) ((0:Int)) ((0:Int))
theorem Ej (k:Nat) (v0:Tyt) (v1:Tye):xC (k+1) none 37 [.ro (List.map ao v0),.ro (List.map aX v1)]=ob (uc k v0 v1) fun r=>some ((.tup [.lit (.int .i64 r.1),.lit (.int .i64 r.2.1),.lit (.int .i64 r.2.2)]),[]):=by
 rw [aH]
 unfold uc
 simp -implicitDefEqProofs only [ahq,ag4,adE,Mj,MR,rb,rP,↓syP,syA,syD,simprocAttr,syE,ah,ag,ae,syW,xFP,nM,yI,xQ,ef,dB,pn k v0 v1]
end Go.Ab
set_option maxRecDepth 100000
set_option linter.unusedVariables false
set_option linter.unusedSimpArgs false
namespace Go.Ab
open Go.Proofs
def gY (k:Nat) (v0:Typ)  : Nat→Int→Int→Option Int
 | 0,_,_=>none
 | n+1,s4,s6=>
 bif decide (s6<(↑v0.2.2.2.2.length:Int)) then
 ob (idx v0.2.2.2.2 s6) fun xx=>
 gY k v0  n (IntKind.i64.wrap (s4+(↑xx.2.1.length:Int))) (IntKind.i64.wrap (s6+(1:Int)))
 else
 ob (du k ((v0.1.1,v0.1.2.1,v0.1.2.2.1,v0.1.2.2.2),v0.2.1,v0.2.2.1,v0.2.2.2.1,v0.2.2.2.2)) fun xy=>
 bif !xy then
 some ((0:Int))
 else
 some (s4)
theorem ra (k:Nat) (v0_0_0 v0_0_1 v0_0_2 v0_0_3:Int) (v0_1:Tyt) (v0_2:List Int) (v0_3:List Tyw) (v0_4:List Tys):∀ (n:Nat) (s4 s6:Int) ⦃j5:V⦄,rt none (itX (xX (xS (k+35)) 39 0 (k+35) false) IT (1) (aw (xX (xS (k+35)) 39 0 (k+35) false) (av (xS (k+35)).P Tryz.f39) II) n ⟨[.agg [.lit (.int .i64 v0_0_0),.lit (.int .i64 v0_0_1),.lit (.int .i64 v0_0_2),.lit (.int .i64 v0_0_3),.ro (List.map ao v0_1),.ro (List.map (aG IntKind.u64) v0_2),.ro (List.map aM v0_3),.ro (List.map bD v0_4)],.ptr 0 0 0 0,.lit (.int .i64 (0:Int)),.lit (.int .i64 s4),uu,j5,.ptr 0 0 0 7,.ro (List.map bD v0_4),.lit (.int .i64 (↑v0_4.length:Int)),.lit (.int .i64 s6),.junk,.junk,.junk,.junk,.junk,.junk,.junk,.junk,.junk,uu,uu,uu,uu],[.box [.lit (.int .i64 v0_0_0),.lit (.int .i64 v0_0_1),.lit (.int .i64 v0_0_2),.lit (.int .i64 v0_0_3),.ro (List.map ao v0_1),.ro (List.map (aG IntKind.u64) v0_2),.ro (List.map aM v0_3),.ro (List.map bD v0_4)]]⟩)=ob (gY k ((v0_0_0,v0_0_1,v0_0_2,v0_0_3),v0_1,v0_2,v0_3,v0_4)  n s4 s6) fun r=>some ((.lit (.int .i64 r)),[]):=by
 intro n
 induction n with
 | zero=>intros;rfl
 | succ n ih=>
  intro s4 s6 j5
  rw [gY]
  simp -implicitDefEqProofs only [ahu,afl,aep,OE,rR,↓syP,syA,syD,simprocAttr,syE,ah,ag,ae,syW,xFP,nM,yI,xQ,cy,Ug,ih]
def wK (k:Nat) (v0:Typ):Option Int:=
 gY k v0 (k+35) ((0:Int)) ((0:Int))
theorem Hy (k:Nat) (v0_0_0 v0_0_1 v0_0_2 v0_0_3:Int) (v0_1:Tyt) (v0_2:List Int) (v0_3:List Tyw) (v0_4:List Tys):xC (k+36) none 39 [.agg [.lit (.int .i64 v0_0_0),.lit (.int .i64 v0_0_1),.lit (.int .i64 v0_0_2),.lit (.int .i64 v0_0_3),.ro (List.map ao v0_1),.ro (List.map (aG .u64) v0_2),.ro (List.map aM v0_3),.ro (List.map bD v0_4)]]=ob (wK k ((v0_0_0,v0_0_1,v0_0_2,v0_0_3),v0_1,v0_2,v0_3,v0_4)) fun r=>some ((.lit (.int .i64 r)),[]):=by
 rw [aH]
 unfold wK
 simp -implicitDefEqProofs only [ahu,afl,aep,OE,rR,↓syP,syA,syD,simprocAttr,syE,ah,ag,ae,syW,xFP,nM,yI,xQ,ra k v0_0_0 v0_0_1 v0_0_2 v0_0_3 v0_1 v0_2 v0_3 v0_4]
end Go.Ab
set_option maxRecDepth 100000
set_option linter.unusedVariables false
set_option linter.unusedSimpArgs false
namespace Go.Ab
open Go.Proofs
def cH (k:Nat) (v0:Typ) (v1:Tye)  : Nat→Int→Int→Int→Int→Int→Tyt→List Int→List Tyw→List Tys→Bool→Option Bool
 | 0,_,_,_,_,_,_,_,_,_,_=>none
 | n+1,sJ,sA,sC,sD,sF,sG,sE,sB,sX,sZ=>
 bif sZ then
 ob (ft (k+28) ((sA,sC,sD,sF),sG,sE,sB,sX)) fun xz=>
 bif !xz then
 bif sJ==(↑v1.length:Int) then
 some (true)
 else
 ob (idx v1 sJ) fun xb=>
 ob (fU k ((sA,sC,sD,sF),sG,sE,sB,sX) (xb.1,xb.2.1,xb.2.2)) fun xV=>
 cH k v0 v1  n (IntKind.i64.wrap (sJ+(1:Int))) (xV.1.1.1) (xV.1.1.2.1) (xV.1.1.2.2.1) (xV.1.1.2.2.2) (xV.1.2.1) (xV.1.2.2.1) (xV.1.2.2.2.1) (xV.1.2.2.2.2) (true)
 else
 ob (fm (k+28) ((sA,sC,sD,sF),sG,sE,sB,sX)) fun xg=>
 bif sJ==(↑v1.length:Int) then
 some (decide (xg≤(0:Int)))
 else
 ob (idx v1 sJ) fun xc=>
 ob (fU k ((sA,sC,sD,sF),sG,sE,sB,sX) (xc.1,xc.2.1,xc.2.2)) fun xW=>
 cH k v0 v1  n (IntKind.i64.wrap (sJ+(1:Int))) (xW.1.1.1) (xW.1.1.2.1) (xW.1.1.2.2.1) (xW.1.1.2.2.2) (xW.1.2.1) (xW.1.2.2.1) (xW.1.2.2.2.1) (xW.1.2.2.2.2) (decide (xg≤(0:Int)))
 else
 some (sZ)
theorem pd (k:Nat) (v0_0_0 v0_0_1 v0_0_2 v0_0_3:Int) (v0_1:Tyt) (v0_2:List Int) (v0_3:List Tyw) (v0_4:List Tys) (v1:Tye):∀ (n:Nat) (sJ sA sC sD sF:Int) (sG:Tyt) (sE:List Int) (sB:List Tyw) (sX:List Tys) (sZ:Bool) ⦃s3 s4:Bool⦄,rt none (itX (xX (xS (k+64)) 35 0 (k+64) false) uo (1) (aw (xX (xS (k+64)) 35 0 (k+64) false) (av (xS (k+64)).P Tryz.f35) Ic) n ⟨[.agg [.lit (.int .i64 v0_0_0),.lit (.int .i64 v0_0_1),.lit (.int .i64 v0_0_2),.lit (.int .i64 v0_0_3),.ro (List.map ao v0_1),.ro (List.map (aG IntKind.u64) v0_2),.ro (List.map aM v0_3),.ro (List.map bD v0_4)],.ro (List.map fi v1),.ptr 0 0 0 0,uu,.lit (.bool false),.lit (.bool sZ),.lit (.int .i64 sJ),.agg [.lit (.int .i64 v0_0_0),.lit (.int .i64 v0_0_1),.lit (.int .i64 v0_0_2),.lit (.int .i64 v0_0_3),.ro (List.map ao v0_1),.ro (List.map (aG IntKind.u64) v0_2),.ro (List.map aM v0_3),.ro (List.map bD v0_4)],.lit (.bool s3),.lit (.bool s4),.junk,.junk,.junk,.junk,.junk,.junk,.junk,.junk,.junk,.junk,.junk,.junk,.junk,.junk,.junk,.junk,.junk,.junk,.junk,.junk,.junk,.junk,.junk,.junk,uu],[.box [.lit (.int .i64 sA),.lit (.int .i64 sC),.lit (.int .i64 sD),.lit (.int .i64 sF),.ro (List.map ao sG),.ro (List.map (aG IntKind.u64) sE),.ro (List.map aM sB),.ro (List.map bD sX)]]⟩)=ob (cH k ((v0_0_0,v0_0_1,v0_0_2,v0_0_3),v0_1,v0_2,v0_3,v0_4) v1  n sJ sA sC sD sF sG sE sB sX sZ) fun r=>some ((.lit (.bool r)),[]):=by
 intro n
 induction n with
 | zero=>intros;rfl
 | succ n ih=>
  intro sJ sA sC sD sF sG sE sB sX sZ s3 s4
  rw [cH]
  simp -implicitDefEqProofs only [ahL,afb,agj,Mu,MM,rJ,rH,↓syP,syA,syD,simprocAttr,syE,ah,ag,ae,syW,xQ,cy,Gu,pQ,Dd,TP,ih]
def ib (k:Nat) (v0:Typ) (v1:Tye):Option Bool:=
 ob (du (k+29) ((v0.1.1,v0.1.2.1,v0.1.2.2.1,v0.1.2.2.2),v0.2.1,v0.2.2.1,v0.2.2.2.1,v0.2.2.2.2)) fun x41=>
 bif !x41 then
 some (false)
 else
 cH k v0 v1 (k+64) ((0:Int)) (v0.1.1) (v0.1.2.1) (v0.1.2.2.1) (v0.1.2.2.2) (v0.2.1) (v0.2.2.1) (v0.2.2.2.1) (v0.2.2.2.2) (true)
theorem EQ (k:Nat) (v0_0_0 v0_0_1 v0_0_2 v0_0_3:Int) (v0_1:Tyt) (v0_2:List Int) (v0_3:List Tyw) (v0_4:List Tys) (v1:Tye):xC (k+65) none 35 [.agg [.lit (.int .i64 v0_0_0),.lit (.int .i64 v0_0_1),.lit (.int .i64 v0_0_2),.lit (.int .i64 v0_0_3),.ro (List.map ao v0_1),.ro (List.map (aG .u64) v0_2),.ro (List.map aM v0_3),.ro (List.map bD v0_4)],.ro (List.map fi v1)]=ob (ib k ((v0_0_0,v0_0_1,v0_0_2,v0_0_3),v0_1,v0_2,v0_3,v0_4) v1) fun r=>some ((.lit (.bool r)),[]):=by
 rw [aH]
 unfold ib
 simp -implicitDefEqProofs only [ahL,afb,agj,Mu,MM,rJ,rH,↓syP,syA,syD,simprocAttr,syE,ah,ag,ae,syW,xQ,cy,pd k v0_0_0 v0_0_1 v0_0_2 v0_0_3 v0_1 v0_2 v0_3 v0_4 v1]
end Go.Ab
set_option maxRecDepth 100000
set_option maxHeartbeats 4000000
set_option linter.unusedVariables false
set_option linter.unusedSimpArgs false
namespace Go.Ab
open Go.Proofs
abbrev axA:Typ:=
 ((1,1,1,0),[(1,[])],[0,0,0,0,0,0,0,0,0,0,0,0],[(0,[],(1,0,0,0,0,0,0),0,0)],[(0,[0],0,0,0,0,0,0,0)])
abbrev axE:Typ:=
 ((1,1,1,0),[(1,[])],[0,0,65537,0,1,1,2,0,0,0,0,0],[(8,[],(5,3,0,0,65536,65536,0),0,0)],[(0,[],0,0,0,0,0,0,0)])
abbrev axL:Tye:=[(0,0,0),(2,0,0),(4,0,0),(5,0,0)]
section
variable (j:Nat)
theorem ah5:xC (j+91) none 34 [.agg [.lit (.int .i64 1),.lit (.int .i64 1),.lit (.int .i64 1),.lit (.int .i64 0)],.ro (List.map ao [(1,[])]),.ro (List.map fT [[0]]),.nil] =
  some (.tup [.agg [.lit (.int .i64 1),.lit (.int .i64 1),.lit (.int .i64 1),.lit (.int .i64 0),.ro (List.map ao [(1,[])]),.ro (List.map (aG .u64) [0,0,0,0,0,0,0,0,0,0,0,0]),.ro (List.map aM [(0,[],(1,0,0,0,0,0,0),0,0)]),.ro (List.map bD [(0,[0],0,0,0,0,0,0,0)])],.ro [],.lit (.bool true)],[]):=by kernel_rfl
theorem axD:lc (j+1) axA 500=some (axE,axL,38):=by kernel_rfl
theorem aii:xC (j+91) none 36 [.agg [.lit (.int .i64 1),.lit (.int .i64 1),.lit (.int .i64 1),.lit (.int .i64 0),.ro (List.map ao [(1,[])]),.ro (List.map (aG .u64) [0,0,0,0,0,0,0,0,0,0,0,0]),.ro (List.map aM [(0,[],(1,0,0,0,0,0,0),0,0)]),.ro (List.map bD [(0,[0],0,0,0,0,0,0,0)])],.lit (.int .i64 500)]=some (.tup [.agg [.lit (.int .i64 1),.lit (.int .i64 1),.lit (.int .i64 1),.lit (.int .i64 0),.ro (List.map ao [(1,[])]),.ro (List.map (aG .u64) [0,0,65537,0,1,1,2,0,0,0,0,0]),.ro (List.map aM [(8,[],(5,3,0,0,65536,65536,0),0,0)]),.ro (List.map bD [(0,[],0,0,0,0,0,0,0)])],.ro (List.map aX [(0,0,0),(2,0,0),(4,0,0),(5,0,0)]),.lit (.int .i64 38)],[]):=by
 refine (FE (j+1) _ _ _ _ _ _ _ _ _).trans ?_
 show ob (lc (j+1) axA 500) _=_
 rw [axD,af]
theorem air:xC (j+91) none 37 [.ro (List.map ao [(1,[])]),.ro (List.map aX [(0,0,0),(2,0,0),(4,0,0),(5,0,0)])]=some (.tup [.lit (.int .i64 1),.lit (.int .i64 0),.lit (.int .i64 1)],[]):=(Ej (j+90) [(1,[])] axL).trans (by kernel_rfl)
theorem aix:xC (j+91) none 39 [.agg [.lit (.int .i64 1),.lit (.int .i64 1),.lit (.int .i64 1),.lit (.int .i64 0),.ro (List.map ao [(1,[])]),.ro (List.map (aG .u64) [0,0,0,0,0,0,0,0,0,0,0,0]),.ro (List.map aM [(0,[],(1,0,0,0,0,0,0),0,0)]),.ro (List.map bD [(0,[0],0,0,0,0,0,0,0)])]]=some (.lit (.int .i64 1),[]):=(Hy (j+55) _ _ _ _ _ _ _ _).trans (by kernel_rfl)
theorem aia:xC (j+91) none 29 [.agg [.lit (.int .i64 1),.lit (.int .i64 1),.lit (.int .i64 1),.lit (.int .i64 0),.ro (List.map ao [(1,[])]),.ro (List.map (aG .u64) [0,0,65537,0,1,1,2,0,0,0,0,0]),.ro (List.map aM [(8,[],(5,3,0,0,65536,65536,0),0,0)]),.ro (List.map bD [(0,[],0,0,0,0,0,0,0)])]]=some (.lit (.bool true),[]):=(pg (j+54) _ _ _ _ _ _ _ _).trans (by kernel_rfl)
theorem aiv:xC (j+91) none 35 [.agg [.lit (.int .i64 1),.lit (.int .i64 1),.lit (.int .i64 1),.lit (.int .i64 0),.ro (List.map ao [(1,[])]),.ro (List.map (aG .u64) [0,0,0,0,0,0,0,0,0,0,0,0]),.ro (List.map aM [(0,[],(1,0,0,0,0,0,0),0,0)]),.ro (List.map bD [(0,[0],0,0,0,0,0,0,0)])],.nil]=some (.lit (.bool true),[]):=by kernel_rfl
end
theorem Y4 (j:Nat):xC (j+92) none 33 []=some (.lit (.bool true),[]):=by
 rw [aH]
 simp -implicitDefEqProofs only [aie,ahx,TS,Tu,T2,SE,TE,TK,S8,T0,S9,SZ,MQ,Bl,↓syP,syA,syD,simprocAttr,syE,ah,ag,ae,syW,xQ,xFP,List.length_cons,List.length_nil,ah5,aii,air,aix,aia,aiv,decide_true,decide_false,cond_true,cond_false]
 rfl
end Go.Ab
