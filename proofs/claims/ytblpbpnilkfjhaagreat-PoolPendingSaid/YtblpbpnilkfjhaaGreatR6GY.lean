import Derived.Test.YtblpbpnilkfjhaaGreatR6GX
import Derived.Test.YtblpbpnilkfjhaaGreatR6BZ
import Derived.Test.YtblpbpnilkfjhaaGreatR6BX
import Derived.Test.YtblpbpnilkfjhaaGreatR6BY
import Derived.Test.YtblpbpnilkfjhaaGreatR6BU
set_option linter.unusedVariables false
set_option linter.unusedSimpArgs false
set_option maxRecDepth 100000
set_option linter.unusedVariables false
set_option linter.unusedSimpArgs false
namespace Go.Ab
open Go.Proofs
def iZ (v0:(Int×Int×Int)) (v1:Int) (v2:Int):Option Bool:=
 bif v0.1==0 then
 ob (da v0.2.1 v1) fun x4=>
 bif x4 then
 some true
 else
 bif v0.1==1 then
 ob (da v0.2.1 v2) fun x5=>
 bif x5 then
 some true
 else
 bif v0.1==2 then
 some true
 else
 some (v0.1==3)
 else
 bif v0.1==2 then
 some true
 else
 some (v0.1==3)
 else
 bif v0.1==1 then
 ob (da v0.2.1 v2) fun x6=>
 bif x6 then
 some true
 else
 bif v0.1==2 then
 some true
 else
 some (v0.1==3)
 else
 bif v0.1==2 then
 some true
 else
 some (v0.1==3)
theorem F3 (k:Nat) (v0_0 v0_1 v0_2 v1 v2:Int):xC (k+2) none 42 [.agg [.lit (.int .i64 v0_0),.lit (.int .i64 v0_1),.lit (.int .u64 v0_2)],.lit (.int .i64 v1),.lit (.int .i64 v2)]=ob (iZ (v0_0,v0_1,v0_2) v1 v2) fun r=>some ((.lit (.bool r)),[]):=by
 rw [aO]
 unfold iZ
 simp -implicitDefEqProofs only [afU,afq,Sq,Sv,SA,Sl,Sk,RN,Ri,Rm,SG,Bs,↓syP,syA,syD,simprocAttr,syE,aj,ag,af,syW,xQ,ru]
def cL (k:Nat) (v0:Tyt)  : Nat→Tyt→Int→Int→Tyt→Option Tyt
 | 0,_,_,_,_=>none
 | n+1,sB,sJ,sK,sU=>
 bif decide (sK<sJ) then
 bif decide ((0:Int)≤sK∧sK.toNat<sB.length) then
 ob (sU[sK.toNat]?) fun xs=>
 ob (aP 8 xs.2) fun xt=>
 bif decide ((0:Int)≤sK∧sK.toNat<sB.length) then
 ob (sU[sK.toNat]?) fun xu=>
 cL k v0  n (sB) (sJ) (IntKind.i64.wrap (sK+(1:Int))) (sU.set sK.toNat (xu.1,xt))
 else
 none
 else
 none
 else
 ck (decide (sB.length≤sU.length)) (
 some (List.take sB.length sU))
theorem oW (k:Nat) (v0:Tyt):∀ (n:Nat) (sB:Tyt) (sJ sK:Int) (sU:Tyt) ⦃j29:V⦄,rt none (itX (xX (xS (k+1)) 58 0 (k+1) false) H9 (2) (av (xX (xS (k+1)) 58 0 (k+1) false) (aD (xS (k+1)).P Tryz.f58) HU) n ⟨[.ro (List.map ap v0),uu,.own 0 0 0,.own 1 0 sB.length,j29,.ro (List.map ap v0),.own 1 0 sB.length,.own 1 0 sB.length,.lit (.int .i64 sJ),.lit (.int .i64 sK),.junk,.junk,.junk,.junk,.junk,.junk,.junk,.junk,.junk,.junk,.junk,.junk,.junk,uu],[.rows 0 [] 0 true,.rows 2 (List.map ap sU) 0 true]⟩)=ob (cL k v0  n sB sJ sK sU) fun r=>some ((.ro (List.map ap r)),[]):=by
 intro n
 induction n with
 | zero=>intros;rfl
 | succ n ih=>
  intro sB sJ sK sU j29
  rw [cL]
  simp -implicitDefEqProofs only [afo,acO,ac7,LK,pJ,↓syP,syA,syD,simprocAttr,syE,aj,ag,af,syW,xQ,RG,ih]
def eG (k:Nat) (v0:Tyt):Option Tyt:=
 ob (aP 32 v0) fun xe=>
 cL k v0 (k+1) xe ((↑xe.length:Int)) 0 xe
theorem fA (k:Nat) (v0:Tyt):xC (k+2) none 58 [.ro (List.map ap v0)]=ob (eG k v0) fun r=>some ((.ro (List.map ap r)),[]):=by
 rw [aO]
 unfold eG
 simp -implicitDefEqProofs only [afo,acO,ac7,LK,pJ,↓syP,syA,syD,simprocAttr,syE,aj,ag,af,syW,xQ,oW k v0]
end Go.Ab
set_option maxRecDepth 100000
set_option linter.unusedVariables false
set_option linter.unusedSimpArgs false
namespace Go.Ab
open Go.Proofs
def bS (k:Nat)   : Nat→List Int→Int→Tyt→Int→Option Int
 | 0,_,_,_,_=>none
 | n+1,s20,s21,sV,sL=>
 bif decide (sL<s21) then
 ob (idx s20 sL) fun xj=>
 bif decide (xj<(0:Int)) then
 some (sL)
 else
 bif decide ((↑sV.length:Int)≤xj) then
 some (sL)
 else
 bS k   n (s20) (s21) (sV) (IntKind.i64.wrap (sL+(1:Int)))
 else
 some ((-1:Int))
theorem nQ (k:Nat)  : ∀ (n:Nat) (s20:List Int) (s21:Int) (sV:Tyt) (sL:Int) ⦃s22 sB sJ s25:Int⦄ ⦃so:List Int⦄ ⦃sp:List Tyw⦄ ⦃sq:List Tys⦄ ⦃sK sU s32 s33 sk sl sf sR:Int⦄ ⦃j39:V⦄,itX (xX (xS (k+29)) 97 0 (k+29) false) Hj (4) (av (xX (xS (k+29)) 97 0 (k+29) false) (aD (xS (k+29)).P Tryz.f97) Hc) n ⟨[.ro (List.map (aQ IntKind.i64) s20),.fn (Fn.func (54:FuncId)) [] [.ptr 0 0 0 0],uu,uu,.lit (.int .i64 (0:Int)),j39,.ro (List.map (aQ IntKind.i64) s20),.lit (.int .i64 s21),.lit (.int .i64 sL),.junk,.junk,.junk,.junk,.junk,.junk,.junk,.junk,.junk,.junk],[.box [.lit (.int .i64 s22),.lit (.int .i64 sB),.lit (.int .i64 sJ),.lit (.int .i64 s25),.ro (List.map ap sV),.ro (List.map (aQ IntKind.u64) so),.ro (List.map aZ sp),.ro (List.map dh sq)],.box [.lit (.bool false)],.box [.lit (.int .i64 s22),.lit (.int .i64 sB),.lit (.int .i64 sJ),.lit (.int .i64 s25),.ro (List.map ap sV),.ro (List.map (aQ IntKind.u64) so),.ro (List.map aZ sp),.ro (List.map dh sq)],.box [.lit (.int .i64 sK),.ro (List.map (aQ IntKind.i64) s20),.lit (.int .i64 sU),.lit (.int .i64 s32),.lit (.int .i64 s33),.lit (.int .u64 sk),.lit (.int .u64 sl),.lit (.int .u64 sf),.lit (.int .i64 sR)]]⟩=ob (bS k   n s20 s21 sV sL) fun r=>some ((.lit (.int .i64 r),[.box [.lit (.int .i64 s22),.lit (.int .i64 sB),.lit (.int .i64 sJ),.lit (.int .i64 s25),.ro (List.map ap sV),.ro (List.map (aQ IntKind.u64) so),.ro (List.map aZ sp),.ro (List.map dh sq)],.box [.lit (.bool false)],.box [.lit (.int .i64 s22),.lit (.int .i64 sB),.lit (.int .i64 sJ),.lit (.int .i64 s25),.ro (List.map ap sV),.ro (List.map (aQ IntKind.u64) so),.ro (List.map aZ sp),.ro (List.map dh sq)],.box [.lit (.int .i64 sK),.ro (List.map (aQ IntKind.i64) s20),.lit (.int .i64 sU),.lit (.int .i64 s32),.lit (.int .i64 s33),.lit (.int .u64 sk),.lit (.int .u64 sl),.lit (.int .u64 sf),.lit (.int .i64 sR)]])):=by
 intro n
 induction n with
 | zero=>intros;rfl
 | succ n ih=>
  intro s20 s21 sV sL s22 sB sJ s25 so sp sq sK sU s32 s33 sk sl sf sR j39
  rw [bS]
  simp -implicitDefEqProofs only [abp,abb,Xz,DX,DK,Ec,dY,dV,kO,lz,oP,abu,X9,aO (g:=51),abe,XR,abr,Xt,D4,Ek,EX,DR,EG,DC,Et,DT,lE,abt,WO,Eg,lb,abm,ZK,abD,aaB,aaH,DD,C3,ln,kU,abA,aar,W8,C1,kL,abl,Yj,W6,ER,lN,↓syP,syA,syD,simprocAttr,syE,aj,ag,af,syW,xQ,Q7,ih]
def bF (k:Nat)   : Nat→List Tys→Int→Tyt→Int→Option Int
 | 0,_,_,_,_=>none
 | n+1,s9,sO,sC,sM=>
 bif decide (sM<sO) then
 ob (idx s9 sM) fun xZ=>
 bif decide (xZ.1<(0:Int)) then
 some (sM)
 else
 bif decide ((6:Int)≤xZ.1) then
 some (sM)
 else
 ob (bS k (k+29) xZ.2.1 (↑xZ.2.1.length:Int) sC (0:Int)) fun xv=>
 bif decide ((0:Int)≤xv) then
 some (sM)
 else
 bif xZ.1 !=(0:Int) then
 bif (↑xZ.2.1.length:Int)==(0:Int) then
 some (sM)
 else
 bF k   n (s9) (sO) (sC) (IntKind.i64.wrap (sM+(1:Int)))
 else
 bF k   n (s9) (sO) (sC) (IntKind.i64.wrap (sM+(1:Int)))
 else
 some ((-1:Int))
theorem nU (k:Nat)  : ∀ (n:Nat) (s9:List Tys) (sO:Int) (sC:Tyt) (sM:Int) ⦃s11 sS sP sr:Int⦄ ⦃sc:List Int⦄ ⦃sE:List Tyw⦄ ⦃j49:V⦄,itX (xX (xS (k+32)) 96 0 (k+32) false) Hx (3) (av (xX (xS (k+32)) 96 0 (k+32) false) (aD (xS (k+32)).P Tryz.f96) Hy) n ⟨[.ro (List.map dh s9),.fn (Fn.func (53:FuncId)) [] [.ptr 0 0 0 0],uu,uu,.lit (.int .i64 (0:Int)),j49,.ro (List.map dh s9),.lit (.int .i64 sO),.lit (.int .i64 sM),.junk,.junk,.junk,.junk,.junk,.junk,.junk,.junk,.junk,.junk],[.box [.lit (.int .i64 s11),.lit (.int .i64 sS),.lit (.int .i64 sP),.lit (.int .i64 sr),.ro (List.map ap sC),.ro (List.map (aQ IntKind.u64) sc),.ro (List.map aZ sE),.ro (List.map dh s9)],.box [.lit (.bool false)],.box [.lit (.int .i64 s11),.lit (.int .i64 sS),.lit (.int .i64 sP),.lit (.int .i64 sr),.ro (List.map ap sC),.ro (List.map (aQ IntKind.u64) sc),.ro (List.map aZ sE),.ro (List.map dh s9)]]⟩=ob (bF k   n s9 sO sC sM) fun r=>some ((.lit (.int .i64 r),[.box [.lit (.int .i64 s11),.lit (.int .i64 sS),.lit (.int .i64 sP),.lit (.int .i64 sr),.ro (List.map ap sC),.ro (List.map (aQ IntKind.u64) sc),.ro (List.map aZ sE),.ro (List.map dh s9)],.box [.lit (.bool false)],.box [.lit (.int .i64 s11),.lit (.int .i64 sS),.lit (.int .i64 sP),.lit (.int .i64 sr),.ro (List.map ap sC),.ro (List.map (aQ IntKind.u64) sc),.ro (List.map aZ sE),.ro (List.map dh s9)]])):=by
 intro n
 induction n with
 | zero=>intros;rfl
 | succ n ih=>
  intro s9 sO sC sM s11 sS sP sr sc sE j49
  rw [bF]
  simp -implicitDefEqProofs only [abp,abb,Xz,DX,DK,Ec,dY,dV,kO,lz,oP,abu,X9,aO (g:=51),abe,XR,abr,Xt,D4,Ek,EX,DR,EG,DC,Et,DT,lE,abt,WO,Eg,lb,abm,ZK,abD,aaB,aaH,DD,C3,ln,kU,abA,aar,W8,C1,kL,abl,Yj,W6,ER,lN,↓syP,syA,syD,simprocAttr,syE,aj,ag,af,syW,xQ,nQ,Rj,ih]
def dN (k:Nat) (v0:Typ)  : Nat→Int→Option Bool
 | 0,_=>none
 | n+1,s67=>
 bif decide (s67<(↑v0.2.2.2.1.length:Int)) then
 ob (idx v0.2.2.2.1 s67) fun xT=>
 ob (iu (k+9) (v0.1.1,v0.1.2.1,v0.1.2.2.1,v0.1.2.2.2) v0.2.1 v0.2.2.1 s67 (xT.1,xT.2.1,(xT.2.2.1.1,xT.2.2.1.2.1,xT.2.2.1.2.2.1,xT.2.2.1.2.2.2.1,xT.2.2.1.2.2.2.2.1,xT.2.2.1.2.2.2.2.2.1,xT.2.2.1.2.2.2.2.2.2),xT.2.2.2.1,xT.2.2.2.2)) fun xf=>
 bif !xf then
 some (false)
 else
 dN k v0  n (IntKind.i64.wrap (s67+(1:Int)))
 else
 ob (bF k (k+32) v0.2.2.2.2 (↑v0.2.2.2.2.length:Int) v0.2.1 (0:Int)) fun xg=>
 some (!decide ((0:Int)≤xg))
theorem rJ (k:Nat) (v0_0_0 v0_0_1 v0_0_2 v0_0_3:Int) (v0_1:Tyt) (v0_2:List Int) (v0_3:List Tyw) (v0_4:List Tys):∀ (n:Nat) (s67:Int) ⦃s3 s4:Bool⦄ ⦃j65 j66:V⦄,rt none (bq (itX (xX (xS (k+33)) 94 0 (k+33) false) rC (4) (av (xX (xS (k+33)) 94 0 (k+33) false) (aD (xS (k+33)).P Tryz.f94) Iw) n ⟨[.yld 3,.ptr 2 0 0 0,uu,j65,j66,.ptr 2 0 0 6,.ro (List.map aZ v0_3),.lit (.int .i64 (↑v0_3.length:Int)),.lit (.int .i64 s67),.junk,.junk,.junk,.junk,.junk,.junk,.junk,.junk,.junk,.junk,.junk,.junk,.junk,.junk,.junk,.junk,.junk,.junk,.junk,.junk,.junk],[.box [.lit (.int .i64 v0_0_0),.lit (.int .i64 v0_0_1),.lit (.int .i64 v0_0_2),.lit (.int .i64 v0_0_3),.ro (List.map ap v0_1),.ro (List.map (aQ IntKind.u64) v0_2),.ro (List.map aZ v0_3),.ro (List.map dh v0_4)],.box [.lit (.bool false)],.box [.lit (.int .i64 v0_0_0),.lit (.int .i64 v0_0_1),.lit (.int .i64 v0_0_2),.lit (.int .i64 v0_0_3),.ro (List.map ap v0_1),.ro (List.map (aQ IntKind.u64) v0_2),.ro (List.map aZ v0_3),.ro (List.map dh v0_4)],(.loop ⟨LoopState.ready,none,20,[.agg [.lit (.int .i64 v0_0_0),.lit (.int .i64 v0_0_1),.lit (.int .i64 v0_0_2),.lit (.int .i64 v0_0_3),.ro (List.map ap v0_1),.ro (List.map (aQ IntKind.u64) v0_2),.ro (List.map aZ v0_3),.ro (List.map dh v0_4)],.ptr 0 0 0 0,.ptr 1 0 0 0,.ptr 0 0 0 0,.agg [.lit (.int .i64 v0_0_0),.lit (.int .i64 v0_0_1),.lit (.int .i64 v0_0_2),.lit (.int .i64 v0_0_3)],.lit (.bool s3),.lit (.bool s4),.lit (.bool false),.ptr 0 0 0 6,.ro (List.map aZ v0_3),.lit (.int .i64 (↑v0_3.length:Int)),.ptr 0 0 0 0,.ptr 0 0 0 0,.lit (.int .i64 v0_0_0),.lit (.bool ((↑v0_3.length:Int)!=v0_0_0)),.lit (.bool ((↑v0_3.length:Int)!=v0_0_0)),.lit (.bool false),.ptr 0 0 0 7,.ro (List.map dh v0_4),.lit (.int .i64 (↑v0_4.length:Int)),.lit (.bool (decide ((3:Int)<(↑v0_4.length:Int)))),.lit (.bool (decide ((3:Int)<(↑v0_4.length:Int)))),.agg [.lit (.int .i64 v0_0_0),.lit (.int .i64 v0_0_1),.lit (.int .i64 v0_0_2),.lit (.int .i64 v0_0_3),.ro (List.map ap v0_1),.ro (List.map (aQ IntKind.u64) v0_2),.ro (List.map aZ v0_3),.ro (List.map dh v0_4)],.fn (Fn.func (94:FuncId)) [] [.ptr 2 0 0 0],uu,uu,uu,uu,uu,uu],[(24:Tmp)],Lb,Ln⟩)]⟩) (rfK (av (xX (xS (k+34)) 20 0 (k+34) false) (aD (xS (k+34)).P Tryz.f20) H0) [.agg [.lit (.int .i64 v0_0_0),.lit (.int .i64 v0_0_1),.lit (.int .i64 v0_0_2),.lit (.int .i64 v0_0_3),.ro (List.map ap v0_1),.ro (List.map (aQ IntKind.u64) v0_2),.ro (List.map aZ v0_3),.ro (List.map dh v0_4)],.ptr 0 0 0 0,.ptr 1 0 0 0,.ptr 0 0 0 0,.agg [.lit (.int .i64 v0_0_0),.lit (.int .i64 v0_0_1),.lit (.int .i64 v0_0_2),.lit (.int .i64 v0_0_3)],.lit (.bool s3),.lit (.bool s4),.lit (.bool false),.ptr 0 0 0 6,.ro (List.map aZ v0_3),.lit (.int .i64 (↑v0_3.length:Int)),.ptr 0 0 0 0,.ptr 0 0 0 0,.lit (.int .i64 v0_0_0),.lit (.bool ((↑v0_3.length:Int)!=v0_0_0)),.lit (.bool ((↑v0_3.length:Int)!=v0_0_0)),.lit (.bool false),.ptr 0 0 0 7,.ro (List.map dh v0_4),.lit (.int .i64 (↑v0_4.length:Int)),.lit (.bool (decide ((3:Int)<(↑v0_4.length:Int)))),.lit (.bool (decide ((3:Int)<(↑v0_4.length:Int)))),.agg [.lit (.int .i64 v0_0_0),.lit (.int .i64 v0_0_1),.lit (.int .i64 v0_0_2),.lit (.int .i64 v0_0_3),.ro (List.map ap v0_1),.ro (List.map (aQ IntKind.u64) v0_2),.ro (List.map aZ v0_3),.ro (List.map dh v0_4)],.fn (Fn.func (94:FuncId)) [] [.ptr 2 0 0 0],uu,uu,uu,uu,uu,uu] (3)))=ob (dN k ((v0_0_0,v0_0_1,v0_0_2,v0_0_3),v0_1,v0_2,v0_3,v0_4)  n s67) fun r=>some ((.lit (.bool r)),[]):=by
 intro n
 induction n with
 | zero=>intros;rfl
 | succ n ih=>
  intro s67 s3 s4 j65 j66
  rw [dN]
  simp -implicitDefEqProofs only [abp,abb,Xz,DX,DK,Ec,dY,dV,kO,lz,oP,abu,X9,aO (g:=51),abe,XR,abr,Xt,D4,Ek,EX,DR,EG,DC,Et,DT,lE,abt,WO,Eg,lb,abm,ZK,abD,aaB,aaH,DD,C3,ln,kU,abA,aar,W8,C1,kL,abl,Yj,W6,ER,lN,↓syP,syA,syD,simprocAttr,syE,aj,ag,af,syW,xQ,bX,A3,nU,Rx,ih]
def lH (k:Nat) (v0:Typ):Option Bool:=
 ob (bO v0.1) fun xU=>
 bif !xU then
 some false
 else
 bif (↑v0.2.2.2.1.length:Int)!=v0.1.1 then
 some false
 else
 bif decide (3<(↑v0.2.2.2.2.length:Int)) then
 some false
 else
 dN k v0 (k+33) 0
theorem AI (k:Nat) (v0_0_0 v0_0_1 v0_0_2 v0_0_3:Int) (v0_1:Tyt) (v0_2:List Int) (v0_3:List Tyw) (v0_4:List Tys):xC (k+35) none 20 [.agg [.lit (.int .i64 v0_0_0),.lit (.int .i64 v0_0_1),.lit (.int .i64 v0_0_2),.lit (.int .i64 v0_0_3),.ro (List.map ap v0_1),.ro (List.map (aQ .u64) v0_2),.ro (List.map aZ v0_3),.ro (List.map dh v0_4)]]=ob (lH k ((v0_0_0,v0_0_1,v0_0_2,v0_0_3),v0_1,v0_2,v0_3,v0_4)) fun r=>some ((.lit (.bool r)),[]):=by
 rw [aO]
 unfold lH
 simp -implicitDefEqProofs only [abp,abb,Xz,DX,DK,Ec,dY,dV,kO,lz,oP,abu,X9,aO (g:=51),abe,XR,abr,Xt,D4,Ek,EX,DR,EG,DC,Et,DT,lE,abt,WO,Eg,lb,abm,ZK,abD,aaB,aaH,DD,C3,ln,kU,abA,aar,W8,C1,kL,abl,Yj,W6,ER,lN,↓syP,syA,syD,simprocAttr,syE,aj,ag,af,syW,xQ,bX,rJ k v0_0_0 v0_0_1 v0_0_2 v0_0_3 v0_1 v0_2 v0_3 v0_4]
end Go.Ab
set_option maxRecDepth 100000
set_option linter.unusedVariables false
set_option linter.unusedSimpArgs false
namespace Go.Ab
open Go.Proofs
def cp (k:Nat)   : Nat→Int→Int→Int→Int→Tyt→List Int→List Tyw→List Tys→Int→List Tyw→Int→List Tys→Option (Int×Int×Int×Int×Tyt×List Int×List Tyw×List Tys×List Tyw×List Tys)
 | 0,_,_,_,_,_,_,_,_,_,_,_,_=>none
 | n+1,sV,so,sp,sq,sk,sl,sf,sR,sd,s47,ss,sM=>
 bif decide (ss<sd) then
 bif decide ((0:Int)≤ss∧ss.toNat<sR.length) then
 ob (sM[ss.toNat]?) fun xf=>
 ob (aP 8 xf.2.1) fun xg=>
 bif decide ((0:Int)≤ss∧ss.toNat<sR.length) then
 ob (sM[ss.toNat]?) fun xU=>
 cp k   n (sV) (so) (sp) (sq) (sk) (sl) (sf) (sR) (sd) (s47) (IntKind.i64.wrap (ss+(1:Int))) (sM.set ss.toNat (xU.1,xg,xU.2.2.1,xU.2.2.2.1,xU.2.2.2.2.1,xU.2.2.2.2.2.1,xU.2.2.2.2.2.2.1,xU.2.2.2.2.2.2.2.1,xU.2.2.2.2.2.2.2.2))
 else
 none
 else
 none
 else
 some (sV,so,sp,sq,sk,sl,sf,sR,s47,sM)
theorem nG (k:Nat)  : ∀ (n:Nat) (sV so sp sq:Int) (sk:Tyt) (sl:List Int) (sf:List Tyw) (sR:List Tys) (sd:Int) (s47:List Tyw) (ss:Int) (sM:List Tys) ⦃sK:Tyt⦄ ⦃sU:List Int⦄ ⦃s32:List Tyw⦄ ⦃s33:List Tys⦄ ⦃st:Int⦄ ⦃j46 j48:V⦄,itX (xX (xS (k+61)) 41 0 (k+61) false) Ib (8) (av (xX (xS (k+61)) 41 0 (k+61) false) (aD (xS (k+61)).P Tryz.f41) HI) n ⟨[.agg [.lit (.int .i64 sV),.lit (.int .i64 so),.lit (.int .i64 sp),.lit (.int .i64 sq),.ro (List.map ap sK),.ro (List.map (aQ IntKind.u64) sU),.ro (List.map aZ s32),.ro (List.map dh s33)],.ptr 0 0 0 0,.ptr 5 0 0 0,j46,j48,.ptr 0 0 0 4,.ro (List.map ap sK),.ro (List.map ap sk),.ptr 0 0 0 5,.ro (List.map (aQ IntKind.u64) sU),.ro (List.map (aQ IntKind.u64) sl),.ptr 0 0 0 4,.ptr 0 0 0 5,.ptr 0 0 0 6,.ro (List.map aZ s32),.own 6 0 sf.length,.ptr 0 0 0 7,.ro (List.map dh s33),.own 7 0 sR.length,.ptr 0 0 0 6,.ptr 0 0 0 7,.ptr 0 0 0 6,.own 6 0 sf.length,.lit (.int .i64 st),.junk,.junk,.junk,.junk,.junk,.junk,.junk,.junk,.junk,.junk,.junk,.junk,.junk,.junk,.junk,.junk,.ptr 0 0 0 7,.own 7 0 sR.length,.lit (.int .i64 sd),.lit (.int .i64 ss),.junk,.junk,.junk,.junk,.junk,.junk,.junk,.junk,.junk,.junk,.junk,.junk,.junk,.junk,.junk,uu],[.box [.lit (.int .i64 sV),.lit (.int .i64 so),.lit (.int .i64 sp),.lit (.int .i64 sq),.ro (List.map ap sk),.ro (List.map (aQ IntKind.u64) sl),.own 6 0 sf.length,.own 7 0 sR.length],.rows 0 [] 0 true,.rows 0 [] 0 true,.rows 0 [] 0 true,.rows 0 [] 0 true,.box [.lit (.int .i64 (0:Int)),.lit (.int .i64 (0:Int)),.lit (.int .i64 (0:Int)),.lit (.int .i64 (0:Int)),.own 1 0 0,.own 2 0 0,.own 3 0 0,.own 4 0 0],.rows 11 (List.map aZ s47) 0 true,.rows 9 (List.map dh sM) 0 true]⟩=ob (cp k   n sV so sp sq sk sl sf sR sd s47 ss sM) fun r=>some ((.agg [.lit (.int .i64 r.1),.lit (.int .i64 r.2.1),.lit (.int .i64 r.2.2.1),.lit (.int .i64 r.2.2.2.1),.ro (List.map ap r.2.2.2.2.1),.ro (List.map (aQ IntKind.u64) r.2.2.2.2.2.1),.own 6 0 r.2.2.2.2.2.2.1.length,.own 7 0 r.2.2.2.2.2.2.2.1.length],[.box [.lit (.int .i64 r.1),.lit (.int .i64 r.2.1),.lit (.int .i64 r.2.2.1),.lit (.int .i64 r.2.2.2.1),.ro (List.map ap r.2.2.2.2.1),.ro (List.map (aQ IntKind.u64) r.2.2.2.2.2.1),.own 6 0 r.2.2.2.2.2.2.1.length,.own 7 0 r.2.2.2.2.2.2.2.1.length],.rows 0 [] 0 true,.rows 0 [] 0 true,.rows 0 [] 0 true,.rows 0 [] 0 true,.box [.lit (.int .i64 r.1),.lit (.int .i64 r.2.1),.lit (.int .i64 r.2.2.1),.lit (.int .i64 r.2.2.2.1),.ro (List.map ap r.2.2.2.2.1),.ro (List.map (aQ IntKind.u64) r.2.2.2.2.2.1),.own 6 0 r.2.2.2.2.2.2.1.length,.own 7 0 r.2.2.2.2.2.2.2.1.length],.rows 11 (List.map aZ r.2.2.2.2.2.2.2.2.1) 0 true,.rows 9 (List.map dh r.2.2.2.2.2.2.2.2.2) 0 true])):=by
 intro n
 induction n with
 | zero=>intros;rfl
 | succ n ih=>
  intro sV so sp sq sk sl sf sR sd s47 ss sM sK sU s32 s33 st j46 j48
  rw [cp]
  simp -implicitDefEqProofs only [abh,X4,Zy,D5,kQ,abE,ZJ,aaN,EN,Dc,kW,lA,aO (g:=41),abf,Zu,De,lJ,abB,aac,abi,aaf,aby,XC,↓syP,syA,syD,simprocAttr,syE,aj,ag,af,syW,xQ,RZ,ih]
def cj (k:Nat)   : Nat→Int→Int→Int→Int→Tyt→List Int→List Tyw→List Tys→Int→Int→List Tyw→Option (Int×Int×Int×Int×Tyt×List Int×List Tyw×List Tys×List Tyw×List Tys)
 | 0,_,_,_,_,_,_,_,_,_,_,_=>none
 | n+1,s6,s7,s8,s9,sr,sC,sc,sE,s18,sB,sJ=>
 bif decide (sB<s18) then
 bif decide ((0:Int)≤sB∧sB.toNat<sc.length) then
 ob (sJ[sB.toNat]?) fun xw=>
 ob (aP 24 xw.2.1) fun xx=>
 bif decide ((0:Int)≤sB∧sB.toNat<sc.length) then
 ob (sJ[sB.toNat]?) fun xV=>
 cj k   n (s6) (s7) (s8) (s9) (sr) (sC) (sc) (sE) (s18) (IntKind.i64.wrap (sB+(1:Int))) (sJ.set sB.toNat (xV.1,xx,(xV.2.2.1.1,xV.2.2.1.2.1,xV.2.2.1.2.2.1,xV.2.2.1.2.2.2.1,xV.2.2.1.2.2.2.2.1,xV.2.2.1.2.2.2.2.2.1,xV.2.2.1.2.2.2.2.2.2),xV.2.2.2.1,xV.2.2.2.2))
 else
 none
 else
 none
 else
 cp k  (k+61) (s6) (s7) (s8) (s9) (sr) (sC) (sc) (sE) ((↑sE.length:Int)) (sJ) ((0:Int)) (sE)
theorem iO (k:Nat)  : ∀ (n:Nat) (s6 s7 s8 s9:Int) (sr:Tyt) (sC:List Int) (sc:List Tyw) (sE:List Tys) (s18 sB:Int) (sJ:List Tyw) ⦃sO:Tyt⦄ ⦃s11:List Int⦄ ⦃sS:List Tyw⦄ ⦃sP:List Tys⦄ ⦃j22:V⦄,itX (xX (xS (k+61)) 41 0 (k+61) false) HW (8) (av (xX (xS (k+61)) 41 0 (k+61) false) (aD (xS (k+61)).P Tryz.f41) GX) n ⟨[.agg [.lit (.int .i64 s6),.lit (.int .i64 s7),.lit (.int .i64 s8),.lit (.int .i64 s9),.ro (List.map ap sO),.ro (List.map (aQ IntKind.u64) s11),.ro (List.map aZ sS),.ro (List.map dh sP)],.ptr 0 0 0 0,.ptr 5 0 0 0,j22,uu,.ptr 0 0 0 4,.ro (List.map ap sO),.ro (List.map ap sr),.ptr 0 0 0 5,.ro (List.map (aQ IntKind.u64) s11),.ro (List.map (aQ IntKind.u64) sC),.ptr 0 0 0 4,.ptr 0 0 0 5,.ptr 0 0 0 6,.ro (List.map aZ sS),.own 6 0 sc.length,.ptr 0 0 0 7,.ro (List.map dh sP),.own 7 0 sE.length,.ptr 0 0 0 6,.ptr 0 0 0 7,.ptr 0 0 0 6,.own 6 0 sc.length,.lit (.int .i64 s18),.lit (.int .i64 sB),.junk,.junk,.junk,.junk,.junk,.junk,.junk,.junk,.junk,.junk,.junk,.junk,.junk,.junk,.junk,uu,uu,uu,uu,uu,uu,uu,uu,uu,uu,uu,uu,uu,uu,uu,uu,uu,uu,uu,uu],[.box [.lit (.int .i64 s6),.lit (.int .i64 s7),.lit (.int .i64 s8),.lit (.int .i64 s9),.ro (List.map ap sr),.ro (List.map (aQ IntKind.u64) sC),.own 6 0 sc.length,.own 7 0 sE.length],.rows 0 [] 0 true,.rows 0 [] 0 true,.rows 0 [] 0 true,.rows 0 [] 0 true,.box [.lit (.int .i64 (0:Int)),.lit (.int .i64 (0:Int)),.lit (.int .i64 (0:Int)),.lit (.int .i64 (0:Int)),.own 1 0 0,.own 2 0 0,.own 3 0 0,.own 4 0 0],.rows 11 (List.map aZ sJ) 0 true,.rows 9 (List.map dh sE) 0 true]⟩=ob (cj k   n s6 s7 s8 s9 sr sC sc sE s18 sB sJ) fun r=>some ((.agg [.lit (.int .i64 r.1),.lit (.int .i64 r.2.1),.lit (.int .i64 r.2.2.1),.lit (.int .i64 r.2.2.2.1),.ro (List.map ap r.2.2.2.2.1),.ro (List.map (aQ IntKind.u64) r.2.2.2.2.2.1),.own 6 0 r.2.2.2.2.2.2.1.length,.own 7 0 r.2.2.2.2.2.2.2.1.length],[.box [.lit (.int .i64 r.1),.lit (.int .i64 r.2.1),.lit (.int .i64 r.2.2.1),.lit (.int .i64 r.2.2.2.1),.ro (List.map ap r.2.2.2.2.1),.ro (List.map (aQ IntKind.u64) r.2.2.2.2.2.1),.own 6 0 r.2.2.2.2.2.2.1.length,.own 7 0 r.2.2.2.2.2.2.2.1.length],.rows 0 [] 0 true,.rows 0 [] 0 true,.rows 0 [] 0 true,.rows 0 [] 0 true,.box [.lit (.int .i64 r.1),.lit (.int .i64 r.2.1),.lit (.int .i64 r.2.2.1),.lit (.int .i64 r.2.2.2.1),.ro (List.map ap r.2.2.2.2.1),.ro (List.map (aQ IntKind.u64) r.2.2.2.2.2.1),.own 6 0 r.2.2.2.2.2.2.1.length,.own 7 0 r.2.2.2.2.2.2.2.1.length],.rows 11 (List.map aZ r.2.2.2.2.2.2.2.2.1) 0 true,.rows 9 (List.map dh r.2.2.2.2.2.2.2.2.2) 0 true])):=by
 intro n
 induction n with
 | zero=>intros;rfl
 | succ n ih=>
  intro s6 s7 s8 s9 sr sC sc sE s18 sB sJ sO s11 sS sP j22
  rw [cj]
  simp -implicitDefEqProofs only [abh,X4,Zy,D5,kQ,abE,ZJ,aaN,EN,Dc,kW,lA,aO (g:=41),abf,Zu,De,lJ,abB,aac,abi,aaf,aby,XC,↓syP,syA,syD,simprocAttr,syE,aj,ag,af,syW,xQ,RV,ih,nG k ]
def bz (k:Nat) (v0:Typ) (v1:Tye)  : Nat→Int→Int→Int→Int→Tyt→List Tyw→List Tys→List Tyw→List Tys→Tye→Int→List Int→Nat→Option (Typ×Tye)
 | 0,_,_,_,_,_,_,_,_,_,_,_,_,_=>none
 | n+1,sF,sG,sH,sI,sg,sh,se,sm,si,sA,sY,sZ,sN=>
 bif decide (sY<(↑v1.length:Int)) then
 ob (idx v1 sY) fun xD=>
 ob (iZ (xD.1,xD.2.1,xD.2.2) v0.1.1 (↑v0.2.2.2.2.length:Int)) fun xk=>
 bif xk then
 bif xD.1==(0:Int) then
 bif decide ((0:Int)≤xD.2.1∧xD.2.1.toNat<sh.length) then
 ob (sm[xD.2.1.toNat]?) fun xL=>
 ob (iG k (sF,sG,sH,sI) sg sZ xD.2.1 (xL.1,xL.2.1,(xL.2.2.1.1,xL.2.2.1.2.1,xL.2.2.1.2.2.1,xL.2.2.1.2.2.2.1,xL.2.2.1.2.2.2.2.1,xL.2.2.1.2.2.2.2.2.1,xL.2.2.1.2.2.2.2.2.2),xL.2.2.2.1,xL.2.2.2.2) xD.2.2) fun xI=>
 bif decide ((0:Int)≤xD.2.1∧xD.2.1.toNat<sh.length) then
 ob (sm[xD.2.1.toNat]?) fun xE=>
 ck (sN==3||sN==0) (
 bif room (sA++xI.2.2).length 24 then
 bz k v0 v1  n (sF) (sG) (sH) (sI) (sg) (sh) (se) (sm.set xD.2.1.toNat (xI.2.1.1,xI.2.1.2.1,(xI.2.1.2.2.1.1,xI.2.1.2.2.1.2.1,xI.2.1.2.2.1.2.2.1,xI.2.1.2.2.1.2.2.2.1,xI.2.1.2.2.1.2.2.2.2.1,xI.2.1.2.2.1.2.2.2.2.2.1,xI.2.1.2.2.1.2.2.2.2.2.2),xI.2.1.2.2.2.1,xI.2.1.2.2.2.2)) (si) (sA++xI.2.2) (IntKind.i64.wrap (sY+(1:Int))) (xI.1) (3)
 else
 none)
 else
 none
 else
 none
 else
 bif xD.1==(1:Int) then
 bif decide ((0:Int)≤xD.2.1∧xD.2.1.toNat<se.length) then
 ob (si[xD.2.1.toNat]?) fun xO=>
 ob (fx (k+36) (sF,sG,sH,sI) sg sZ (xO.1,xO.2.1,xO.2.2.1,xO.2.2.2.1,xO.2.2.2.2.1,xO.2.2.2.2.2.1,xO.2.2.2.2.2.2.1,xO.2.2.2.2.2.2.2.1,xO.2.2.2.2.2.2.2.2)) fun xa=>
 bif xa then
 bif decide ((0:Int)≤xD.2.1∧xD.2.1.toNat<se.length) then
 ob (si[xD.2.1.toNat]?) fun xP=>
 ob (fG (k+20) (sF,sG,sH,sI) sg sZ xD.2.1 (xP.1,xP.2.1,xP.2.2.1,xP.2.2.2.1,xP.2.2.2.2.1,xP.2.2.2.2.2.1,xP.2.2.2.2.2.2.1,xP.2.2.2.2.2.2.2.1,xP.2.2.2.2.2.2.2.2)) fun xJ=>
 bif decide ((0:Int)≤xD.2.1∧xD.2.1.toNat<se.length) then
 ob (si[xD.2.1.toNat]?) fun xz=>
 ck (sN==3||sN==0) (
 bif room (sA++xJ.2.2).length 24 then
 bz k v0 v1  n (sF) (sG) (sH) (sI) (sg) (sh) (se) (sm) (si.set xD.2.1.toNat (xJ.2.1.1,xJ.2.1.2.1,xJ.2.1.2.2.1,xJ.2.1.2.2.2.1,xJ.2.1.2.2.2.2.1,xJ.2.1.2.2.2.2.2.1,xJ.2.1.2.2.2.2.2.2.1,xJ.2.1.2.2.2.2.2.2.2.1,xJ.2.1.2.2.2.2.2.2.2.2)) (sA++xJ.2.2) (IntKind.i64.wrap (sY+(1:Int))) (xJ.1) (3)
 else
 none)
 else
 none
 else
 none
 else
 ck (sN==3||sN==0) (
 bif room sA.length 24 then
 bz k v0 v1  n (sF) (sG) (sH) (sI) (sg) (sh) (se) (sm) (si) (sA) (IntKind.i64.wrap (sY+(1:Int))) (sZ) (3)
 else
 none)
 else
 none
 else
 bif xD.1==(2:Int) then
 ob (br sZ (3:Int) (1:Int)) fun xb=>
 ck (sN==3||sN==0) (
 bif room sA.length 24 then
 bz k v0 v1  n (sF) (sG) (sH) (sI) (sg) (sh) (se) (sm) (si) (sA) (IntKind.i64.wrap (sY+(1:Int))) (xb) (3)
 else
 none)
 else
 ck (sN==3||sN==0) (
 bif room sA.length 24 then
 bz k v0 v1  n (sF) (sG) (sH) (sI) (sg) (sh) (se) (sm) (si) (sA) (IntKind.i64.wrap (sY+(1:Int))) (sZ) (3)
 else
 none)
 else
 bz k v0 v1  n (sF) (sG) (sH) (sI) (sg) (sh) (se) (sm) (si) (sA) (IntKind.i64.wrap (sY+(1:Int))) (sZ) (sN)
 else
 ck (decide (sh.length≤sm.length)) (
 ck (decide (se.length≤si.length)) (
 some ((((sF),(sG),(sH),(sI)),(sg),(sZ),(List.take sh.length sm),(List.take se.length si)),(sA))))
theorem mi (k:Nat) (v0_0_0 v0_0_1 v0_0_2 v0_0_3:Int) (v0_1:Tyt) (v0_2:List Int) (v0_3:List Tyw) (v0_4:List Tys) (v1:Tye):∀ (n:Nat) (sF sG sH sI:Int) (sg:Tyt) (sh:List Tyw) (se:List Tys) (sm:List Tyw) (si:List Tys) (sA:Tye) (sY:Int) (sZ:List Int) (sN:Nat) ⦃s91:List Int⦄ ⦃s94 s95:Bool⦄ ⦃sD:Nat⦄ ⦃j117:V⦄,rt none (itX (xX (xS (k+62)) 17 0 (k+62) false) C0 (15) (av (xX (xS (k+62)) 17 0 (k+62) false) (aD (xS (k+62)).P Tryz.f17) Ic) n ⟨[.agg [.lit (.int .i64 v0_0_0),.lit (.int .i64 v0_0_1),.lit (.int .i64 v0_0_2),.lit (.int .i64 v0_0_3),.ro (List.map ap v0_1),.ro (List.map (aQ IntKind.u64) v0_2),.ro (List.map aZ v0_3),.ro (List.map dh v0_4)],.ro (List.map ga v1),.ptr 0 0 0 0,uu,.ptr 5 0 0 0,.own 6 0 0,.ptr 13 0 0 0,.own 14 sD sA.length,uu,j117,.agg [.lit (.int .i64 v0_0_0),.lit (.int .i64 v0_0_1),.lit (.int .i64 v0_0_2),.lit (.int .i64 v0_0_3),.ro (List.map ap v0_1),.ro (List.map (aQ IntKind.u64) v0_2),.ro (List.map aZ v0_3),.ro (List.map dh v0_4)],.agg [.lit (.int .i64 sF),.lit (.int .i64 sG),.lit (.int .i64 sH),.lit (.int .i64 sI),.ro (List.map ap sg),.ro (List.map (aQ IntKind.u64) s91),.own 7 0 sh.length,.own 8 0 se.length],.agg [.lit (.int .i64 v0_0_0),.lit (.int .i64 v0_0_1),.lit (.int .i64 v0_0_2),.lit (.int .i64 v0_0_3),.ro (List.map ap v0_1),.ro (List.map (aQ IntKind.u64) v0_2),.ro (List.map aZ v0_3),.ro (List.map dh v0_4)],.lit (.bool s94),.lit (.bool s95),uu,.ro (List.map ga v1),.lit (.int .i64 (↑v1.length:Int)),.lit (.int .i64 sY),.junk,.junk,.junk,.junk,.junk,.junk,.junk,.junk,.junk,.junk,.junk,.junk,.junk,.junk,.junk,.junk,uu,uu],[.box [.lit (.int .i64 v0_0_0),.lit (.int .i64 v0_0_1),.lit (.int .i64 v0_0_2),.lit (.int .i64 v0_0_3),.ro (List.map ap v0_1),.ro (List.map (aQ IntKind.u64) v0_2),.ro (List.map aZ v0_3),.ro (List.map dh v0_4)],.rows 0 [] 0 true,.rows 0 [] 0 true,.rows 0 [] 0 true,.rows 0 [] 0 true,.box [.lit (.int .i64 (0:Int)),.lit (.int .i64 (0:Int)),.lit (.int .i64 (0:Int)),.lit (.int .i64 (0:Int)),.own 1 0 0,.own 2 0 0,.own 3 0 0,.own 4 0 0],.rows 0 [] 0 true,.rows 11 (List.map aZ sm) 0 true,.rows 9 (List.map dh si) 0 true,.rows 0 [] 0 true,.rows 0 [] 0 true,.rows 0 [] 0 true,.rows 0 [] 0 true,.box [.lit (.int .i64 sF),.lit (.int .i64 sG),.lit (.int .i64 sH),.lit (.int .i64 sI),.ro (List.map ap sg),.ro (List.map (aQ IntKind.u64) sZ),.own 7 0 sh.length,.own 8 0 se.length],.rows sN (List.map a8 sA) sD true]⟩)=ob (bz k ((v0_0_0,v0_0_1,v0_0_2,v0_0_3),v0_1,v0_2,v0_3,v0_4) v1  n sF sG sH sI sg sh se sm si sA sY sZ sN) fun r=>some ((.tup [.agg [.lit (.int .i64 r.1.1.1),.lit (.int .i64 r.1.1.2.1),.lit (.int .i64 r.1.1.2.2.1),.lit (.int .i64 r.1.1.2.2.2),.ro (List.map ap r.1.2.1),.ro (List.map (aQ .u64) r.1.2.2.1),.ro (List.map aZ r.1.2.2.2.1),.ro (List.map dh r.1.2.2.2.2)],.ro (List.map a8 r.2)]),[]):=by
 intro n
 induction n with
 | zero=>intros;rfl
 | succ n ih=>
  intro sF sG sH sI sg sh se sm si sA sY sZ sN s91 s94 s95 sD j117
  rw [bz]
  simp -implicitDefEqProofs only [abh,X4,Zy,D5,kQ,abE,ZJ,aaN,EN,Dc,kW,lA,aO (g:=41),abf,Zu,De,lJ,abB,aac,abi,aaf,aby,XC,↓syP,syA,syD,simprocAttr,syE,aj,ag,af,syW,xQ,eH,ry,B6,F3,fA,AI,F4,iO,So,ih]
def fD (k:Nat) (v0:Typ) (v1:Tye):Option (Typ×Tye):=
 ob (eG (k+59) v0.2.1) fun xN=>
 ob (aP 8 v0.2.2.1) fun xH=>
 ob (aP 104 v0.2.2.2.1) fun xW=>
 ob (aP 88 v0.2.2.2.2) fun xc=>
 ob (cj k (k+61) v0.1.1 v0.1.2.1 v0.1.2.2.1 v0.1.2.2.2 xN xH xW xc (↑xW.length:Int) 0 xW) fun xB=>
 ck (decide (xB.2.2.2.2.2.2.1.length≤xB.2.2.2.2.2.2.2.2.1.length)) (
 ck (decide (xB.2.2.2.2.2.2.2.1.length≤xB.2.2.2.2.2.2.2.2.2.length)) (
 ob (lH (k+27) v0) fun xd=>
 bif !xd then
 ck (decide (xB.2.2.2.2.2.2.1.length≤(List.take xB.2.2.2.2.2.2.1.length xB.2.2.2.2.2.2.2.2.1).length)) (
 ck (decide (xB.2.2.2.2.2.2.2.1.length≤(List.take xB.2.2.2.2.2.2.2.1.length xB.2.2.2.2.2.2.2.2.2).length)) (
 some (((xB.1,xB.2.1,xB.2.2.1,xB.2.2.2.1),xB.2.2.2.2.1,xB.2.2.2.2.2.1,(List.take xB.2.2.2.2.2.2.1.length (List.take xB.2.2.2.2.2.2.1.length xB.2.2.2.2.2.2.2.2.1)),(List.take xB.2.2.2.2.2.2.2.1.length (List.take xB.2.2.2.2.2.2.2.1.length xB.2.2.2.2.2.2.2.2.2))),[])))
 else
 bz k v0 v1 (k+62) xB.1 xB.2.1 xB.2.2.1 xB.2.2.2.1 xB.2.2.2.2.1 xB.2.2.2.2.2.2.1 xB.2.2.2.2.2.2.2.1 (List.take xB.2.2.2.2.2.2.1.length xB.2.2.2.2.2.2.2.2.1) (List.take xB.2.2.2.2.2.2.2.1.length xB.2.2.2.2.2.2.2.2.2) ([]) 0 xB.2.2.2.2.2.1 0))
theorem kY (k:Nat) (v0_0_0 v0_0_1 v0_0_2 v0_0_3:Int) (v0_1:Tyt) (v0_2:List Int) (v0_3:List Tyw) (v0_4:List Tys) (v1:Tye):xC (k+63) none 17 [.agg [.lit (.int .i64 v0_0_0),.lit (.int .i64 v0_0_1),.lit (.int .i64 v0_0_2),.lit (.int .i64 v0_0_3),.ro (List.map ap v0_1),.ro (List.map (aQ .u64) v0_2),.ro (List.map aZ v0_3),.ro (List.map dh v0_4)],.ro (List.map ga v1)]=ob (fD k ((v0_0_0,v0_0_1,v0_0_2,v0_0_3),v0_1,v0_2,v0_3,v0_4) v1) fun r=>some ((.tup [.agg [.lit (.int .i64 r.1.1.1),.lit (.int .i64 r.1.1.2.1),.lit (.int .i64 r.1.1.2.2.1),.lit (.int .i64 r.1.1.2.2.2),.ro (List.map ap r.1.2.1),.ro (List.map (aQ .u64) r.1.2.2.1),.ro (List.map aZ r.1.2.2.2.1),.ro (List.map dh r.1.2.2.2.2)],.ro (List.map a8 r.2)]),[]):=by
 rw [aO]
 unfold fD
 have hl0:=fun (xK:Int×Int×Int×Int×Tyt×List Int×List Tyw×List Tys×List Tyw×List Tys)=>mi k v0_0_0 v0_0_1 v0_0_2 v0_0_3 v0_1 v0_2 v0_3 v0_4 v1 (k+62) (xK.fst) (xK.snd.fst) (xK.snd.snd.fst) (xK.snd.snd.snd.fst) (xK.snd.snd.snd.snd.fst) (xK.snd.snd.snd.snd.snd.snd.fst) (xK.snd.snd.snd.snd.snd.snd.snd.fst) (List.take xK.snd.snd.snd.snd.snd.snd.fst.length xK.snd.snd.snd.snd.snd.snd.snd.snd.fst) (List.take xK.snd.snd.snd.snd.snd.snd.snd.fst.length xK.snd.snd.snd.snd.snd.snd.snd.snd.snd) ([]) ((0:Int)) (xK.snd.snd.snd.snd.snd.fst) (0)
 try simp -implicitDefEqProofs only [List.map_nil,List.length_nil] at hl0
 simp -implicitDefEqProofs only [abh,X4,Zy,D5,kQ,abE,ZJ,aaN,EN,Dc,kW,lA,aO (g:=41),abf,Zu,De,lJ,abB,aac,abi,aaf,aby,XC,↓syP,syA,syD,simprocAttr,syE,aj,ag,af,syW,xQ,fA,AI,iO,mi k v0_0_0 v0_0_1 v0_0_2 v0_0_3 v0_1 v0_2 v0_3 v0_4 v1,hl0]
 all_goals simp -implicitDefEqProofs only [List.map_nil]
end Go.Ab
set_option maxRecDepth 100000
set_option linter.unusedVariables false
set_option linter.unusedSimpArgs false
namespace Go.Ab
open Go.Proofs
def bv (k:Nat)   : Nat→Tyt→Int→Nat→List Int→Int→Nat→Option (Nat×List Int×Nat)
 | 0,_,_,_,_,_,_=>none
 | n+1,s7,sO,sS,sP,sC,sE=>
 bif decide (sC<sO) then
 ob (eF k s7 sC) fun xy=>
 bif xy==(-1:Int) then
 ck (sE==1||sE==0) (
 bif room (sP++[sC]).length 8 then
 bv k   n (s7) (sO) (sS+1) (sP++[sC]) (IntKind.i64.wrap (sC+(1:Int))) (1)
 else
 none)
 else
 bv k   n (s7) (sO) (sS) (sP) (IntKind.i64.wrap (sC+(1:Int))) (sE)
 else
 some (sS,sP,sE)
theorem cJ (k:Nat)  : ∀ (n:Nat) (s7:Tyt) (sO:Int) (sS:Nat) (sP:List Int) (sC:Int) (sE:Nat) ⦃s8 s9:Bool⦄ ⦃j14:V⦄,itX (xX (xS (k+20)) 57 0 (k+20) false) AR (2) (av (xX (xS (k+20)) 57 0 (k+20) false) (aD (xS (k+20)).P Tryz.f57) Dv) n ⟨[.ro (List.map ap s7),uu,.own 0 0 0,.own 1 sS sP.length,j14,.ro (List.map ap s7),.lit (.bool s8),.lit (.bool s9),.ro (List.map ap s7),.lit (.int .i64 sO),.lit (.int .i64 sC),.junk,.junk,.junk,.junk,.junk,.junk,.junk,.junk,.junk,.junk,.junk,uu],[.rows 0 [] 0 true,.rows sE (List.map (aQ IntKind.i64) sP) sS true]⟩=ob (bv k   n s7 sO sS sP sC sE) fun r=>some ((.own 1 r.1 r.2.1.length,[.rows 0 [] 0 true,.rows r.2.2 (List.map (aQ IntKind.i64) r.2.1) r.1 true])):=by
 intro n
 induction n with
 | zero=>intros;rfl
 | succ n ih=>
  intro s7 sO sS sP sC sE s8 s9 j14
  rw [bv]
  simp -implicitDefEqProofs only [aah,WG,WA,Ba,Bc,AY,A9,Bm,iy,iz,iw,iq,Yg,WE,WF,AU,iv,aO (g:=57),↓syP,syA,syD,simprocAttr,syE,aj,ag,af,syW,xQ,wV,Sf,ih]
theorem ff (k:Nat) (v1:Tyt):∀ ⦃s8 s9:Bool⦄ ⦃j14:V⦄,itX (xX (xS (k+20)) 57 0 (k+20) false) AR 2 (av (xX (xS (k+20)) 57 0 (k+20) false) (aD (xS (k+20)).P Tryz.f57) Dv) (k+20) (St.mk [.ro (List.map ap v1),uu,.own 0 0 0,.own 1 0 0,j14,.ro (List.map ap v1),.lit (.bool s8),.lit (.bool s9),.ro (List.map ap v1),.lit (.int .i64 (↑v1.length:Int)),.lit (.int .i64 (0:Int)),.junk,.junk,.junk,.junk,.junk,.junk,.junk,.junk,.junk,.junk,.junk,uu] [.rows 0 [] 0 true,.rows 0 [] 0 true])=ob (bv k (k+20) v1 (↑v1.length:Int) 0 [] (0:Int) 0) fun r ↦ some (.own 1 r.fst r.snd.fst.length,[.rows 0 [] 0 true,.rows r.snd.snd (List.map (aQ IntKind.i64) r.snd.fst) r.fst true]):=by
 have h:=cJ k  (k+20) (v1) ((↑v1.length:Int)) (0) ([]) ((0:Int)) (0)
 simp -implicitDefEqProofs only [List.map_nil,List.length_nil] at h
 exact h
def cA (k:Nat) (v0:(Int×Int×Int×Int)) (v1:Tyt) (v2:(List (List Int))) (o0:Tyt→List Int→Nat→List Tyw→Int→List Tys→Nat→Nat→List Int→Option (Typ×Bool)):Nat→List Int→Tyt→List Int→Int→Nat→List Tyw→Nat→Int→List Int→Int→List Tys→Nat→Option (Typ×Bool)
 | 0,_,_,_,_,_,_,_,_,_,_,_,_=>none
 | n+1,sw,sF,sG,sH,sI,sx,sT,sy,sn,s130,sv,sz=>
 bif decide (sy<sH) then
 ob (idx sw sy) fun xb=>
 ck (decide (sT≤sn.length)) (
 ob (cY (k+20) (List.take sT sn) xb) fun xN=>
 bif decide (xN<(0:Int)) then
 some (((((0:Int)),((0:Int)),((0:Int)),((0:Int))),[],[],[],[]),(false))
 else
 ck (sI==1) (
 ck (decide (sT≤sn.length∧(0:Int)≤xN∧xN<IntKind.i64.wrap (xN+(1:Int))∧(IntKind.i64.wrap (xN+(1:Int))).toNat≤sT∧sT≤9223372036854775807)) (
 cA k v0 v1 v2 o0 n (sw) (sF) (sG) (sH) (1) (sx) (sT - ((IntKind.i64.wrap (xN+(1:Int))).toNat - xN.toNat)) (IntKind.i64.wrap (sy+(1:Int))) (Dx (List.take sT sn) xN.toNat (IntKind.i64.wrap (xN+(1:Int))).toNat++List.drop sT sn) (s130) (sv) (sz))))
 else
 ob (gq sw) fun xH=>
 ck (sz==9||sz==0) (
 bif room (sv++[(xH.1,xH.2.1,xH.2.2.1,xH.2.2.2.1,xH.2.2.2.2.1,xH.2.2.2.2.2.1,xH.2.2.2.2.2.2.1,xH.2.2.2.2.2.2.2.1,xH.2.2.2.2.2.2.2.2)]).length 88 then
 o0 (sF) (sG) (sI) (sx) (IntKind.i64.wrap (s130+(1:Int))) (sv++[(xH.1,xH.2.1,xH.2.2.1,xH.2.2.2.1,xH.2.2.2.2.1,xH.2.2.2.2.2.1,xH.2.2.2.2.2.2.1,xH.2.2.2.2.2.2.2.1,xH.2.2.2.2.2.2.2.2)]) (9) (sT) (sn)
 else
 none)
theorem rR (k:Nat) (v0_0 v0_1 v0_2 v0_3:Int) (v1:Tyt) (v2:List (List Int)) (n56:Nat) (o0:Tyt→List Int→Nat→List Tyw→Int→List Tys→Nat→Nat→List Int→Option (Typ×Bool)) (ho0:∀ (sW:Tyt) (sX:List Int) (su:Nat) (sj:List Tyw) (sQ:Int) (sD:List Tys) (sA sa:Nat) (sb:List Int) ⦃s57:List Int⦄ ⦃s58 s59 s60 s61:Bool⦄ ⦃s76 s78 s114:Nat⦄ ⦃j75 j112 j136 j137:V⦄,rt none (itX (xX (xS (k+21)) 23 0 (k+21) false) rA (14) (av (xX (xS (k+21)) 23 0 (k+21) false) (aD (xS (k+21)).P Tryz.f23) Bl) n56 ⟨(.agg [.lit (.int .i64 v0_0),.lit (.int .i64 v0_1),.lit (.int .i64 v0_2),.lit (.int .i64 v0_3)]::.ro (List.map ap v1)::.ro (List.map fQ v2)::.ptr 0 0 0 0::uu::uu::.ptr 5 0 0 0::.lit (.bool false)::.own 6 0 sa::.ptr 11 0 0 0::j75::uu::j112::uu::j136::j137::.agg [.lit (.int .i64 v0_0),.lit (.int .i64 v0_1),.lit (.int .i64 v0_2),.lit (.int .i64 v0_3)]::.lit (.bool s58)::.lit (.bool s59)::.lit (.bool false)::.ro (List.map ap v1)::.lit (.bool s60)::.lit (.bool s61)::.lit (.bool s61)::.lit (.bool false)::.ro (List.map fQ v2)::.lit (.int .i64 (↑v2.length:Int))::.lit (.bool (decide ((3:Int)<(↑v2.length:Int))))::.lit (.bool (decide ((3:Int)<(↑v2.length:Int))))::uu::.ro (List.map ap v1)::.own 6 0 s57.length::.agg [.lit (.int .i64 v0_0),.lit (.int .i64 v0_1),.lit (.int .i64 v0_2),.lit (.int .i64 v0_3)]::.ro (List.map ap v1)::.ro (List.map ap sW)::.agg [.lit (.int .i64 v0_0),.lit (.int .i64 v0_1),.lit (.int .i64 v0_2),.lit (.int .i64 v0_3)]::.ro (List.map (aQ IntKind.u64) sX)::.agg [.lit (.int .i64 v0_0),.lit (.int .i64 v0_1),.lit (.int .i64 v0_2),.lit (.int .i64 v0_3),.ro (List.map ap sW),.ro (List.map (aQ IntKind.u64) sX),.nil,.nil]::.ptr 0 0 0 0::.lit (.int .i64 v0_0)::.junk::.junk::.junk::.junk::.junk::.junk::.junk::.junk::.junk::.junk::.junk::.ro (List.map fQ v2)::.lit (.int .i64 (↑v2.length:Int))::.lit (.int .i64 sQ)::.junk::.junk::.junk::.junk::.junk::.junk::.junk::.junk::.junk::.junk::.junk::.junk::.junk::.junk::.junk::.junk::.junk::.junk::.junk::.junk::.junk::.junk::.junk::.junk::.junk::.junk::.junk::.junk::.junk::uu::[]),[.box [.lit (.int .i64 v0_0),.lit (.int .i64 v0_1),.lit (.int .i64 v0_2),.lit (.int .i64 v0_3)],.rows 0 [] 0 true,.rows 0 [] 0 true,.rows 0 [] 0 true,.rows 0 [] 0 true,.box [.lit (.int .i64 (0:Int)),.lit (.int .i64 (0:Int)),.lit (.int .i64 (0:Int)),.lit (.int .i64 (0:Int)),.own 1 0 0,.own 2 0 0,.own 3 0 0,.own 4 0 0],.rows su (List.map (aQ IntKind.i64) sb) 0 true,.rows 0 [] 0 true,.rows 0 [] 0 true,.rows 0 [] 0 true,.rows 0 [] 0 true,.box [.lit (.int .i64 v0_0),.lit (.int .i64 v0_1),.lit (.int .i64 v0_2),.lit (.int .i64 v0_3),.ro (List.map ap sW),.ro (List.map (aQ IntKind.u64) sX),.own 12 s76 sj.length,.own 13 s114 sD.length],.rows s78 (List.map aZ sj) s76 true,.rows sA (List.map dh sD) s114 true]⟩)=ob (o0 sW sX su sj sQ sD sA sa sb) fun r=>some ((.tup [.agg [.lit (.int .i64 r.1.1.1),.lit (.int .i64 r.1.1.2.1),.lit (.int .i64 r.1.1.2.2.1),.lit (.int .i64 r.1.1.2.2.2),.ro (List.map ap r.1.2.1),.ro (List.map (aQ .u64) r.1.2.2.1),.ro (List.map aZ r.1.2.2.2.1),.ro (List.map dh r.1.2.2.2.2)],.lit (.bool r.2)]),[])):∀ (n:Nat) (sw:List Int) (sF:Tyt) (sG:List Int) (sH:Int) (sI:Nat) (sx:List Tyw) (sT:Nat) (sy:Int) (sn:List Int) (s130:Int) (sv:List Tys) (sz:Nat) ⦃s80:List Int⦄ ⦃s82 s83 s84 s85:Bool⦄ ⦃s104 s106:Nat⦄ ⦃s131:Bool⦄ ⦃s132:Nat⦄ ⦃j103 j108 j109:V⦄,rt none (itX (xX (xS (k+21)) 23 0 (k+21) false) HP (14) (av (xX (xS (k+21)) 23 0 (k+21) false) (dc (xX (xS (k+21)) 23 0 (k+21) false) rA 14 (av (xX (xS (k+21)) 23 0 (k+21) false) (aD (xS (k+21)).P Tryz.f23) Bl) n56) If) n ⟨(.agg [.lit (.int .i64 v0_0),.lit (.int .i64 v0_1),.lit (.int .i64 v0_2),.lit (.int .i64 v0_3)]::.ro (List.map ap v1)::.ro (List.map fQ v2)::.ptr 0 0 0 0::uu::uu::.ptr 5 0 0 0::.lit (.bool false)::.own 6 0 sT::.ptr 11 0 0 0::j103::uu::.ro (List.map (aQ IntKind.i64) sw)::uu::j108::j109::.agg [.lit (.int .i64 v0_0),.lit (.int .i64 v0_1),.lit (.int .i64 v0_2),.lit (.int .i64 v0_3)]::.lit (.bool s82)::.lit (.bool s83)::.lit (.bool false)::.ro (List.map ap v1)::.lit (.bool s84)::.lit (.bool s85)::.lit (.bool s85)::.lit (.bool false)::.ro (List.map fQ v2)::.lit (.int .i64 (↑v2.length:Int))::.lit (.bool (decide ((3:Int)<(↑v2.length:Int))))::.lit (.bool (decide ((3:Int)<(↑v2.length:Int))))::uu::.ro (List.map ap v1)::.own 6 0 s80.length::.agg [.lit (.int .i64 v0_0),.lit (.int .i64 v0_1),.lit (.int .i64 v0_2),.lit (.int .i64 v0_3)]::.ro (List.map ap v1)::.ro (List.map ap sF)::.agg [.lit (.int .i64 v0_0),.lit (.int .i64 v0_1),.lit (.int .i64 v0_2),.lit (.int .i64 v0_3)]::.ro (List.map (aQ IntKind.u64) sG)::.agg [.lit (.int .i64 v0_0),.lit (.int .i64 v0_1),.lit (.int .i64 v0_2),.lit (.int .i64 v0_3),.ro (List.map ap sF),.ro (List.map (aQ IntKind.u64) sG),.nil,.nil]::.ptr 0 0 0 0::.lit (.int .i64 v0_0)::.junk::.junk::.junk::.junk::.junk::.junk::.junk::.junk::.junk::.junk::.junk::.ro (List.map fQ v2)::.lit (.int .i64 (↑v2.length:Int))::.lit (.int .i64 s130)::.lit (.bool s131)::.rp [.ro (List.map (aQ IntKind.i64) sw)]::.ro (List.map (aQ IntKind.i64) sw)::.ro (List.map (aQ IntKind.i64) sw)::.lit (.int .i64 sH)::.lit (.int .i64 sy)::.junk::.junk::.junk::.junk::.junk::.junk::.junk::.junk::.junk::.junk::.junk::.junk::.junk::.junk::.junk::.junk::.junk::.junk::.junk::.junk::.junk::.junk::.junk::uu::[]),[.box [.lit (.int .i64 v0_0),.lit (.int .i64 v0_1),.lit (.int .i64 v0_2),.lit (.int .i64 v0_3)],.rows 0 [] 0 true,.rows 0 [] 0 true,.rows 0 [] 0 true,.rows 0 [] 0 true,.box [.lit (.int .i64 (0:Int)),.lit (.int .i64 (0:Int)),.lit (.int .i64 (0:Int)),.lit (.int .i64 (0:Int)),.own 1 0 0,.own 2 0 0,.own 3 0 0,.own 4 0 0],.rows sI (List.map (aQ IntKind.i64) sn) 0 true,.rows 0 [] 0 true,.rows 0 [] 0 true,.rows 0 [] 0 true,.rows 0 [] 0 true,.box [.lit (.int .i64 v0_0),.lit (.int .i64 v0_1),.lit (.int .i64 v0_2),.lit (.int .i64 v0_3),.ro (List.map ap sF),.ro (List.map (aQ IntKind.u64) sG),.own 12 s104 sx.length,.own 13 s132 sv.length],.rows s106 (List.map aZ sx) s104 true,.rows sz (List.map dh sv) s132 true]⟩)=ob (cA k (v0_0,v0_1,v0_2,v0_3) v1 v2 o0 n sw sF sG sH sI sx sT sy sn s130 sv sz) fun r=>some ((.tup [.agg [.lit (.int .i64 r.1.1.1),.lit (.int .i64 r.1.1.2.1),.lit (.int .i64 r.1.1.2.2.1),.lit (.int .i64 r.1.1.2.2.2),.ro (List.map ap r.1.2.1),.ro (List.map (aQ .u64) r.1.2.2.1),.ro (List.map aZ r.1.2.2.2.1),.ro (List.map dh r.1.2.2.2.2)],.lit (.bool r.2)]),[]):=by
 intro n
 induction n with
 | zero=>intros;rfl
 | succ n ih=>
  intro sw sF sG sH sI sx sT sy sn s130 sv sz s80 s82 s83 s84 s85 s104 s106 s131 s132 j103 j108 j109
  rw [cA]
  simp -implicitDefEqProofs only [aah,WG,WA,Ba,Bc,AY,A9,Bm,iy,iz,iw,iq,Yg,WE,WF,AU,iv,aO (g:=57),↓syP,syA,syD,simprocAttr,syE,aj,ag,af,syW,xQ,cF,bX,pj,fR,pV,mr,fA,cJ,ff,R9,ih,ho0]
  all_goals simp -implicitDefEqProofs only [List.map_nil]
def bM (k:Nat) (v0:(Int×Int×Int×Int)) (v1:Tyt) (v2:(List (List Int)))  : Nat→Tyt→List Int→Nat→List Tyw→Int→List Tys→Nat→Nat→List Int→Option (Typ×Bool)
 | 0,_,_,_,_,_,_,_,_,_=>none
 | n+1,sW,sX,su,sj,sQ,sD,sA,sa,sb=>
 bif decide (sQ<(↑v2.length:Int)) then
 ob (idx v2 sQ) fun xa=>
 cA k v0 v1 v2 (fun sW sX su sj sQ sD sA sa sb=>bM k v0 v1 v2  n sW sX su sj sQ sD sA sa sb) (k+21) (xa) (sW) (sX) ((↑xa.length:Int)) (su) (sj) (sa) ((0:Int)) (sb) (sQ) (sD) (sA)
 else
 some ((((v0.1),(v0.2.1),(v0.2.2.1),(v0.2.2.2)),(sW),(sX),(sj),(sD)),(true))
theorem mc (k:Nat) (v0_0 v0_1 v0_2 v0_3:Int) (v1:Tyt) (v2:List (List Int)):∀ (n:Nat) (sW:Tyt) (sX:List Int) (su:Nat) (sj:List Tyw) (sQ:Int) (sD:List Tys) (sA sa:Nat) (sb:List Int) ⦃s57:List Int⦄ ⦃s58 s59 s60 s61:Bool⦄ ⦃s76 s78 s114:Nat⦄ ⦃j75 j112 j136 j137:V⦄,rt none (itX (xX (xS (k+21)) 23 0 (k+21) false) rA (14) (av (xX (xS (k+21)) 23 0 (k+21) false) (aD (xS (k+21)).P Tryz.f23) Bl) n ⟨(.agg [.lit (.int .i64 v0_0),.lit (.int .i64 v0_1),.lit (.int .i64 v0_2),.lit (.int .i64 v0_3)]::.ro (List.map ap v1)::.ro (List.map fQ v2)::.ptr 0 0 0 0::uu::uu::.ptr 5 0 0 0::.lit (.bool false)::.own 6 0 sa::.ptr 11 0 0 0::j75::uu::j112::uu::j136::j137::.agg [.lit (.int .i64 v0_0),.lit (.int .i64 v0_1),.lit (.int .i64 v0_2),.lit (.int .i64 v0_3)]::.lit (.bool s58)::.lit (.bool s59)::.lit (.bool false)::.ro (List.map ap v1)::.lit (.bool s60)::.lit (.bool s61)::.lit (.bool s61)::.lit (.bool false)::.ro (List.map fQ v2)::.lit (.int .i64 (↑v2.length:Int))::.lit (.bool (decide ((3:Int)<(↑v2.length:Int))))::.lit (.bool (decide ((3:Int)<(↑v2.length:Int))))::uu::.ro (List.map ap v1)::.own 6 0 s57.length::.agg [.lit (.int .i64 v0_0),.lit (.int .i64 v0_1),.lit (.int .i64 v0_2),.lit (.int .i64 v0_3)]::.ro (List.map ap v1)::.ro (List.map ap sW)::.agg [.lit (.int .i64 v0_0),.lit (.int .i64 v0_1),.lit (.int .i64 v0_2),.lit (.int .i64 v0_3)]::.ro (List.map (aQ IntKind.u64) sX)::.agg [.lit (.int .i64 v0_0),.lit (.int .i64 v0_1),.lit (.int .i64 v0_2),.lit (.int .i64 v0_3),.ro (List.map ap sW),.ro (List.map (aQ IntKind.u64) sX),.nil,.nil]::.ptr 0 0 0 0::.lit (.int .i64 v0_0)::.junk::.junk::.junk::.junk::.junk::.junk::.junk::.junk::.junk::.junk::.junk::.ro (List.map fQ v2)::.lit (.int .i64 (↑v2.length:Int))::.lit (.int .i64 sQ)::.junk::.junk::.junk::.junk::.junk::.junk::.junk::.junk::.junk::.junk::.junk::.junk::.junk::.junk::.junk::.junk::.junk::.junk::.junk::.junk::.junk::.junk::.junk::.junk::.junk::.junk::.junk::.junk::.junk::uu::[]),[.box [.lit (.int .i64 v0_0),.lit (.int .i64 v0_1),.lit (.int .i64 v0_2),.lit (.int .i64 v0_3)],.rows 0 [] 0 true,.rows 0 [] 0 true,.rows 0 [] 0 true,.rows 0 [] 0 true,.box [.lit (.int .i64 (0:Int)),.lit (.int .i64 (0:Int)),.lit (.int .i64 (0:Int)),.lit (.int .i64 (0:Int)),.own 1 0 0,.own 2 0 0,.own 3 0 0,.own 4 0 0],.rows su (List.map (aQ IntKind.i64) sb) 0 true,.rows 0 [] 0 true,.rows 0 [] 0 true,.rows 0 [] 0 true,.rows 0 [] 0 true,.box [.lit (.int .i64 v0_0),.lit (.int .i64 v0_1),.lit (.int .i64 v0_2),.lit (.int .i64 v0_3),.ro (List.map ap sW),.ro (List.map (aQ IntKind.u64) sX),.own 12 s76 sj.length,.own 13 s114 sD.length],.rows s78 (List.map aZ sj) s76 true,.rows sA (List.map dh sD) s114 true]⟩)=ob (bM k (v0_0,v0_1,v0_2,v0_3) v1 v2  n sW sX su sj sQ sD sA sa sb) fun r=>some ((.tup [.agg [.lit (.int .i64 r.1.1.1),.lit (.int .i64 r.1.1.2.1),.lit (.int .i64 r.1.1.2.2.1),.lit (.int .i64 r.1.1.2.2.2),.ro (List.map ap r.1.2.1),.ro (List.map (aQ .u64) r.1.2.2.1),.ro (List.map aZ r.1.2.2.2.1),.ro (List.map dh r.1.2.2.2.2)],.lit (.bool r.2)]),[]):=by
 intro n
 induction n with
 | zero=>intros;rfl
 | succ n ih=>
  intro sW sX su sj sQ sD sA sa sb s57 s58 s59 s60 s61 s76 s78 s114 j75 j112 j136 j137
  rw [bM]
  simp -implicitDefEqProofs only [aah,WG,WA,Ba,Bc,AY,A9,Bm,iy,iz,iw,iq,Yg,WE,WF,AU,iv,aO (g:=57),↓syP,syA,syD,simprocAttr,syE,aj,ag,af,syW,xQ,cF,bX,pj,fR,pV,mr,fA,cJ,ff,Sn,ih,rR k v0_0 v0_1 v0_2 v0_3 v1 v2 _ (fun sW sX su sj sQ sD sA sa sb=>bM k (v0_0,v0_1,v0_2,v0_3) v1 v2  n sW sX su sj sQ sD sA sa sb) ih]
def cB (k:Nat) (v0:(Int×Int×Int×Int)) (v1:Tyt) (v2:(List (List Int)))  : Nat→Tyt→List Int→List Int→Nat→Int→List Tyw→Nat→Option (Typ×Bool)
 | 0,_,_,_,_,_,_,_=>none
 | n+1,st,sd,sL,s41,s52,s54,s55=>
 bif decide (s52<v0.1) then
 ob (nc s52) fun xE=>
 ck (s55==11||s55==0) (
 bif room (s54++[(xE.1,xE.2.1,(xE.2.2.1.1,xE.2.2.1.2.1,xE.2.2.1.2.2.1,xE.2.2.1.2.2.2.1,xE.2.2.1.2.2.2.2.1,xE.2.2.1.2.2.2.2.2.1,xE.2.2.1.2.2.2.2.2.2),xE.2.2.2.1,xE.2.2.2.2)]).length 104 then
 cB k v0 v1 v2  n (st) (sd) (sL) (s41) (IntKind.i64.wrap (s52+(1:Int))) (s54++[(xE.1,xE.2.1,(xE.2.2.1.1,xE.2.2.1.2.1,xE.2.2.1.2.2.1,xE.2.2.1.2.2.2.1,xE.2.2.1.2.2.2.2.1,xE.2.2.1.2.2.2.2.2.1,xE.2.2.1.2.2.2.2.2.2),xE.2.2.2.1,xE.2.2.2.2)]) (11)
 else
 none)
 else
 bM k v0 v1 v2 (k+21) (st) (sd) (s41) (s54) ((0:Int)) ([]) (0) (sL.length) (sL)
theorem gO (k:Nat) (v0_0 v0_1 v0_2 v0_3:Int) (v1:Tyt) (v2:List (List Int)):∀ (n:Nat) (st:Tyt) (sd sL:List Int) (s41:Nat) (s52:Int) (s54:List Tyw) (s55:Nat) ⦃sk sl sf sR:Bool⦄ ⦃s53:Nat⦄ ⦃j51:V⦄,rt none (itX (xX (xS (k+21)) 23 0 (k+21) false) HQ (14) (av (xX (xS (k+21)) 23 0 (k+21) false) (aD (xS (k+21)).P Tryz.f23) Ix) n ⟨(.agg [.lit (.int .i64 v0_0),.lit (.int .i64 v0_1),.lit (.int .i64 v0_2),.lit (.int .i64 v0_3)]::.ro (List.map ap v1)::.ro (List.map fQ v2)::.ptr 0 0 0 0::uu::uu::.ptr 5 0 0 0::.lit (.bool false)::.own 6 0 sL.length::.ptr 11 0 0 0::j51::uu::uu::uu::uu::uu::.agg [.lit (.int .i64 v0_0),.lit (.int .i64 v0_1),.lit (.int .i64 v0_2),.lit (.int .i64 v0_3)]::.lit (.bool sk)::.lit (.bool sl)::.lit (.bool false)::.ro (List.map ap v1)::.lit (.bool sf)::.lit (.bool sR)::.lit (.bool sR)::.lit (.bool false)::.ro (List.map fQ v2)::.lit (.int .i64 (↑v2.length:Int))::.lit (.bool (decide ((3:Int)<(↑v2.length:Int))))::.lit (.bool (decide ((3:Int)<(↑v2.length:Int))))::uu::.ro (List.map ap v1)::.own 6 0 sL.length::.agg [.lit (.int .i64 v0_0),.lit (.int .i64 v0_1),.lit (.int .i64 v0_2),.lit (.int .i64 v0_3)]::.ro (List.map ap v1)::.ro (List.map ap st)::.agg [.lit (.int .i64 v0_0),.lit (.int .i64 v0_1),.lit (.int .i64 v0_2),.lit (.int .i64 v0_3)]::.ro (List.map (aQ IntKind.u64) sd)::.agg [.lit (.int .i64 v0_0),.lit (.int .i64 v0_1),.lit (.int .i64 v0_2),.lit (.int .i64 v0_3),.ro (List.map ap st),.ro (List.map (aQ IntKind.u64) sd),.nil,.nil]::.ptr 0 0 0 0::.lit (.int .i64 v0_0)::.lit (.int .i64 s52)::.junk::.junk::.junk::.junk::.junk::.junk::.junk::.junk::.junk::.junk::uu::uu::uu::uu::uu::uu::uu::uu::uu::uu::uu::uu::uu::uu::uu::uu::uu::uu::uu::uu::uu::uu::uu::uu::uu::uu::uu::uu::uu::uu::uu::uu::uu::[]),[.box [.lit (.int .i64 v0_0),.lit (.int .i64 v0_1),.lit (.int .i64 v0_2),.lit (.int .i64 v0_3)],.rows 0 [] 0 true,.rows 0 [] 0 true,.rows 0 [] 0 true,.rows 0 [] 0 true,.box [.lit (.int .i64 (0:Int)),.lit (.int .i64 (0:Int)),.lit (.int .i64 (0:Int)),.lit (.int .i64 (0:Int)),.own 1 0 0,.own 2 0 0,.own 3 0 0,.own 4 0 0],.rows s41 (List.map (aQ IntKind.i64) sL) 0 true,.rows 0 [] 0 true,.rows 0 [] 0 true,.rows 0 [] 0 true,.rows 0 [] 0 true,.box [.lit (.int .i64 v0_0),.lit (.int .i64 v0_1),.lit (.int .i64 v0_2),.lit (.int .i64 v0_3),.ro (List.map ap st),.ro (List.map (aQ IntKind.u64) sd),.own 12 s53 s54.length,.own 13 0 0],.rows s55 (List.map aZ s54) s53 true,.rows 0 [] 0 true]⟩)=ob (cB k (v0_0,v0_1,v0_2,v0_3) v1 v2  n st sd sL s41 s52 s54 s55) fun r=>some ((.tup [.agg [.lit (.int .i64 r.1.1.1),.lit (.int .i64 r.1.1.2.1),.lit (.int .i64 r.1.1.2.2.1),.lit (.int .i64 r.1.1.2.2.2),.ro (List.map ap r.1.2.1),.ro (List.map (aQ .u64) r.1.2.2.1),.ro (List.map aZ r.1.2.2.2.1),.ro (List.map dh r.1.2.2.2.2)],.lit (.bool r.2)]),[]):=by
 intro n
 induction n with
 | zero=>intros;rfl
 | succ n ih=>
  intro st sd sL s41 s52 s54 s55 sk sl sf sR s53 j51
  rw [cB]
  have hu2:=mc k v0_0 v0_1 v0_2 v0_3 v1 v2 (k+21) (st) (sd) (s41) (s54) ((0:Int)) ([]) (0) (sL.length) (sL)
  try simp -implicitDefEqProofs only [List.map_nil,List.length_nil] at hu2
  simp -implicitDefEqProofs only [aah,WG,WA,Ba,Bc,AY,A9,Bm,iy,iz,iw,iq,Yg,WE,WF,AU,iv,aO (g:=57),↓syP,syA,syD,simprocAttr,syE,aj,ag,af,syW,xQ,cF,bX,pj,fR,pV,mr,fA,cJ,ff,Rp,ih,mc k v0_0 v0_1 v0_2 v0_3 v1 v2,hu2]
def iA (k:Nat) (v0:(Int×Int×Int×Int)) (v1:Tyt) (v2:(List (List Int))):Option (Typ×Bool):=
 ob (bO v0) fun xW=>
 bif !xW then
 some (((0,0,0,0),[],[],[],[]),false)
 else
 ob (cC (k+2) v1) fun xc=>
 bif !xc then
 some (((0,0,0,0),[],[],[],[]),false)
 else
 bif decide (3<(↑v2.length:Int)) then
 some (((0,0,0,0),[],[],[],[]),false)
 else
 ob (cC (k+1) v1) fun xB=>
 bif !xB then
 ob (eG (k+19) v1) fun xd=>
 ob (lh (k+17) v0) fun xl=>
 cB k v0 v1 v2 (k+21) xd xl ([]) 0 0 ([]) 0
 else
 ob (bv k (k+20) v1 (↑v1.length:Int) 0 [] 0 0) fun xh=>
 ob (eG (k+19) v1) fun xm=>
 ob (lh (k+17) v0) fun xn=>
 cB k v0 v1 v2 (k+21) xm xn xh.2.1 xh.2.2 0 ([]) 0
theorem pI (k:Nat) (v0_0 v0_1 v0_2 v0_3:Int) (v1:Tyt) (v2:List (List Int)):xC (k+22) none 23 [.agg [.lit (.int .i64 v0_0),.lit (.int .i64 v0_1),.lit (.int .i64 v0_2),.lit (.int .i64 v0_3)],.ro (List.map ap v1),.ro (List.map fQ v2)]=ob (iA k (v0_0,v0_1,v0_2,v0_3) v1 v2) fun r=>some ((.tup [.agg [.lit (.int .i64 r.1.1.1),.lit (.int .i64 r.1.1.2.1),.lit (.int .i64 r.1.1.2.2.1),.lit (.int .i64 r.1.1.2.2.2),.ro (List.map ap r.1.2.1),.ro (List.map (aQ .u64) r.1.2.2.1),.ro (List.map aZ r.1.2.2.2.1),.ro (List.map dh r.1.2.2.2.2)],.lit (.bool r.2)]),[]):=by
 rw [aO]
 unfold iA
 have hl0:=fun (xo:Tyt) (xp:List Int)=>gO k v0_0 v0_1 v0_2 v0_3 v1 v2 (k+21) (xo) (xp) ([]) (0) ((0:Int)) ([]) (0)
 try simp -implicitDefEqProofs only [List.map_nil,List.length_nil] at hl0
 have hl1:=fun (xq:Tyt) (xr:List Int) (xi:Nat×List Int×Nat)=>gO k v0_0 v0_1 v0_2 v0_3 v1 v2 (k+21) (xq) (xr) (xi.snd.fst) (xi.snd.snd) ((0:Int)) ([]) (0)
 try simp -implicitDefEqProofs only [List.map_nil,List.length_nil] at hl1
 simp -implicitDefEqProofs only [aah,WG,WA,Ba,Bc,AY,A9,Bm,iy,iz,iw,iq,Yg,WE,WF,AU,iv,aO (g:=57),↓syP,syA,syD,simprocAttr,syE,aj,ag,af,syW,xQ,cF,bX,pj,fA,cJ,ff,gO k v0_0 v0_1 v0_2 v0_3 v1 v2,hl0,hl1]
 all_goals simp -implicitDefEqProofs only [List.map_nil]
end Go.Ab
set_option maxRecDepth 100000
set_option linter.unusedVariables false
set_option linter.unusedSimpArgs false
namespace Go.Ab
open Go.Proofs
def nT (k:Nat) (v0:Typ) (v1:(Int×Int×Int)):Option (Typ×Tye):=
 ob (fD k v0 [v1]) fun x2=>
 some (((x2.1.1.1,x2.1.1.2.1,x2.1.1.2.2.1,x2.1.1.2.2.2),x2.1.2),x2.2)
theorem F7 (k:Nat) (v0_0_0 v0_0_1 v0_0_2 v0_0_3:Int) (v0_1:Tyt) (v0_2:List Int) (v0_3:List Tyw) (v0_4:List Tys) (v1_0 v1_1 v1_2:Int):xC (k+64) none 24 [.agg [.lit (.int .i64 v0_0_0),.lit (.int .i64 v0_0_1),.lit (.int .i64 v0_0_2),.lit (.int .i64 v0_0_3),.ro (List.map ap v0_1),.ro (List.map (aQ .u64) v0_2),.ro (List.map aZ v0_3),.ro (List.map dh v0_4)],.agg [.lit (.int .i64 v1_0),.lit (.int .i64 v1_1),.lit (.int .u64 v1_2)]]=ob (nT k ((v0_0_0,v0_0_1,v0_0_2,v0_0_3),v0_1,v0_2,v0_3,v0_4) (v1_0,v1_1,v1_2)) fun r=>some ((.tup [.agg [.lit (.int .i64 r.1.1.1),.lit (.int .i64 r.1.1.2.1),.lit (.int .i64 r.1.1.2.2.1),.lit (.int .i64 r.1.1.2.2.2),.ro (List.map ap r.1.2.1),.ro (List.map (aQ .u64) r.1.2.2.1),.ro (List.map aZ r.1.2.2.2.1),.ro (List.map dh r.1.2.2.2.2)],.ro (List.map a8 r.2)]),[]):=by
 rw [aO]
 unfold nT
 simp -implicitDefEqProofs only [agb,afB,↓syP,syA,syD,simprocAttr,syE,aj,ag,af,syW,xQ,kY]
end Go.Ab
set_option maxRecDepth 100000
set_option linter.unusedVariables false
set_option linter.unusedSimpArgs false
namespace Go.Ab
open Go.Proofs
def aX (k:Nat) (v0:(List (List Int)))  : Nat→Int→Option Bool
 | 0,_=>none
 | n+1,s3=>
 bif decide (s3<(↑v0.length:Int)) then
 bif decide (s3≤(10:Int)) then
 ob (idx v0 s3) fun x6=>
 bif decide ((60:Int)<(↑x6.length:Int)) then
 some (false)
 else
 aX k v0  n (IntKind.i64.wrap (s3+(1:Int)))
 else
 some (decide ((↑v0.length:Int)≤(10:Int)))
 else
 some (decide ((↑v0.length:Int)≤(10:Int)))
theorem gM (k:Nat) (v0:List (List Int)):∀ (n:Nat) (s3:Int),rt none (itX (xX (xS k) 22 0 k false) rz (0) (av (xX (xS k) 22 0 k false) (aD (xS k).P Tryz.f22) H5) n ⟨[.ro (List.map fQ v0),uu,.lit (.bool false),.lit (.int .i64 s3),.junk,.junk,.junk,.junk,.junk,.junk,.junk,.junk,.junk,.junk,.junk,.junk,.junk,.junk,.junk,.junk,uu,uu,uu],[]⟩)=ob (aX k v0  n s3) fun r=>some ((.lit (.bool r)),[]):=by
 intro n
 induction n with
 | zero=>intros;rfl
 | succ n ih=>
  intro s3
  rw [aX]
  simp -implicitDefEqProofs only [afz,aes,abU,Lt,Kz,pq,pA,↓syP,syA,syD,simprocAttr,syE,aj,ag,af,syW,xQ,RB,ih]
def bQ (k:Nat) (v0:(List (List Int))):Option Bool:=
 aX k v0 k 0
theorem dL (k:Nat) (v0:List (List Int)):xC (k+1) none 22 [.ro (List.map fQ v0)]=ob (bQ k v0) fun r=>some ((.lit (.bool r)),[]):=by
 rw [aO]
 unfold bQ
 simp -implicitDefEqProofs only [afz,aes,abU,Lt,Kz,pq,pA,↓syP,syA,syD,simprocAttr,syE,aj,ag,af,syW,xQ,gM k v0]
end Go.Ab
set_option maxRecDepth 100000
set_option linter.unusedVariables false
set_option linter.unusedSimpArgs false
namespace Go.Ab
open Go.Proofs
end Go.Ab
set_option maxRecDepth 100000
set_option linter.unusedVariables false
set_option linter.unusedSimpArgs false
namespace Go.Ab
open Go.Proofs
end Go.Ab
set_option maxRecDepth 100000
set_option maxHeartbeats 4000000
set_option linter.unusedVariables false
set_option linter.unusedSimpArgs false
namespace Go.Ab
open Go.Proofs
def awS:Nat→Typ
 | 0=>((1,1,1,0),[],List.replicate 12 0,[(0,[],(1,0,0,0,0,0,0),0,0)],[])
 | n+1=>match nT 0 (awS n) (0,0,0) with | some r=>r.1 | none=>((0,0,0,0),[],[],[],[])
def awR:=match fD 0 (awS 20) [(0,0,0),(2,0,0)] with | some r=>r.1 | none=>awS 0
abbrev awC (x:Typ):List V:=
 [.lit (.int .i64 x.1.1),.lit (.int .i64 x.1.2.1),.lit (.int .i64 x.1.2.2.1),.lit (.int .i64 x.1.2.2.2),.ro (List.map ap x.2.1),.ro (List.map (aQ .u64) x.2.2.1),.ro (List.map aZ x.2.2.2.1),.ro (List.map dh x.2.2.2.2)]
section
variable (j:Nat)
theorem agf:xC (j+79) none 23 [.agg [.lit (.int .i64 1),.lit (.int .i64 1),.lit (.int .i64 1),.lit (.int .i64 0)],.nil,.nil]=some (.tup [.agg (awC (awS 0)),.lit (.bool true)],[]):=by kernel_rfl
theorem af0:xC (j+79) none 26 [.agg (awC (awS 0))]=some (.lit (.int .i64 0),[]):=by kernel_rfl
theorem af1:xC (j+79) none 25 [.agg (awC (awS 0))]=some (.lit (.bool false),[]):=by kernel_rfl
theorem agx:xC (j+79) none 29 [.agg (awC (awS 0))]=some (.lit (.bool false),[]):=by kernel_rfl
theorem afZ:xC (j+79) none 20 [.agg (awC (awS 0))]=some (.lit (.bool true),[]):=by kernel_rfl
def awM:List Int:=[0,0,1,0,0,0,0,0,0,0,0,0]
def awW:List Tyw:=[(8,[],(5,3,0,0,0,0,0),0,0)]
theorem MU:awS 20=((1,1,1,0),[],awM,awW,[]):=by kernel_rfl
theorem WK:awR=((1,1,1,0),[],[0,0,1,1,0,0,0,0,0,0,0,0],awW,[]):=by kernel_rfl
theorem acv:xC (j+79) none 25 [.agg (awC (awS 20))]=some (.lit (.bool true),[]):=by
 rw [MU]
 kernel_rfl
theorem ac2:xC (j+79) none 29 [.agg (awC (awS 20))]=some (.lit (.bool true),[]):=by
 rw [MU]
 kernel_rfl
theorem agm:xC (j+79) none 19 [.agg (awC (awS 20)),.agg (awC (awS 20))]=some (.lit (.bool true),[]):=by
 rw [MU]
 kernel_rfl
theorem aej:xC (j+79) none 20 [.agg (awC awR)]=some (.lit (.bool true),[]):=by
 rw [WK]
 kernel_rfl
theorem agj:xC (j+79) none 17 [.agg (awC (awS 20)),.ro (List.map ga [(0,0,0),(2,0,0)])]=some (.tup [.agg (awC awR),.ro []],[]):=(kY (j+16) _ _ _ _ _ _ _ _ _).trans (by kernel_rfl)
theorem afX:∀ i:Nat,i<20→xC (j+79) none 24 [.agg (awC (awS i)),.agg [.lit (.int .i64 0),.lit (.int .i64 0),.lit (.int .u64 0)]]=some (.tup [.agg (awC (awS (i+1))),.ro []],[]):=by
 intro i hi
 refine (F7 (j+15) _ _ _ _ _ _ _ _ _ _ _).trans ?_
 iterate 20
  rcases i with _ | i
  ·kernel_rfl
 omega
end
theorem aww {z:Int} (h:0≤z) (h':z≤99):IntKind.i64.wrap z=z:=Lc (by omega) (by omega)
theorem Lj (j:Nat):xC (j+80) none 15 []=some (.lit (.bool true),[]):=by
 rw [aO]
 simp -implicitDefEqProofs only [af6,afA,afD,Si,Rz,Rk,Rf,RS,Sc,RF,RL,Sy,Rh,AG,AM,Bf,↓syP,syA,syD,simprocAttr,syE,aj,ag,af,syW,xQ,agf,af0,af1,agx,afZ,acv,ac2,agm,aej,agj,afX,Sr,awC,aww,decide_true,decide_false,cond_true,cond_false]
end Go.Ab
