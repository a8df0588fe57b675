import Derived.Test.YtblpbpnilkfjhaaGreatR6Run
import Derived.Test.YtblpbpnilkfjhaaGreatR6Facts
import Derived.Test.YtblpbpnilkfjhaaGreatR6Man
import Derived.Test.YtblpbpnilkfjhaaGreatR6BY
import Derived.Test.YtblpbpnilkfjhaaGreatR6BX
import Derived.Test.YtblpbpnilkfjhaaGreatR6BZ
set_option linter.unusedVariables false
set_option linter.unusedSimpArgs false
set_option maxRecDepth 100000
set_option linter.unusedVariables false
set_option linter.unusedSimpArgs false
namespace Go.Ab
open Go.Proofs
def bn (k:Nat) (v0:Tyt)  : Nat→Int→Option Bool
 | 0,_=>none
 | n+1,s3=>
 bif decide (s3<(↑v0.length:Int)) then
 bif decide (s3≤(40:Int)) then
 ob (idx v0 s3) fun x6=>
 bif decide ((40:Int)<(↑x6.2.length:Int)) then
 some (false)
 else
 bn k v0  n (IntKind.i64.wrap (s3+(1:Int)))
 else
 some (decide ((↑v0.length:Int)≤(40:Int)))
 else
 some (decide ((↑v0.length:Int)≤(40:Int)))
theorem lk (k:Nat) (v0:Tyt):∀ (n:Nat) (s3:Int),rt none (itX (xX (xS k) 21 0 k false) rx (0) (av (xX (xS k) 21 0 k false) (aD (xS k).P Tryz.f21) HZ) n ⟨[.ro (List.map ap v0),uu,.lit (.bool false),.lit (.int .i64 s3),.junk,.junk,.junk,.junk,.junk,.junk,.junk,.junk,.junk,.junk,.junk,.junk,.junk,.junk,.junk,.junk,.junk,uu,uu,uu],[]⟩)=ob (bn k v0  n s3) fun r=>some ((.lit (.bool r)),[]):=by
 intro n
 induction n with
 | zero=>intros;rfl
 | succ n ih=>
  intro s3
  rw [bn]
  simp -implicitDefEqProofs only [afK,acm,aca,MV,Kp,pz,pR,↓syP,syA,syD,simprocAttr,syE,aj,ag,af,syW,xQ,Ru,ih]
def cX (k:Nat) (v0:Tyt):Option Bool:=
 bn k v0 k 0
theorem fT (k:Nat) (v0:Tyt):xC (k+1) none 21 [.ro (List.map ap v0)]=ob (cX k v0) fun r=>some ((.lit (.bool r)),[]):=by
 rw [aO]
 unfold cX
 simp -implicitDefEqProofs only [afK,acm,aca,MV,Kp,pz,pR,↓syP,syA,syD,simprocAttr,syE,aj,ag,af,syW,xQ,lk k v0]
def fc (v0:(Int×List Int)):Option Bool:=
 bif decide (v0.1<0) then
 some true
 else
 some (decide (20<v0.1))
theorem Ak (k:Nat) (v0_0:Int) (v0_1:List Int):xC (k+1) none 99 [.agg [.lit (.int .i64 v0_0),.ro (List.map (aQ .i64) v0_1)]]=ob (fc (v0_0,v0_1)) fun r=>some ((.lit (.bool r)),[]):=by
 rw [aO]
 unfold fc
 simp -implicitDefEqProofs only [abx,aal,Ev,lm,↓syP,syA,syD,simprocAttr,syE,aj,ag,af,syW,xQ]
def aC (k:Nat) (v0:Tyt)  : Nat→Int→Option Int
 | 0,_=>none
 | n+1,sT=>
 bif decide (sT<(↑v0.length:Int)) then
 ob (idx v0 sT) fun xy=>
 ob (fc (xy.1,xy.2)) fun x18=>
 bif x18 then
 some (sT)
 else
 aC k v0  n (IntKind.i64.wrap (sT+(1:Int)))
 else
 some ((-1:Int))
theorem dA (k:Nat) (v0:Tyt):∀ (n:Nat) (sT:Int) ⦃j11:V⦄,rt none (itX (xX (xS (k+8)) 147 0 (k+8) false) BB (0) (av (xX (xS (k+8)) 147 0 (k+8) false) (aD (xS (k+8)).P Tryz.f147) B8) n ⟨[.ro (List.map ap v0),.fn (Fn.func (99:FuncId)) [] [],uu,uu,.lit (.int .i64 (0:Int)),j11,.ro (List.map ap v0),.lit (.int .i64 (↑v0.length:Int)),.lit (.int .i64 sT),.junk,.junk,.junk,.junk,.junk,.junk,.junk,.junk,.junk,.junk],[]⟩)=ob (aC k v0  n sT) fun r=>some ((.lit (.int .i64 r)),[]):=by
 intro n
 induction n with
 | zero=>intros;rfl
 | succ n ih=>
  intro sT j11
  rw [aC]
  simp -implicitDefEqProofs only [JU,Fz,FE,ny,fo,↓syP,syA,syD,simprocAttr,syE,aj,ag,af,syW,xQ,Ak,Nv,ih]
def aY (k:Nat) (v0:Tyt):Option Int:=
 aC k v0 (k+8) 0
theorem eh (k:Nat) (v0:Tyt):xC (k+9) none 147 [.ro (List.map ap v0),.fn (Fn.func (99:FuncId)) [] []]=ob (aY k v0) fun r=>some ((.lit (.int .i64 r)),[]):=by
 rw [aO]
 unfold aY
 simp -implicitDefEqProofs only [JU,Fz,FE,ny,fo,↓syP,syA,syD,simprocAttr,syE,aj,ag,af,syW,xQ,dA k v0]
def aM (k:Nat) (v0:Tyt):Option Bool:=
 ob (aY (k+8) v0) fun x20=>
 some (decide (0≤x20))
theorem bh (k:Nat) (v0:Tyt):xC (k+18) none 98 [.ro (List.map ap v0),.fn (Fn.func (99:FuncId)) [] []]=ob (aM k v0) fun r=>some ((.lit (.bool r)),[]):=by
 rw [aO]
 unfold aM
 simp -implicitDefEqProofs only [abk,YW,JU,Fz,FE,ny,fo,↓syP,syA,syD,simprocAttr,syE,aj,ag,af,syW,xQ,eh]
def cM (k:Nat) (v0:Tyt) (o0:Int→List Bool→Option Bool):Nat→List Int→Int→Int→List Bool→Int→Option Bool
 | 0,_,_,_,_,_=>none
 | n+1,sO,sY,sW,sU,sP=>
 bif decide (sW<sY) then
 ob (idx sO sW) fun xP=>
 bif decide (xP≤sP) then
 some (false)
 else
 bif decide ((↑v0.length:Int)≤xP) then
 some (false)
 else
 bif decide ((0:Int)≤xP∧xP.toNat<v0.length) then
 ob (sU[xP.toNat]?) fun xN=>
 bif xN then
 some (false)
 else
 bif decide ((0:Int)≤xP∧xP.toNat<v0.length) then
 ob (sU[xP.toNat]?) fun xz=>
 cM k v0 o0 n (sO) (sY) (IntKind.i64.wrap (sW+(1:Int))) (sU.set xP.toNat true) (sP)
 else
 none
 else
 none
 else
 o0 (IntKind.i64.wrap (sP+(1:Int))) (sU)
theorem ot (k:Nat) (v0:Tyt) (n23:Nat) (o0:Int→List Bool→Option Bool) (ho0:∀ (sF:Int) (sI:List Bool) ⦃sM:Bool⦄ ⦃j40 j41 j50:V⦄,rt none (bq (itX (xX (xS (k+17)) 148 0 (k+17) false) iR (7) (av (xX (xS (k+17)) 148 0 (k+17) false) (aD (xS (k+17)).P Tryz.f148) lQ) n23 ⟨[.yld 6,.ptr 5 0 0 0,uu,j40,j41,uu,j50,.ro (List.map ap v0),.lit (.int .i64 (↑v0.length:Int)),.lit (.int .i64 sF),.junk,.junk,.junk,.junk,.junk,.junk,.junk,.junk,.junk,.junk,.junk,.junk,.junk,.junk,.junk,.junk,.junk,.junk],[.box [.ro (List.map ap v0)],.box [.lit (.bool false)],.rows 1 (List.map Ai sI) 0 true,.rows 0 [] 0 true,.box [.own 2 0 v0.length],.box [.ro (List.map ap v0)],(.loop ⟨LoopState.ready,none,56,[.ro (List.map ap v0),.ptr 0 0 0 0,.ptr 1 0 0 0,.ptr 4 0 0 0,uu,uu,.ro (List.map ap v0),.lit (.int .i64 (↑v0.length:Int)),.lit (.bool (decide ((30:Int)<(↑v0.length:Int)))),.lit (.bool false),.ro (List.map ap v0),.lit (.bool sM),.lit (.bool sM),.ro (List.map ap v0),.lit (.int .i64 (↑v0.length:Int)),.own 2 0 v0.length,.ro (List.map ap v0),.fn (Fn.func (148:FuncId)) [] [.ptr 5 0 0 0],uu,uu,uu,uu,uu,uu,uu,uu,uu,uu,uu,uu,uu,uu,uu,uu,uu,uu,uu,uu],[(18:Tmp),(19:Tmp)],EE,Ed⟩)]⟩) (rfK (av (xX (xS (k+18)) 56 0 (k+18) false) (aD (xS (k+18)).P Tryz.f56) AT) [.ro (List.map ap v0),.ptr 0 0 0 0,.ptr 1 0 0 0,.ptr 4 0 0 0,uu,uu,.ro (List.map ap v0),.lit (.int .i64 (↑v0.length:Int)),.lit (.bool (decide ((30:Int)<(↑v0.length:Int)))),.lit (.bool false),.ro (List.map ap v0),.lit (.bool sM),.lit (.bool sM),.ro (List.map ap v0),.lit (.int .i64 (↑v0.length:Int)),.own 2 0 v0.length,.ro (List.map ap v0),.fn (Fn.func (148:FuncId)) [] [.ptr 5 0 0 0],uu,uu,uu,uu,uu,uu,uu,uu,uu,uu,uu,uu,uu,uu,uu,uu,uu,uu,uu,uu] (6)))=ob (o0 sF sI) fun r=>some ((.lit (.bool r)),[])):∀ (n:Nat) (sO:List Int) (sY sW:Int) (sU:List Bool) (sP:Int) ⦃sd:Int⦄ ⦃sb sf:Bool⦄ ⦃j37:V⦄,rt none (bq (itX (xX (xS (k+17)) 148 0 (k+17) false) wu (9) (av (xX (xS (k+17)) 148 0 (k+17) false) (dc (xX (xS (k+17)) 148 0 (k+17) false) iR 7 (av (xX (xS (k+17)) 148 0 (k+17) false) (aD (xS (k+17)).P Tryz.f148) lQ) n23) u3) n ⟨[.yld 6,.ptr 5 0 0 0,uu,.lit (.int .i64 sP),.ptr 8 0 0 0,uu,j37,.ro (List.map ap v0),.lit (.int .i64 (↑v0.length:Int)),.lit (.int .i64 sP),.lit (.bool sf),.lit (.int .i64 sP),.rp [.lit (.int .i64 sd),.ro (List.map (aQ IntKind.i64) sO)],.agg [.lit (.int .i64 sd),.ro (List.map (aQ IntKind.i64) sO)],.ptr 8 0 0 1,.ro (List.map (aQ IntKind.i64) sO),.lit (.int .i64 sY),.lit (.int .i64 sW),.junk,.junk,.junk,.junk,.junk,.junk,.junk,.junk,.junk,.junk],[.box [.ro (List.map ap v0)],.box [.lit (.bool false)],.rows 1 (List.map Ai sU) 0 true,.rows 0 [] 0 true,.box [.own 2 0 v0.length],.box [.ro (List.map ap v0)],(.loop ⟨LoopState.ready,none,56,[.ro (List.map ap v0),.ptr 0 0 0 0,.ptr 1 0 0 0,.ptr 4 0 0 0,uu,uu,.ro (List.map ap v0),.lit (.int .i64 (↑v0.length:Int)),.lit (.bool (decide ((30:Int)<(↑v0.length:Int)))),.lit (.bool false),.ro (List.map ap v0),.lit (.bool sb),.lit (.bool sb),.ro (List.map ap v0),.lit (.int .i64 (↑v0.length:Int)),.own 2 0 v0.length,.ro (List.map ap v0),.fn (Fn.func (148:FuncId)) [] [.ptr 5 0 0 0],uu,uu,uu,uu,uu,uu,uu,uu,uu,uu,uu,uu,uu,uu,uu,uu,uu,uu,uu,uu],[(18:Tmp),(19:Tmp)],EE,Ed⟩),.rows 0 [] 0 true,.box [.lit (.int .i64 sd),.ro (List.map (aQ IntKind.i64) sO)]]⟩) (rfK (av (xX (xS (k+18)) 56 0 (k+18) false) (aD (xS (k+18)).P Tryz.f56) AT) [.ro (List.map ap v0),.ptr 0 0 0 0,.ptr 1 0 0 0,.ptr 4 0 0 0,uu,uu,.ro (List.map ap v0),.lit (.int .i64 (↑v0.length:Int)),.lit (.bool (decide ((30:Int)<(↑v0.length:Int)))),.lit (.bool false),.ro (List.map ap v0),.lit (.bool sb),.lit (.bool sb),.ro (List.map ap v0),.lit (.int .i64 (↑v0.length:Int)),.own 2 0 v0.length,.ro (List.map ap v0),.fn (Fn.func (148:FuncId)) [] [.ptr 5 0 0 0],uu,uu,uu,uu,uu,uu,uu,uu,uu,uu,uu,uu,uu,uu,uu,uu,uu,uu,uu,uu] (6)))=ob (cM k v0 o0 n sO sY sW sU sP) fun r=>some ((.lit (.bool r)),[]):=by
 intro n
 induction n with
 | zero=>intros;rfl
 | succ n ih=>
  intro sO sY sW sU sP sd sb sf j37
  rw [cM]
  simp -implicitDefEqProofs only [adn,abo,abz,Hu,G0,eb,d8,Hq,He,mS,m7,m9,u2,abk,YW,abx,aal,Ev,lm,Jq,F2,aO (g:=100),JU,Fz,FE,ny,fo,Jf,GF,GH,nL,nE,fk,fp,↓syP,syA,syD,simprocAttr,syE,aj,ag,af,syW,xQ,bh,Gt,ih,ho0]
def bL (k:Nat) (v0:Tyt)  : Nat→Int→List Bool→Option Bool
 | 0,_,_=>none
 | n+1,sF,sI=>
 bif decide (sF<(↑v0.length:Int)) then
 ob (idx v0 sF) fun x58=>
 cM k v0 (fun sF sI=>bL k v0  n sF sI) (k+17) (x58.2) ((↑x58.2.length:Int)) ((0:Int)) (sI) (sF)
 else
 some (true)
theorem oG (k:Nat) (v0:Tyt):∀ (n:Nat) (sF:Int) (sI:List Bool) ⦃sM:Bool⦄ ⦃j40 j41 j50:V⦄,rt none (bq (itX (xX (xS (k+17)) 148 0 (k+17) false) iR (7) (av (xX (xS (k+17)) 148 0 (k+17) false) (aD (xS (k+17)).P Tryz.f148) lQ) n ⟨[.yld 6,.ptr 5 0 0 0,uu,j40,j41,uu,j50,.ro (List.map ap v0),.lit (.int .i64 (↑v0.length:Int)),.lit (.int .i64 sF),.junk,.junk,.junk,.junk,.junk,.junk,.junk,.junk,.junk,.junk,.junk,.junk,.junk,.junk,.junk,.junk,.junk,.junk],[.box [.ro (List.map ap v0)],.box [.lit (.bool false)],.rows 1 (List.map Ai sI) 0 true,.rows 0 [] 0 true,.box [.own 2 0 v0.length],.box [.ro (List.map ap v0)],(.loop ⟨LoopState.ready,none,56,[.ro (List.map ap v0),.ptr 0 0 0 0,.ptr 1 0 0 0,.ptr 4 0 0 0,uu,uu,.ro (List.map ap v0),.lit (.int .i64 (↑v0.length:Int)),.lit (.bool (decide ((30:Int)<(↑v0.length:Int)))),.lit (.bool false),.ro (List.map ap v0),.lit (.bool sM),.lit (.bool sM),.ro (List.map ap v0),.lit (.int .i64 (↑v0.length:Int)),.own 2 0 v0.length,.ro (List.map ap v0),.fn (Fn.func (148:FuncId)) [] [.ptr 5 0 0 0],uu,uu,uu,uu,uu,uu,uu,uu,uu,uu,uu,uu,uu,uu,uu,uu,uu,uu,uu,uu],[(18:Tmp),(19:Tmp)],EE,Ed⟩)]⟩) (rfK (av (xX (xS (k+18)) 56 0 (k+18) false) (aD (xS (k+18)).P Tryz.f56) AT) [.ro (List.map ap v0),.ptr 0 0 0 0,.ptr 1 0 0 0,.ptr 4 0 0 0,uu,uu,.ro (List.map ap v0),.lit (.int .i64 (↑v0.length:Int)),.lit (.bool (decide ((30:Int)<(↑v0.length:Int)))),.lit (.bool false),.ro (List.map ap v0),.lit (.bool sM),.lit (.bool sM),.ro (List.map ap v0),.lit (.int .i64 (↑v0.length:Int)),.own 2 0 v0.length,.ro (List.map ap v0),.fn (Fn.func (148:FuncId)) [] [.ptr 5 0 0 0],uu,uu,uu,uu,uu,uu,uu,uu,uu,uu,uu,uu,uu,uu,uu,uu,uu,uu,uu,uu] (6)))=ob (bL k v0  n sF sI) fun r=>some ((.lit (.bool r)),[]):=by
 intro n
 induction n with
 | zero=>intros;rfl
 | succ n ih=>
  intro sF sI sM j40 j41 j50
  rw [bL]
  simp -implicitDefEqProofs only [adn,abo,abz,Hu,G0,eb,d8,Hq,He,mS,m7,m9,u2,abk,YW,abx,aal,Ev,lm,Jq,F2,aO (g:=100),JU,Fz,FE,ny,fo,Jf,GF,GH,nL,nE,fk,fp,↓syP,syA,syD,simprocAttr,syE,aj,ag,af,syW,xQ,bh,Fc,ih,ot k v0 _ (fun sF sI=>bL k v0  n sF sI) ih]
def cC (k:Nat) (v0:Tyt):Option Bool:=
 bif decide (30<(↑v0.length:Int)) then
 some false
 else
 ob (aM k v0) fun xc=>
 bif xc then
 some false
 else
 bif decide (0≤(↑v0.length:Int)∧(↑v0.length:Int)≤9223372036854775807∧(↑v0.length:Int)*1≤70368744177664) then
 bL k v0 (k+17) 0 (List.replicate v0.length false)
 else
 none
theorem cF (k:Nat) (v0:Tyt):xC (k+19) none 56 [.ro (List.map ap v0)]=ob (cC k v0) fun r=>some ((.lit (.bool r)),[]):=by
 rw [aO]
 unfold cC
 simp -implicitDefEqProofs only [adn,abo,abz,Hu,G0,eb,d8,Hq,He,mS,m7,m9,u2,abk,YW,abx,aal,Ev,lm,Jq,F2,aO (g:=100),JU,Fz,FE,ny,fo,Jf,GF,GH,nL,nE,fk,fp,↓syP,syA,syD,simprocAttr,syE,aj,ag,af,syW,xQ,bh,oG k v0]
def bP (k:Nat) (v0:Tyt) (v1:Int) (o0:Int→Option Int):Nat→List Int→Int→Int→Int→Option Int
 | 0,_,_,_,_=>none
 | n+1,sG,sE,sC,sH=>
 bif decide (sC<sE) then
 ob (idx sG sC) fun x137=>
 bif x137==v1 then
 some (sH)
 else
 bP k v0 v1 o0 n (sG) (sE) (IntKind.i64.wrap (sC+(1:Int))) (sH)
 else
 o0 (IntKind.i64.wrap (sH+(1:Int)))
theorem mN (k:Nat) (v0:Tyt) (v1:Int) (n108:Nat) (o0:Int→Option Int) (ho0:∀ (sD:Int) ⦃sR:Bool⦄ ⦃j122 j123 j130:V⦄,rt none (bq (itX (xX (xS (k+18)) 148 0 (k+18) false) iR (4) (av (xX (xS (k+18)) 148 0 (k+18) false) (aD (xS (k+18)).P Tryz.f148) lQ) n108 ⟨[.yld 3,.ptr 2 0 0 0,uu,j122,j123,uu,j130,.ro (List.map ap v0),.lit (.int .i64 (↑v0.length:Int)),.lit (.int .i64 sD),.junk,.junk,.junk,.junk,.junk,.junk,.junk,.junk,.junk,.junk,.junk,.junk,.junk,.junk,.junk,.junk,.junk,.junk],[.box [.lit (.int .i64 v1)],.box [.lit (.int .i64 (0:Int))],.box [.ro (List.map ap v0)],(.loop ⟨LoopState.ready,none,101,[.ro (List.map ap v0),.lit (.int .i64 v1),uu,.ptr 0 0 0 0,.ptr 1 0 0 0,uu,uu,.ro (List.map ap v0),.lit (.bool sR),.ro (List.map ap v0),.fn (Fn.func (148:FuncId)) [] [.ptr 2 0 0 0],uu,uu,uu,uu,uu,uu],[(11:Tmp),(12:Tmp)],ui,wL⟩)]⟩) (rfK (av (xX (xS (k+19)) 101 0 (k+19) false) (aD (xS (k+19)).P Tryz.f101) pC) [.ro (List.map ap v0),.lit (.int .i64 v1),uu,.ptr 0 0 0 0,.ptr 1 0 0 0,uu,uu,.ro (List.map ap v0),.lit (.bool sR),.ro (List.map ap v0),.fn (Fn.func (148:FuncId)) [] [.ptr 2 0 0 0],uu,uu,uu,uu,uu,uu] (3)))=ob (o0 sD) fun r=>some ((.lit (.int .i64 r)),[])):∀ (n:Nat) (sG:List Int) (sE sC sH:Int) ⦃sa:Int⦄ ⦃sc se:Bool⦄ ⦃j120:V⦄,rt none (bq (itX (xX (xS (k+18)) 148 0 (k+18) false) wu (6) (av (xX (xS (k+18)) 148 0 (k+18) false) (dc (xX (xS (k+18)) 148 0 (k+18) false) iR 4 (av (xX (xS (k+18)) 148 0 (k+18) false) (aD (xS (k+18)).P Tryz.f148) lQ) n108) u3) n ⟨[.yld 3,.ptr 2 0 0 0,uu,.lit (.int .i64 sH),.ptr 5 0 0 0,uu,j120,.ro (List.map ap v0),.lit (.int .i64 (↑v0.length:Int)),.lit (.int .i64 sH),.lit (.bool se),.lit (.int .i64 sH),.rp [.lit (.int .i64 sa),.ro (List.map (aQ IntKind.i64) sG)],.agg [.lit (.int .i64 sa),.ro (List.map (aQ IntKind.i64) sG)],.ptr 5 0 0 1,.ro (List.map (aQ IntKind.i64) sG),.lit (.int .i64 sE),.lit (.int .i64 sC),.junk,.junk,.junk,.junk,.junk,.junk,.junk,.junk,.junk,.junk],[.box [.lit (.int .i64 v1)],.box [.lit (.int .i64 (0:Int))],.box [.ro (List.map ap v0)],(.loop ⟨LoopState.ready,none,101,[.ro (List.map ap v0),.lit (.int .i64 v1),uu,.ptr 0 0 0 0,.ptr 1 0 0 0,uu,uu,.ro (List.map ap v0),.lit (.bool sc),.ro (List.map ap v0),.fn (Fn.func (148:FuncId)) [] [.ptr 2 0 0 0],uu,uu,uu,uu,uu,uu],[(11:Tmp),(12:Tmp)],ui,wL⟩),.rows 0 [] 0 true,.box [.lit (.int .i64 sa),.ro (List.map (aQ IntKind.i64) sG)]]⟩) (rfK (av (xX (xS (k+19)) 101 0 (k+19) false) (aD (xS (k+19)).P Tryz.f101) pC) [.ro (List.map ap v0),.lit (.int .i64 v1),uu,.ptr 0 0 0 0,.ptr 1 0 0 0,uu,uu,.ro (List.map ap v0),.lit (.bool sc),.ro (List.map ap v0),.fn (Fn.func (148:FuncId)) [] [.ptr 2 0 0 0],uu,uu,uu,uu,uu,uu] (3)))=ob (bP k v0 v1 o0 n sG sE sC sH) fun r=>some ((.lit (.int .i64 r)),[]):=by
 intro n
 induction n with
 | zero=>intros;rfl
 | succ n ih=>
  intro sG sE sC sH sa sc se j120
  rw [bP]
  simp -implicitDefEqProofs only [Jq,F2,aO (g:=100),Wq,PW,N5,Cl,dQ,dM,lZ,pN,Jf,GF,GH,nL,nE,fk,fp,↓syP,syA,syD,simprocAttr,syE,aj,ag,af,syW,xQ,cF,Gt,ih,ho0]
def bk (k:Nat) (v0:Tyt) (v1:Int)  : Nat→Int→Option Int
 | 0,_=>none
 | n+1,sD=>
 bif decide (sD<(↑v0.length:Int)) then
 ob (idx v0 sD) fun x135=>
 bP k v0 v1 (fun sD=>bk k v0 v1  n sD) (k+18) (x135.2) ((↑x135.2.length:Int)) ((0:Int)) (sD)
 else
 some ((-1:Int))
theorem mG (k:Nat) (v0:Tyt) (v1:Int):∀ (n:Nat) (sD:Int) ⦃sR:Bool⦄ ⦃j122 j123 j130:V⦄,rt none (bq (itX (xX (xS (k+18)) 148 0 (k+18) false) iR (4) (av (xX (xS (k+18)) 148 0 (k+18) false) (aD (xS (k+18)).P Tryz.f148) lQ) n ⟨[.yld 3,.ptr 2 0 0 0,uu,j122,j123,uu,j130,.ro (List.map ap v0),.lit (.int .i64 (↑v0.length:Int)),.lit (.int .i64 sD),.junk,.junk,.junk,.junk,.junk,.junk,.junk,.junk,.junk,.junk,.junk,.junk,.junk,.junk,.junk,.junk,.junk,.junk],[.box [.lit (.int .i64 v1)],.box [.lit (.int .i64 (0:Int))],.box [.ro (List.map ap v0)],(.loop ⟨LoopState.ready,none,101,[.ro (List.map ap v0),.lit (.int .i64 v1),uu,.ptr 0 0 0 0,.ptr 1 0 0 0,uu,uu,.ro (List.map ap v0),.lit (.bool sR),.ro (List.map ap v0),.fn (Fn.func (148:FuncId)) [] [.ptr 2 0 0 0],uu,uu,uu,uu,uu,uu],[(11:Tmp),(12:Tmp)],ui,wL⟩)]⟩) (rfK (av (xX (xS (k+19)) 101 0 (k+19) false) (aD (xS (k+19)).P Tryz.f101) pC) [.ro (List.map ap v0),.lit (.int .i64 v1),uu,.ptr 0 0 0 0,.ptr 1 0 0 0,uu,uu,.ro (List.map ap v0),.lit (.bool sR),.ro (List.map ap v0),.fn (Fn.func (148:FuncId)) [] [.ptr 2 0 0 0],uu,uu,uu,uu,uu,uu] (3)))=ob (bk k v0 v1  n sD) fun r=>some ((.lit (.int .i64 r)),[]):=by
 intro n
 induction n with
 | zero=>intros;rfl
 | succ n ih=>
  intro sD sR j122 j123 j130
  rw [bk]
  simp -implicitDefEqProofs only [Jq,F2,aO (g:=100),Wq,PW,N5,Cl,dQ,dM,lZ,pN,Jf,GF,GH,nL,nE,fk,fp,↓syP,syA,syD,simprocAttr,syE,aj,ag,af,syW,xQ,cF,Fc,ih,mN k v0 v1 _ (fun sD=>bk k v0 v1  n sD) ih]
def eF (k:Nat) (v0:Tyt) (v1:Int):Option Int:=
 ob (cC k v0) fun x138=>
 bif x138 then
 bk k v0 v1 (k+18) 0
 else
 some ((-1))
theorem wV (k:Nat) (v0:Tyt) (v1:Int):xC (k+20) none 101 [.ro (List.map ap v0),.lit (.int .i64 v1)]=ob (eF k v0 v1) fun r=>some ((.lit (.int .i64 r)),[]):=by
 rw [aO]
 unfold eF
 simp -implicitDefEqProofs only [Jq,F2,aO (g:=100),Wq,PW,N5,Cl,dQ,dM,lZ,pN,Jf,GF,GH,nL,nE,fk,fp,↓syP,syA,syD,simprocAttr,syE,aj,ag,af,syW,xQ,cF,mG k v0 v1]
end Go.Ab
set_option maxRecDepth 100000
set_option linter.unusedVariables false
set_option linter.unusedSimpArgs false
namespace Go.Ab
open Go.Proofs
def ea (v0:Int) (v1:Int) (v2:Int):Option Bool:=
 bif decide (v1≤v0) then
 some (decide (v0≤v2))
 else
 some false
theorem l9 (k:Nat) (v0 v1 v2:Int):xC (k+1) none 93 [.lit (.int .i64 v0),.lit (.int .i64 v1),.lit (.int .i64 v2)]=ob (ea v0 v1 v2) fun r=>some ((.lit (.bool r)),[]):=by
 rw [aO]
 unfold ea
 simp -implicitDefEqProofs only [af3,afj,RI,Bh,↓syP,syA,syD,simprocAttr,syE,aj,ag,af,syW,xQ]
def bO (v0:(Int×Int×Int×Int)):Option Bool:=
 ob (ea v0.1 1 8) fun x5=>
 bif x5 then
 ob (ea v0.2.1 1 16) fun x6=>
 bif x6 then
 bif r8 IntKind.i64 v0.2.1 (IntKind.i64.wrap (v0.2.1 - 1))==0 then
 ob (ea v0.2.2.1 1 16) fun x7=>
 bif x7 then
 ob (ea v0.2.2.2 0 4) fun x8=>
 some x8
 else
 some false
 else
 some false
 else
 some false
 else
 some false
theorem bX (k:Nat) (v0_0 v0_1 v0_2 v0_3:Int):xC (k+2) none 50 [.agg [.lit (.int .i64 v0_0),.lit (.int .i64 v0_1),.lit (.int .i64 v0_2),.lit (.int .i64 v0_3)]]=ob (bO (v0_0,v0_1,v0_2,v0_3)) fun r=>some ((.lit (.bool r)),[]):=by
 rw [aO]
 unfold bO
 simp -implicitDefEqProofs only [agh,afM,RP,Sb,Sp,RH,AL,↓syP,syA,syD,simprocAttr,syE,aj,ag,af,syW,xQ,l9]
def eI (v0:(Int×Int×Int×Int)) (v1:Int):Option Int:=
 some (IntKind.i64.wrap (IntKind.i64.wrap (6+IntKind.i64.wrap (2*v0.2.2.1))+IntKind.i64.wrap (v1*IntKind.i64.wrap (3+v0.2.1))))
theorem k7 (k:Nat) (v0_0 v0_1 v0_2 v0_3 v1:Int):xC (k+1) none 72 [.agg [.lit (.int .i64 v0_0),.lit (.int .i64 v0_1),.lit (.int .i64 v0_2),.lit (.int .i64 v0_3)],.lit (.int .i64 v1)]=ob (eI (v0_0,v0_1,v0_2,v0_3) v1) fun r=>some ((.lit (.int .i64 r)),[]):=by
 rw [aO]
 unfold eI
 simp -implicitDefEqProofs only [af4,aft,↓syP,syA,syD,simprocAttr,syE,aj,ag,af,syW,xQ]
def dx (v0:(Int×Int×Int×Int)):Option Int:=
 ob (bO v0) fun x16=>
 bif !x16 then
 some 0
 else
 ob (eI v0 v0.1) fun xy=>
 some xy
theorem gi (k:Nat) (v0_0 v0_1 v0_2 v0_3:Int):xC (k+3) none 103 [.agg [.lit (.int .i64 v0_0),.lit (.int .i64 v0_1),.lit (.int .i64 v0_2),.lit (.int .i64 v0_3)]]=ob (dx (v0_0,v0_1,v0_2,v0_3)) fun r=>some ((.lit (.int .i64 r)),[]):=by
 rw [aO]
 unfold dx
 simp -implicitDefEqProofs only [aeT,aa3,↓syP,syA,syD,simprocAttr,syE,aj,ag,af,syW,xQ,bX,k7]
def gu (v0:(List Int)) (v1:Int):Option Bool:=
 bif decide (0≤v1) then
 some (decide (v1<(↑v0.length:Int)))
 else
 some false
theorem oo (k:Nat) (v0:List Int) (v1:Int):xC (k+1) none 66 [.ro (List.map (aQ .u64) v0),.lit (.int .i64 v1)]=ob (gu v0 v1) fun r=>some ((.lit (.bool r)),[]):=by
 rw [aO]
 unfold gu
 simp -implicitDefEqProofs only [agp,afJ,Se,A4,↓syP,syA,syD,simprocAttr,syE,aj,ag,af,syW,xQ]
def aH (v0:(List Int)) (v1:Int):Option Int:=
 ob (gu v0 v1) fun x22=>
 bif !x22 then
 some 0
 else
 ob (idx v0 v1) fun x23=>
 some x23
theorem cI (k:Nat) (v0:List Int) (v1:Int):xC (k+2) none 27 [.ro (List.map (aQ .u64) v0),.lit (.int .i64 v1)]=ob (aH v0 v1) fun r=>some ((.lit (.int .u64 r)),[]):=by
 rw [aO]
 unfold aH
 simp -implicitDefEqProofs only [agq,afl,↓syP,syA,syD,simprocAttr,syE,aj,ag,af,syW,xQ,oo]
def br (v0:(List Int)) (v1:Int) (v2:Int):Option (List Int):=
 ob (aP 8 v0) fun xd=>
 ob (gu v0 v1) fun xt=>
 bif !xt then
 some xd
 else
 ob (idx v0 v1) fun x33=>
 bif decide (0≤v1∧v1.toNat<xd.length) then
 ob (xd[v1.toNat]?) fun x34=>
 ob (idx v0 v1) fun x35=>
 some (xd.set v1.toNat v2)
 else
 none
theorem eH (k:Nat) (v0:List Int) (v1 v2:Int):xC (k+11) none 88 [.ro (List.map (aQ .u64) v0),.lit (.int .i64 v1),.lit (.int .u64 v2)]=ob (br v0 v1 v2) fun r=>some ((.ro (List.map (aQ .u64) r)),[]):=by
 rw [aO]
 unfold br
 simp -implicitDefEqProofs only [af7,afn,SV,NV,ab4,X7,↓syP,syA,syD,simprocAttr,syE,aj,ag,af,syW,xQ,oo]
def cS (v0:(List Int)) (v1:Int) (v2:Int):Option ((List Int)×Int):=
 ob (aP 8 v0) fun xq=>
 ob (gu v0 v1) fun xh=>
 bif !xh then
 some (xq,0)
 else
 ob (idx v0 v1) fun x48=>
 bif decide (0≤v1∧v1.toNat<xq.length) then
 ob (xq[v1.toNat]?) fun xn=>
 ob (idx v0 v1) fun x50=>
 some ((xq.set v1.toNat (IntKind.u64.wrap (x48+v2))),x50)
 else
 none
theorem A0 (k:Nat) (v0:List Int) (v1 v2:Int):xC (k+11) none 138 [.ro (List.map (aQ .u64) v0),.lit (.int .i64 v1),.lit (.int .u64 v2)]=ob (cS v0 v1 v2) fun r=>some ((.tup [.ro (List.map (aQ .u64) r.1),.lit (.int .u64 r.2)]),[]):=by
 rw [aO]
 unfold cS
 simp -implicitDefEqProofs only [aeM,aa7,SV,NV,acf,Yq,↓syP,syA,syD,simprocAttr,syE,aj,ag,af,syW,xQ,oo]
def cT (v0 : (List Int)) (v1 : Int) (v2 : Int) (v3 : Int) : Option ((List Int) × Bool) :=
 ob (aP 8 v0) fun xN =>
 ob (gu v0 v1) fun xz =>
 bif !xz then
 some (xN,false)
 else
 ob (idx v0 v1) fun xc =>
 bif xc != v2 then
 bif decide (0 ≤ v1 ∧ v1.toNat < xN.length) then
 ob (xN[v1.toNat]?) fun x66 =>
 ob (idx v0 v1) fun x67 =>
 some ((xN.set v1.toNat xc),false)
 else
 none
 else
 bif decide (0 ≤ v1 ∧ v1.toNat < xN.length) then
 ob (xN[v1.toNat]?) fun x68 =>
 ob (idx v0 v1) fun x69 =>
 some ((xN.set v1.toNat v3),true)
 else
 none
theorem ir (k:Nat) (v0:List Int) (v1 v2 v3:Int):xC (k+11) none 191 [.ro (List.map (aQ .u64) v0),.lit (.int .i64 v1),.lit (.int .u64 v2),.lit (.int .u64 v3)]=ob (cT v0 v1 v2 v3) fun r=>some ((.tup [.ro (List.map (aQ .u64) r.1),.lit (.bool r.2)]),[]):=by
 rw [aO]
 unfold cT
 simp -implicitDefEqProofs only [SV,NV,aeY,Zm,aep,Z2,↓syP,syA,syD,simprocAttr,syE,aj,ag,af,syW,xQ,oo]
def aG (v0:Int) (v1:Int) (v2:Int):Option (Int×Int×Int×Int×Int×Int×Int):=
 some (v0,0,v1,v2,0,0,0)
theorem lT (k:Nat) (v0 v1 v2:Int):xC (k+1) none 104 [.lit (.int .i64 v0),.lit (.int .i64 v1),.lit (.int .u64 v2)]=ob (aG v0 v1 v2) fun r=>some ((.agg [.lit (.int .i64 r.1),.lit (.int .i64 r.2.1),.lit (.int .i64 r.2.2.1),.lit (.int .u64 r.2.2.2.1),.lit (.int .u64 r.2.2.2.2.1),.lit (.int .u64 r.2.2.2.2.2.1),.lit (.int .i64 r.2.2.2.2.2.2)]),[]):=by
 rw [aO]
 unfold aG
 simp -implicitDefEqProofs only [afb,Y6,↓syP,syA,syD,simprocAttr,syE,aj,ag,af,syW,xQ]
def aL (v0:(Int×Int×Int×Int×Int×Int×Int)):Option Bool:=
 some (v0.2.2.2.2.2.2 !=0)
theorem fC (k:Nat) (v0_0 v0_1 v0_2 v0_3 v0_4 v0_5 v0_6:Int):xC (k+1) none 110 [.agg [.lit (.int .i64 v0_0),.lit (.int .i64 v0_1),.lit (.int .i64 v0_2),.lit (.int .u64 v0_3),.lit (.int .u64 v0_4),.lit (.int .u64 v0_5),.lit (.int .i64 v0_6)]]=ob (aL (v0_0,v0_1,v0_2,v0_3,v0_4,v0_5,v0_6)) fun r=>some ((.lit (.bool r)),[]):=by
 rw [aO]
 unfold aL
 simp -implicitDefEqProofs only [aeO,YP,↓syP,syA,syD,simprocAttr,syE,aj,ag,af,syW,xQ]
def aV (v0:(Int×Int×Int×Int×Int×Int×Int)) (v1:Int) (v2:Int):Option (Int×Int×Int×Int×Int×Int×Int):=
 some (v0.1,0,v0.2.2.1,v2,0,0,v1)
theorem fg (k:Nat) (v0_0 v0_1 v0_2 v0_3 v0_4 v0_5 v0_6 v1 v2:Int):xC (k+1) none 193 [.agg [.lit (.int .i64 v0_0),.lit (.int .i64 v0_1),.lit (.int .i64 v0_2),.lit (.int .u64 v0_3),.lit (.int .u64 v0_4),.lit (.int .u64 v0_5),.lit (.int .i64 v0_6)],.lit (.int .i64 v1),.lit (.int .u64 v2)]=ob (aV (v0_0,v0_1,v0_2,v0_3,v0_4,v0_5,v0_6) v1 v2) fun r=>some ((.agg [.lit (.int .i64 r.1),.lit (.int .i64 r.2.1),.lit (.int .i64 r.2.2.1),.lit (.int .u64 r.2.2.2.1),.lit (.int .u64 r.2.2.2.2.1),.lit (.int .u64 r.2.2.2.2.2.1),.lit (.int .i64 r.2.2.2.2.2.2)]),[]):=by
 rw [aO]
 unfold aV
 simp -implicitDefEqProofs only [ae8,aaX,↓syP,syA,syD,simprocAttr,syE,aj,ag,af,syW,xQ]
def kV (v0:Int) (v1:Int):Option Int:=
 bif decide (v1<0) then
 some v0
 else
 bif decide (16≤v1) then
 some v0
 else
 bif decide (0≤v1) then
 some (orI IntKind.u64 v0 (P4 IntKind.u64 1 v1))
 else
 none
theorem IJ (k:Nat) (v0 v1:Int):xC (k+1) none 214 [.lit (.int .u64 v0),.lit (.int .i64 v1)]=ob (kV v0 v1) fun r=>some ((.lit (.int .u64 r)),[]):=by
 rw [aO]
 unfold kV
 simp -implicitDefEqProofs only [aeK,aak,M7,um,↓syP,syA,syD,simprocAttr,syE,aj,ag,af,syW,xQ]
def dF (v0:Int):Option Int:=
 some (RD IntKind.u64 v0 16)
theorem mM (k:Nat) (v0:Int):xC (k+1) none 213 [.lit (.int .u64 v0)]=ob (dF v0) fun r=>some ((.lit (.int .u64 r)),[]):=by
 rw [aO]
 unfold dF
 simp -implicitDefEqProofs only [aeq,YT,↓syP,syA,syD,simprocAttr,syE,aj,ag,af,syW,xQ]
def gg (v0:(Int×Int×Int×Int)) (v1:Int):Option Int:=
 ob (bO v0) fun x80=>
 bif !x80 then
 some ((-1))
 else
 ob (ea v1 0 (IntKind.i64.wrap (v0.1 - 1))) fun x81=>
 bif !x81 then
 some ((-1))
 else
 ob (eI v0 v1) fun x82=>
 some (IntKind.i64.wrap (x82+2))
theorem AH (k:Nat) (v0_0 v0_1 v0_2 v0_3 v1:Int):xC (k+12) none 32 [.agg [.lit (.int .i64 v0_0),.lit (.int .i64 v0_1),.lit (.int .i64 v0_2),.lit (.int .i64 v0_3)],.lit (.int .i64 v1)]=ob (gg (v0_0,v0_1,v0_2,v0_3) v1) fun r=>some ((.lit (.int .i64 r)),[]):=by
 rw [aO]
 unfold gg
 simp -implicitDefEqProofs only [agc,afN,WC,S8,u5,gh,afW,afi,↓syP,syA,syD,simprocAttr,syE,aj,ag,af,syW,xQ,l9,bX,k7]
def cK (v0:Int):Option Int:=
 some (r8 IntKind.u64 v0 65535)
theorem nK (k:Nat) (v0:Int):xC (k+1) none 192 [.lit (.int .u64 v0)]=ob (cK v0) fun r=>some ((.lit (.int .u64 r)),[]):=by
 rw [aO]
 unfold cK
 simp -implicitDefEqProofs only [adQ,aax,↓syP,syA,syD,simprocAttr,syE,aj,ag,af,syW,xQ]
def gr (v0:(Int×Int×Int×Int)) (v1:Int):Option Int:=
 ob (bO v0) fun x89=>
 bif !x89 then
 some ((-1))
 else
 ob (ea v1 0 (IntKind.i64.wrap (v0.1 - 1))) fun x90=>
 bif !x90 then
 some ((-1))
 else
 ob (eI v0 v1) fun x91=>
 some x91
theorem mt (k:Nat) (v0_0 v0_1 v0_2 v0_3 v1:Int):xC (k+12) none 107 [.agg [.lit (.int .i64 v0_0),.lit (.int .i64 v0_1),.lit (.int .i64 v0_2),.lit (.int .i64 v0_3)],.lit (.int .i64 v1)]=ob (gr (v0_0,v0_1,v0_2,v0_3) v1) fun r=>some ((.lit (.int .i64 r)),[]):=by
 rw [aO]
 unfold gr
 simp -implicitDefEqProofs only [WC,S8,u5,gh,acy,ZM,abP,aaa,↓syP,syA,syD,simprocAttr,syE,aj,ag,af,syW,xQ,l9,bX,k7]
def cV (v0:(Int×Int×Int×Int)) (v1:Int):Option Int:=
 ob (bO v0) fun x98=>
 bif !x98 then
 some ((-1))
 else
 ob (ea v1 0 (IntKind.i64.wrap (v0.1 - 1))) fun x99=>
 bif !x99 then
 some ((-1))
 else
 ob (eI v0 v1) fun x100=>
 some (IntKind.i64.wrap (x100+1))
theorem gE (k:Nat) (v0_0 v0_1 v0_2 v0_3 v1:Int):xC (k+12) none 108 [.agg [.lit (.int .i64 v0_0),.lit (.int .i64 v0_1),.lit (.int .i64 v0_2),.lit (.int .i64 v0_3)],.lit (.int .i64 v1)]=ob (cV (v0_0,v0_1,v0_2,v0_3) v1) fun r=>some ((.lit (.int .i64 r)),[]):=by
 rw [aO]
 unfold cV
 simp -implicitDefEqProofs only [WC,S8,u5,gh,ads,Yk,adA,aa8,↓syP,syA,syD,simprocAttr,syE,aj,ag,af,syW,xQ,l9,bX,k7]
def fw (v0:(Int×Int×Int×Int)) (v1:Int) (v2:Int):Option Int:=
 ob (bO v0) fun x107=>
 bif !x107 then
 some ((-1))
 else
 ob (ea v1 0 (IntKind.i64.wrap (v0.1 - 1))) fun x108=>
 bif !x108 then
 some ((-1))
 else
 ob (eI v0 v1) fun xL=>
 some (IntKind.i64.wrap (IntKind.i64.wrap (xL+3)+IntKind.i64.wrap (r8 IntKind.u64 v2 (IntKind.u64.wrap (IntKind.i64.wrap (v0.2.1 - 1))))))
theorem pK (k:Nat) (v0_0 v0_1 v0_2 v0_3 v1 v2:Int):xC (k+12) none 109 [.agg [.lit (.int .i64 v0_0),.lit (.int .i64 v0_1),.lit (.int .i64 v0_2),.lit (.int .i64 v0_3)],.lit (.int .i64 v1),.lit (.int .u64 v2)]=ob (fw (v0_0,v0_1,v0_2,v0_3) v1 v2) fun r=>some ((.lit (.int .i64 r)),[]):=by
 rw [aO]
 unfold fw
 simp -implicitDefEqProofs only [WC,S8,u5,gh,aeZ,Zp,acY,aaM,↓syP,syA,syD,simprocAttr,syE,aj,ag,af,syW,xQ,l9,bX,k7]
def eJ (v0:Int) (v1:Int):Option Int:=
 some (IntKind.i64.wrap (IntKind.u64.wrap (v0 - v1)))
theorem lD (k:Nat) (v0 v1:Int):xC (k+1) none 106 [.lit (.int .u64 v0),.lit (.int .u64 v1)]=ob (eJ v0 v1) fun r=>some ((.lit (.int .i64 r)),[]):=by
 rw [aO]
 unfold eJ
 simp -implicitDefEqProofs only [acn,X2,↓syP,syA,syD,simprocAttr,syE,aj,ag,af,syW,xQ]
def ew (k:Nat) (v0:(Int×Int×Int×Int))  : Nat→Int→List Int→Int→Nat→Option (List Int)
 | 0,_,_,_,_=>none
 | n+1,sE,sK,sS,sC=>
 bif decide (sS<sE) then
 ck (sC==1||sC==0) (
 bif room (sK++[(0:Int)]).length 8 then
 ew k v0  n (sE) (sK++[(0:Int)]) (IntKind.i64.wrap (sS+(1:Int))) (1)
 else
 none)
 else
 some (sK)
theorem mD (k:Nat) (v0_0 v0_1 v0_2 v0_3:Int):∀ (n:Nat) (sE:Int) (sK:List Int) (sS:Int) (sC:Nat) ⦃sA:Nat⦄,rt none (itX (xX (xS (k+3)) 59 0 (k+3) false) Ig (3) (av (xX (xS (k+3)) 59 0 (k+3) false) (aD (xS (k+3)).P Tryz.f59) Is) n ⟨[.agg [.lit (.int .i64 v0_0),.lit (.int .i64 v0_1),.lit (.int .i64 v0_2),.lit (.int .i64 v0_3)],.ptr 0 0 0 0,.own 1 0 0,.own 2 sA sK.length,.agg [.lit (.int .i64 v0_0),.lit (.int .i64 v0_1),.lit (.int .i64 v0_2),.lit (.int .i64 v0_3)],.lit (.int .i64 sE),.lit (.int .i64 sS),.junk,.junk,.junk,.junk,.junk,uu],[.box [.lit (.int .i64 v0_0),.lit (.int .i64 v0_1),.lit (.int .i64 v0_2),.lit (.int .i64 v0_3)],.rows 0 [] 0 true,.rows sC (List.map (aQ IntKind.u64) sK) sA true]⟩)=ob (ew k (v0_0,v0_1,v0_2,v0_3)  n sE sK sS sC) fun r=>some ((.ro (List.map (aQ .u64) r)),[]):=by
 intro n
 induction n with
 | zero=>intros;rfl
 | succ n ih=>
  intro sE sK sS sC sA
  rw [ew]
  simp -implicitDefEqProofs only [afH,ack,abW,MP,pM,↓syP,syA,syD,simprocAttr,syE,aj,ag,af,syW,xQ,gi,Sa,ih]
def lh (k:Nat) (v0:(Int×Int×Int×Int)):Option (List Int):=
 ob (dx v0) fun x123=>
 ew k v0 (k+3) x123 ([]) 0 0
theorem pj (k:Nat) (v0_0 v0_1 v0_2 v0_3:Int):xC (k+4) none 59 [.agg [.lit (.int .i64 v0_0),.lit (.int .i64 v0_1),.lit (.int .i64 v0_2),.lit (.int .i64 v0_3)]]=ob (lh k (v0_0,v0_1,v0_2,v0_3)) fun r=>some ((.ro (List.map (aQ .u64) r)),[]):=by
 rw [aO]
 unfold lh
 have hl0:=fun (x124:Int)=>mD k v0_0 v0_1 v0_2 v0_3 (k+3) (x124) ([]) ((0:Int)) (0)
 try simp -implicitDefEqProofs only [List.map_nil,List.length_nil] at hl0
 simp -implicitDefEqProofs only [afH,ack,abW,MP,pM,↓syP,syA,syD,simprocAttr,syE,aj,ag,af,syW,xQ,gi,mD k v0_0 v0_1 v0_2 v0_3,hl0]
def da (v0:Int) (v1:Int):Option Bool:=
 bif decide (0≤v0) then
 some (decide (v0<v1))
 else
 some false
theorem ru (k:Nat) (v0 v1:Int):xC (k+1) none 81 [.lit (.int .i64 v0),.lit (.int .i64 v1)]=ob (da v0 v1) fun r=>some ((.lit (.bool r)),[]):=by
 rw [aO]
 unfold da
 simp -implicitDefEqProofs only [agu,afF,RR,Bi,↓syP,syA,syD,simprocAttr,syE,aj,ag,af,syW,xQ]
def eP (v0 : Int) (v1 : Int) (v2 : Int) : Option Int :=
 bif decide (v2 < 2) then
 some ((-1))
 else
 ob (da v1 v2) fun x126 =>
 bif !x126 then
 some ((-1))
 else
 bif IntKind.u64.wrap (IntKind.u64.wrap v2 - 1) != 0 then
 bif IntKind.u64.wrap v2 != 0 then
 some (IntKind.i64.wrap ((IntKind.u64.wrap (IntKind.u64.wrap (IntKind.u64.wrap v1 + 1) + v0.tmod (IntKind.u64.wrap (IntKind.u64.wrap v2 - 1)))).tmod (IntKind.u64.wrap v2)))
 else
 none
 else
 none
theorem B7 (k:Nat) (v0 v1 v2:Int):xC (k+2) none 161 [.lit (.int .u64 v0),.lit (.int .i64 v1),.lit (.int .i64 v2)]=ob (eP v0 v1 v2) fun r=>some ((.lit (.int .i64 r)),[]):=by
 rw [aO]
 unfold eP
 simp -implicitDefEqProofs only [acE,YJ,MQ,uW,↓syP,syA,syD,simprocAttr,syE,aj,ag,af,syW,xQ,ru]
def eq (v0:(Int×Int×Int×Int)) (v1:(List Int)) (v2:(Int×Int×Int×Int×Int×Int×Int)) (v3:Int) (v4:Int):Option Bool:=
 ob (bO v0) fun x132=>
 bif x132 then
 ob (dx v0) fun x133=>
 bif (↑v1.length:Int)==x133 then
 ob (aL v2) fun x134=>
 bif !x134 then
 bif decide (0≤v2.2.2.1) then
 bif decide (v2.2.2.1<v0.1) then
 bif v2.1==v3 then
 bif decide (0≤v2.2.1) then
 some (decide (v2.2.1<v4))
 else
 some false
 else
 some false
 else
 some false
 else
 some false
 else
 some false
 else
 some false
 else
 some false
theorem kf (k:Nat) (v0_0 v0_1 v0_2 v0_3:Int) (v1:List Int) (v2_0 v2_1 v2_2 v2_3 v2_4 v2_5 v2_6 v3 v4:Int):xC (k+4) none 188 [.agg [.lit (.int .i64 v0_0),.lit (.int .i64 v0_1),.lit (.int .i64 v0_2),.lit (.int .i64 v0_3)],.ro (List.map (aQ .u64) v1),.agg [.lit (.int .i64 v2_0),.lit (.int .i64 v2_1),.lit (.int .i64 v2_2),.lit (.int .u64 v2_3),.lit (.int .u64 v2_4),.lit (.int .u64 v2_5),.lit (.int .i64 v2_6)],.lit (.int .i64 v3),.lit (.int .i64 v4)]=ob (eq (v0_0,v0_1,v0_2,v0_3) v1 (v2_0,v2_1,v2_2,v2_3,v2_4,v2_5,v2_6) v3 v4) fun r=>some ((.lit (.bool r)),[]):=by
 rw [aO]
 unfold eq
 simp -implicitDefEqProofs only [ae3,Y9,J6,MZ,MG,My,LU,Ml,Mh,uh,↓syP,syA,syD,simprocAttr,syE,aj,ag,af,syW,xQ,bX,gi,fC]
def iM (v0 : (Int × Int × Int × Int)) (v1 : (List Int)) (v2 : (Int × Int × Int × Int × Int × Int × Int)) : Option ((List Int) × (Int × Int × Int × Int × Int × Int × Int)) :=
 ob (aP 8 v1) fun xO =>
 ob (eq v0 v1 v2 5 5) fun x153 =>
 bif x153 then
 bif decide (0 ≤ v2.2.1 ∧ v2.2.1.toNat < 5) then
 bif v2.2.1.toNat == 0 then
 ob (aH xO 2) fun xk =>
 some (xO,(v2.1,1,v2.2.2.1,v2.2.2.2.1,xk,v2.2.2.2.2.2))
 else
 bif v2.2.1.toNat == 1 then
 ob (aH xO 2) fun xu =>
 ob (dF xu) fun xI =>
 ob (dF v2.2.2.2.2.1) fun x157 =>
 bif xI != x157 then
 ob (aV (v2.1,2,v2.2.2.1,v2.2.2.2.1,v2.2.2.2.2.1,xu,v2.2.2.2.2.2.2) 4 0) fun x158 =>
 some (xO,x158)
 else
 some (xO,(v2.1,2,v2.2.2.1,v2.2.2.2.1,v2.2.2.2.2.1,xu,v2.2.2.2.2.2.2))
 else
 bif v2.2.1.toNat == 2 then
 ob (kV v2.2.2.2.2.2.1 v2.2.2.1) fun x159 =>
 ob (cT xO 2 v2.2.2.2.2.2.1 x159) fun xl =>
 bif xl.2 then
 some (xl.1,(v2.1,3,v2.2.2))
 else
 some (xl.1,(v2.1,1,v2.2.2))
 else
 bif v2.2.1.toNat == 3 then
 ob (gg v0 v2.2.2.1) fun x161 =>
 ob (aH xO x161) fun xa =>
 bif xa != 0 then
 some (xO,(v2.1,4,v2.2.2.1,v2.2.2.2.1,v2.2.2.2.2.1,xa,v2.2.2.2.2.2.2))
 else
 some (xO,(v2.1,v2.2.1,v2.2.2.1,v2.2.2.2.1,v2.2.2.2.2.1,xa,v2.2.2.2.2.2.2))
 else
 bif v2.2.1.toNat == 4 then
 ob (gg v0 v2.2.2.1) fun xJ =>
 ob (br xO xJ 0) fun x164 =>
 ob (aV v2 1 0) fun xK =>
 some (x164,xK)
 else
 none
 else
 none
 else
 some (xO,v2)
theorem Fa (k:Nat) (v0_0 v0_1 v0_2 v0_3:Int) (v1:List Int) (v2_0 v2_1 v2_2 v2_3 v2_4 v2_5 v2_6:Int):xC (k+14) none 165 [.agg [.lit (.int .i64 v0_0),.lit (.int .i64 v0_1),.lit (.int .i64 v0_2),.lit (.int .i64 v0_3)],.ro (List.map (aQ .u64) v1),.agg [.lit (.int .i64 v2_0),.lit (.int .i64 v2_1),.lit (.int .i64 v2_2),.lit (.int .u64 v2_3),.lit (.int .u64 v2_4),.lit (.int .u64 v2_5),.lit (.int .i64 v2_6)]]=ob (iM (v0_0,v0_1,v0_2,v0_3) v1 (v2_0,v2_1,v2_2,v2_3,v2_4,v2_5,v2_6)) fun r=>some ((.tup [.ro (List.map (aQ .u64) r.1),.agg [.lit (.int .i64 r.2.1),.lit (.int .i64 r.2.2.1),.lit (.int .i64 r.2.2.2.1),.lit (.int .u64 r.2.2.2.2.1),.lit (.int .u64 r.2.2.2.2.2.1),.lit (.int .u64 r.2.2.2.2.2.2.1),.lit (.int .i64 r.2.2.2.2.2.2.2)]]),[]):=by
 rw [aO]
 unfold iM
 simp -implicitDefEqProofs only [ac8,Z4,KE,uK,adf,aav,ad3,aam,adt,ZO,acN,Yy,acX,Yp,↓syP,syA,syD,simprocAttr,syE,aj,ag,af,syW,xQ,cI,eH,ir,fg,IJ,mM,AH,kf]
end Go.Ab
set_option maxRecDepth 100000
set_option linter.unusedVariables false
set_option linter.unusedSimpArgs false
namespace Go.Ab
open Go.Proofs
def iX (v0:(Int×Int×Int×Int)) (v1:(List Int)) (v2:(Int×Int×Int×Int×Int×Int×Int)):Option Bool:=
 bif v2.1==6 then
 ob (bO v0) fun x8=>
 bif x8 then
 ob (dx v0) fun x9=>
 bif (↑v1.length:Int)==x9 then
 ob (aL v2) fun x10=>
 bif !x10 then
 bif decide (0≤v2.2.1) then
 some (decide (v2.2.1≤2))
 else
 some false
 else
 some false
 else
 some false
 else
 some false
 else
 bif v2.1==7 then
 ob (bO v0) fun x11=>
 bif x11 then
 ob (dx v0) fun x12=>
 bif (↑v1.length:Int)==x12 then
 ob (aL v2) fun x13=>
 bif !x13 then
 bif decide (0≤v2.2.1) then
 some (decide (v2.2.1≤2))
 else
 some false
 else
 some false
 else
 some false
 else
 some false
 else
 some false
theorem GA (k:Nat) (v0_0 v0_1 v0_2 v0_3:Int) (v1:List Int) (v2_0 v2_1 v2_2 v2_3 v2_4 v2_5 v2_6:Int):xC (k+15) none 189 [.agg [.lit (.int .i64 v0_0),.lit (.int .i64 v0_1),.lit (.int .i64 v0_2),.lit (.int .i64 v0_3)],.ro (List.map (aQ .u64) v1),.agg [.lit (.int .i64 v2_0),.lit (.int .i64 v2_1),.lit (.int .i64 v2_2),.lit (.int .u64 v2_3),.lit (.int .u64 v2_4),.lit (.int .u64 v2_5),.lit (.int .i64 v2_6)]]=ob (iX (v0_0,v0_1,v0_2,v0_3) v1 (v2_0,v2_1,v2_2,v2_3,v2_4,v2_5,v2_6)) fun r=>some ((.lit (.bool r)),[]):=by
 rw [aO]
 unfold iX
 simp -implicitDefEqProofs only [adX,Z9,Mt,K2,Lw,KL,J9,wF,Zx,To,aO (g:=190),Wy,NN,V1,OC,↓syP,syA,syD,simprocAttr,syE,aj,ag,af,syW,xQ,bX,gi,fC]
def gf (v0:Int) (v1:Int):Option Int:=
 some (orI IntKind.u64 (P4 IntKind.u64 v0 16) (r8 IntKind.u64 v1 65535))
theorem uR (k:Nat) (v0 v1:Int):xC (k+1) none 233 [.lit (.int .u64 v0),.lit (.int .u64 v1)]=ob (gf v0 v1) fun r=>some ((.lit (.int .u64 r)),[]):=by
 rw [aO]
 unfold gf
 simp -implicitDefEqProofs only [abJ,aaT,↓syP,syA,syD,simprocAttr,syE,aj,ag,af,syW,xQ]
def cr (k:Nat) (v0:Int)  : Nat→Int→Option Int
 | 0,_=>none
 | n+1,sQ=>
 bif decide (sQ<(16:Int)) then
 bif decide ((0:Int)≤sQ) then
 bif r8 IntKind.u64 (RD IntKind.u64 v0 sQ) (1:Int)==(1:Int) then
 some (sQ)
 else
 cr k v0  n (IntKind.i64.wrap (sQ+(1:Int)))
 else
 none
 else
 some ((-1:Int))
theorem nS (k:Nat) (v0:Int):∀ (n:Nat) (sQ:Int) ⦃j26:V⦄,rt none (bq (itX (xX (xS (k+9)) 234 0 (k+9) false) mI (3) (av (xX (xS (k+9)) 234 0 (k+9) false) (aD (xS (k+9)).P Tryz.f234) Ck) n ⟨[.yld 2,.ptr 1 0 0 0,uu,j26,.lit (.int .i64 sQ),.junk,.junk,.junk,.junk,.junk,.junk,.junk,.junk,.junk,.junk,.junk,.junk,.junk,.junk],[.box [.lit (.int .i64 (0:Int))],.box [.lit (.int .u64 v0)],(.loop ⟨LoopState.ready,none,195,[.lit (.int .u64 v0),uu,.ptr 0 0 0 0,uu,.lit (.int .u64 v0),.fn (Fn.func (234:FuncId)) [] [.ptr 1 0 0 0],uu,uu],[(6:Tmp)],GO,FN⟩)]⟩) (rfK (av (xX (xS (k+10)) 195 0 (k+10) false) (aD (xS (k+10)).P Tryz.f195) Bw) [.lit (.int .u64 v0),uu,.ptr 0 0 0 0,uu,.lit (.int .u64 v0),.fn (Fn.func (234:FuncId)) [] [.ptr 1 0 0 0],uu,uu] (2)))=ob (cr k v0  n sQ) fun r=>some ((.lit (.int .i64 r)),[]):=by
 intro n
 induction n with
 | zero=>intros;rfl
 | succ n ih=>
  intro sQ j26
  rw [cr]
  simp -implicitDefEqProofs only [YL,Vf,VA,Gd,i6,iJ,nN,AD,ZX,TA,aO (g:=220),aa2,TZ,Wo,FM,Fb,oa,nu,↓syP,syA,syD,simprocAttr,syE,aj,ag,af,syW,xQ,Lx,ih]
def fL (k:Nat) (v0:Int):Option Int:=
 cr k v0 (k+9) 0
theorem oL (k:Nat) (v0:Int):xC (k+11) none 195 [.lit (.int .u64 v0)]=ob (fL k v0) fun r=>some ((.lit (.int .i64 r)),[]):=by
 rw [aO]
 unfold fL
 simp -implicitDefEqProofs only [YL,Vf,VA,Gd,i6,iJ,nN,AD,ZX,TA,aO (g:=220),aa2,TZ,Wo,FM,Fb,oa,nu,↓syP,syA,syD,simprocAttr,syE,aj,ag,af,syW,xQ,nS k v0]
def iN (k:Nat) (v0:Int):Option (Int×Int):=
 ob (cK v0) fun xt=>
 ob (dF v0) fun x33=>
 ob (gf (IntKind.u64.wrap (x33+1)) (r8 IntKind.u64 xt (IntKind.u64.wrap (xt - 1)))) fun x34=>
 ob (fL k xt) fun x35=>
 some (x34,x35)
theorem F1 (k:Nat) (v0:Int):xC (k+12) none 216 [.lit (.int .u64 v0)]=ob (iN k v0) fun r=>some ((.tup [.lit (.int .u64 r.1),.lit (.int .i64 r.2)]),[]):=by
 rw [aO]
 unfold iN
 simp -implicitDefEqProofs only [ad1,YA,↓syP,syA,syD,simprocAttr,syE,aj,ag,af,syW,xQ,mM,nK,uR,oL]
def eY (k:Nat) (v0:Int):Option (Int×Int):=
 ob (iN k v0) fun xe=>
 some (xe.1,(IntKind.u64.wrap (bif decide (xe.2<0) then 0 else xe.2)))
theorem Aq (k:Nat) (v0:Int):xC (k+13) none 215 [.lit (.int .u64 v0)]=ob (eY k v0) fun r=>some ((.tup [.lit (.int .u64 r.1),.lit (.int .u64 r.2)]),[]):=by
 rw [aO]
 unfold eY
 simp -implicitDefEqProofs only [Wy,NN,↓syP,syA,syD,simprocAttr,syE,aj,ag,af,syW,xQ,F1]
def i5 (v0:Int):Option Int:=
 ob (dF v0) fun xi=>
 ob (gf (IntKind.u64.wrap (xi+1)) 0) fun xq=>
 some xq
theorem FL (k:Nat) (v0:Int):xC (k+2) none 218 [.lit (.int .u64 v0)]=ob (i5 v0) fun r=>some ((.lit (.int .u64 r)),[]):=by
 rw [aO]
 unfold i5
 simp -implicitDefEqProofs only [ad2,Zo,↓syP,syA,syD,simprocAttr,syE,aj,ag,af,syW,xQ,mM,uR]
def eZ (v0:Int):Option (Int×Int):=
 ob (i5 v0) fun x51=>
 ob (cK v0) fun x52=>
 some (x51,x52)
theorem AB (k:Nat) (v0:Int):xC (k+3) none 217 [.lit (.int .u64 v0)]=ob (eZ v0) fun r=>some ((.tup [.lit (.int .u64 r.1),.lit (.int .u64 r.2)]),[]):=by
 rw [aO]
 unfold eZ
 simp -implicitDefEqProofs only [V1,OC,↓syP,syA,syD,simprocAttr,syE,aj,ag,af,syW,xQ,nK,FL]
def dZ (k:Nat) (v0:(Int×Int×Int×Int)) (v1:(List Int)) (v2:(List Int))  : Nat→List Int→Int→Option (List Int)
 | 0,_,_=>none
 | n+1,sZ,sX=>
 bif decide (sX<(↑v2.length:Int)) then
 ob (idx v2 sX) fun x68=>
 ob (gg (v0.1,v0.2.1,v0.2.2.1,v0.2.2.2) x68) fun x69=>
 ob (br sZ x69 (1:Int)) fun x70=>
 dZ k v0 v1 v2  n (x70) (IntKind.i64.wrap (sX+(1:Int)))
 else
 some (sZ)
theorem pU (k:Nat) (v0_0 v0_1 v0_2 v0_3:Int) (v1 v2:List Int):∀ (n:Nat) (sZ:List Int) (sX:Int) ⦃j60:V⦄,rt none (itX (xX (xS (k+12)) 194 0 (k+12) false) Cz (2) (av (xX (xS (k+12)) 194 0 (k+12) false) (aD (xS (k+12)).P Tryz.f194) BU) n ⟨[.agg [.lit (.int .i64 v0_0),.lit (.int .i64 v0_1),.lit (.int .i64 v0_2),.lit (.int .i64 v0_3)],.ro (List.map (aQ IntKind.u64) sZ),.ro (List.map (aQ IntKind.i64) v2),.ptr 0 0 0 0,uu,uu,.own 1 0 0,uu,j60,.ro (List.map (aQ IntKind.i64) v2),.lit (.int .i64 (↑v2.length:Int)),.lit (.int .i64 sX),.junk,.junk,.junk,.junk,.junk,.junk,.junk,.junk,.junk,uu],[.box [.lit (.int .i64 v0_0),.lit (.int .i64 v0_1),.lit (.int .i64 v0_2),.lit (.int .i64 v0_3)],.rows 0 [] 0 true]⟩)=ob (dZ k (v0_0,v0_1,v0_2,v0_3) v1 v2  n sZ sX) fun r=>some ((.ro (List.map (aQ .u64) r)),[]):=by
 intro n
 induction n with
 | zero=>intros;rfl
 | succ n ih=>
  intro sZ sX j60
  rw [dZ]
  simp -implicitDefEqProofs only [aaP,Tf,T9,GD,nY,↓syP,syA,syD,simprocAttr,syE,aj,ag,af,syW,xQ,eH,AH,LE,ih]
def fl (k:Nat) (v0:(Int×Int×Int×Int)) (v1:(List Int)) (v2:(List Int)):Option (List Int):=
 dZ k v0 v1 v2 (k+12) v1 0
theorem FO (k:Nat) (v0_0 v0_1 v0_2 v0_3:Int) (v1 v2:List Int):xC (k+13) none 194 [.agg [.lit (.int .i64 v0_0),.lit (.int .i64 v0_1),.lit (.int .i64 v0_2),.lit (.int .i64 v0_3)],.ro (List.map (aQ .u64) v1),.ro (List.map (aQ .i64) v2)]=ob (fl k (v0_0,v0_1,v0_2,v0_3) v1 v2) fun r=>some ((.ro (List.map (aQ .u64) r)),[]):=by
 rw [aO]
 unfold fl
 simp -implicitDefEqProofs only [aaP,Tf,T9,GD,nY,↓syP,syA,syD,simprocAttr,syE,aj,ag,af,syW,xQ,pU k v0_0 v0_1 v0_2 v0_3 v1 v2]
def f8 (k:Nat) (v0:(Int×Int×Int×Int)) (v1:(List Int)) (v2:(Int×Int×Int×Int×Int×Int×Int)):Option ((List Int)×(Int×Int×Int×Int×Int×Int×Int)):=
 ob (aP 8 v1) fun xr=>
 ob (iX v0 v1 v2) fun x94=>
 bif !x94 then
 some (xr,v2)
 else
 bif v2.2.1==0 then
 ob (aH xr 2) fun x95=>
 some (xr,(v2.1,1,v2.2.2.1,v2.2.2.2.1,x95,v2.2.2.2.2.2))
 else
 bif v2.2.1==1 then
 bif v2.1==6 then
 ob (eY (k+2) v2.2.2.2.2.1) fun x96=>
 ob (cT xr 2 v2.2.2.2.2.1 x96.1) fun x97=>
 bif !x97.2 then
 some (x97.1,(v2.1,0,v2.2.2))
 else
 ob (cK v2.2.2.2.2.1) fun x98=>
 bif x98==0 then
 ob (aV (v2.1,0,v2.2.2) 3 0) fun x99=>
 some (x97.1,x99)
 else
 some (x97.1,(v2.1,2,v2.2.2.1,v2.2.2.2.1,v2.2.2.2.2.1,x96.2,v2.2.2.2.2.2.2))
 else
 bif v2.1==7 then
 ob (eZ v2.2.2.2.2.1) fun x100=>
 ob (cT xr 2 v2.2.2.2.2.1 x100.1) fun x101=>
 bif !x101.2 then
 some (x101.1,(v2.1,0,v2.2.2))
 else
 ob (cK v2.2.2.2.2.1) fun x102=>
 bif x102==0 then
 ob (aV (v2.1,0,v2.2.2) 3 0) fun x103=>
 some (x101.1,x103)
 else
 some (x101.1,(v2.1,2,v2.2.2.1,v2.2.2.2.1,v2.2.2.2.2.1,x100.2,v2.2.2.2.2.2.2))
 else
 none
 else
 bif v2.1==6 then
 bif decide (v2.2.2.2.2.2.1<8) then
 ob (fl (k+2) v0 xr [IntKind.i64.wrap v2.2.2.2.2.2.1]) fun x104=>
 ob (aV v2 1 v2.2.2.2.2.2.1) fun x105=>
 some (x104,x105)
 else
 ob (fl (k+2) v0 xr [(-1)]) fun x106=>
 ob (aV v2 1 v2.2.2.2.2.2.1) fun x107=>
 some (x106,x107)
 else
 ob (fL (k+4) v2.2.2.2.2.2.1) fun x108=>
 ob (fl (k+2) v0 xr [x108]) fun xL=>
 ob (cK v2.2.2.2.2.2.1) fun xb=>
 bif r8 IntKind.u64 xb (IntKind.u64.wrap (xb - 1))==0 then
 ob (cK v2.2.2.2.2.1) fun x111=>
 ob (aV (v2.1,v2.2.1,v2.2.2.1,v2.2.2.2.1,v2.2.2.2.2.1,xb,v2.2.2.2.2.2.2) 1 x111) fun x112=>
 some (xL,x112)
 else
 bif xb==0 then
 ob (cK v2.2.2.2.2.1) fun xp=>
 ob (aV (v2.1,v2.2.1,v2.2.2.1,v2.2.2.2.1,v2.2.2.2.2.1,xb,v2.2.2.2.2.2.2) 1 xp) fun x114=>
 some (xL,x114)
 else
 some (xL,(v2.1,v2.2.1,v2.2.2.1,v2.2.2.2.1,v2.2.2.2.2.1,(r8 IntKind.u64 xb (IntKind.u64.wrap (xb - 1))),v2.2.2.2.2.2.2))
theorem Gk (k:Nat) (v0_0 v0_1 v0_2 v0_3:Int) (v1:List Int) (v2_0 v2_1 v2_2 v2_3 v2_4 v2_5 v2_6:Int):xC (k+16) none 166 [.agg [.lit (.int .i64 v0_0),.lit (.int .i64 v0_1),.lit (.int .i64 v0_2),.lit (.int .i64 v0_3)],.ro (List.map (aQ .u64) v1),.agg [.lit (.int .i64 v2_0),.lit (.int .i64 v2_1),.lit (.int .i64 v2_2),.lit (.int .u64 v2_3),.lit (.int .u64 v2_4),.lit (.int .u64 v2_5),.lit (.int .i64 v2_6)]]=ob (f8 k (v0_0,v0_1,v0_2,v0_3) v1 (v2_0,v2_1,v2_2,v2_3,v2_4,v2_5,v2_6)) fun r=>some ((.tup [.ro (List.map (aQ .u64) r.1),.agg [.lit (.int .i64 r.2.1),.lit (.int .i64 r.2.2.1),.lit (.int .i64 r.2.2.2.1),.lit (.int .u64 r.2.2.2.2.1),.lit (.int .u64 r.2.2.2.2.2.1),.lit (.int .u64 r.2.2.2.2.2.2.1),.lit (.int .i64 r.2.2.2.2.2.2.2)]]),[]):=by
 rw [aO]
 unfold f8
 simp -implicitDefEqProofs only [adD,XD,Nt,Ke,Ni,wi,wZ,wC,Zx,To,aO (g:=190),Wy,NN,V1,OC,↓syP,syA,syD,simprocAttr,syE,aj,ag,af,syW,xQ,cI,ir,fg,nK,GA,oL,Aq,AB,FO]
end Go.Ab
set_option maxRecDepth 100000
set_option linter.unusedVariables false
set_option linter.unusedSimpArgs false
namespace Go.Ab
open Go.Proofs
def i9 (v0:(Int×Int×Int×Int)) (v1:(List Int)) (v2:(Int×Int×Int×Int×Int×Int×Int)):Option ((List Int)×(Int×Int×Int×Int×Int×Int×Int)):=
 ob (aP 8 v1) fun xs=>
 ob (eq v0 v1 v2 0 4) fun x15=>
 bif x15 then
 bif v2.2.1==0 then
 ob (cV v0 v2.2.2.1) fun x16=>
 ob (aH xs x16) fun xy=>
 some (xs,(v2.1,1,v2.2.2.1,v2.2.2.2.1,xy,v2.2.2.2.2.2))
 else
 bif v2.2.1==1 then
 ob (gr v0 v2.2.2.1) fun x18=>
 ob (aH xs x18) fun x19=>
 bif decide (IntKind.u64.wrap v0.2.1≤IntKind.u64.wrap (v2.2.2.2.2.1 - x19)) then
 ob (aV (v2.1,2,v2.2.2.1,v2.2.2.2.1,v2.2.2.2.2.1,x19,v2.2.2.2.2.2.2) 2 v2.2.2.2.1) fun x20=>
 some (xs,x20)
 else
 some (xs,(v2.1,2,v2.2.2.1,v2.2.2.2.1,v2.2.2.2.2.1,x19,v2.2.2.2.2.2.2))
 else
 bif v2.2.1==2 then
 ob (fw v0 v2.2.2.1 v2.2.2.2.2.1) fun x21=>
 ob (br xs x21 v2.2.2.2.1) fun x22=>
 some (x22,(v2.1,3,v2.2.2))
 else
 bif v2.2.1==3 then
 ob (cV v0 v2.2.2.1) fun x23=>
 ob (br xs x23 (IntKind.u64.wrap (v2.2.2.2.2.1+1))) fun x24=>
 ob (aV v2 1 v2.2.2.2.1) fun x25=>
 some (x24,x25)
 else
 none
 else
 some (xs,v2)
theorem GB (k:Nat) (v0_0 v0_1 v0_2 v0_3:Int) (v1:List Int) (v2_0 v2_1 v2_2 v2_3 v2_4 v2_5 v2_6:Int):xC (k+24) none 207 [.agg [.lit (.int .i64 v0_0),.lit (.int .i64 v0_1),.lit (.int .i64 v0_2),.lit (.int .i64 v0_3)],.ro (List.map (aQ .u64) v1),.agg [.lit (.int .i64 v2_0),.lit (.int .i64 v2_1),.lit (.int .i64 v2_2),.lit (.int .u64 v2_3),.lit (.int .u64 v2_4),.lit (.int .u64 v2_5),.lit (.int .i64 v2_6)]]=ob (i9 (v0_0,v0_1,v0_2,v0_3) v1 (v2_0,v2_1,v2_2,v2_3,v2_4,v2_5,v2_6)) fun r=>some ((.tup [.ro (List.map (aQ .u64) r.1),.agg [.lit (.int .i64 r.2.1),.lit (.int .i64 r.2.2.1),.lit (.int .i64 r.2.2.2.1),.lit (.int .u64 r.2.2.2.2.1),.lit (.int .u64 r.2.2.2.2.2.1),.lit (.int .u64 r.2.2.2.2.2.2.1),.lit (.int .i64 r.2.2.2.2.2.2.2)]]),[]):=by
 rw [aO]
 unfold i9
 simp -implicitDefEqProofs only [abL,aaC,MW,wJ,aco,ZA,aeE,Xs,adP,Xg,adZ,Xi,↓syP,syA,syD,simprocAttr,syE,aj,ag,af,syW,xQ,cI,eH,fg,mt,gE,pK,kf]
def kZ (v0:(Int×Int×Int×Int)) (v1:(List Int)) (v2:(Int×Int×Int×Int×Int×Int×Int)):Option ((List Int)×(Int×Int×Int×Int×Int×Int×Int)):=
 ob (aP 8 v1) fun xV=>
 ob (eq v0 v1 v2 1 7) fun x55=>
 bif !x55 then
 some (xV,v2)
 else
 ob (gr v0 v2.2.2.1) fun x56=>
 ob (cV v0 v2.2.2.1) fun xo=>
 bif v2.2.1==0 then
 ob (aH xV xo) fun x58=>
 some (xV,(v2.1,(IntKind.i64.wrap (v2.2.1+1)),v2.2.2.1,v2.2.2.2.1,(IntKind.u64.wrap (x58 - 1)),v2.2.2.2.2.2))
 else
 bif v2.2.1==1 then
 ob (br xV xo v2.2.2.2.2.1) fun xU=>
 some (xU,(v2.1,(IntKind.i64.wrap (v2.2.1+1)),v2.2.2))
 else
 bif v2.2.1==2 then
 ob (aH xV x56) fun xv=>
 ob (eJ v2.2.2.2.2.1 xv) fun xj=>
 bif decide (xj<0) then
 some (xV,(v2.1,6,v2.2.2.1,v2.2.2.2.1,v2.2.2.2.2.1,xv,v2.2.2.2.2.2.2))
 else
 some (xV,(v2.1,(IntKind.i64.wrap (v2.2.1+1)),v2.2.2.1,v2.2.2.2.1,v2.2.2.2.2.1,xv,v2.2.2.2.2.2.2))
 else
 bif v2.2.1==3 then
 ob (fw v0 v2.2.2.1 v2.2.2.2.2.1) fun xP=>
 ob (aH xV xP) fun xN=>
 bif v2.2.2.2.2.1 !=v2.2.2.2.2.2.1 then
 ob (aV (v2.1,v2.2.1,v2.2.2.1,xN,v2.2.2.2.2) 1 xN) fun xz=>
 some (xV,xz)
 else
 some (xV,(v2.1,(IntKind.i64.wrap (v2.2.1+1)),v2.2.2.1,xN,v2.2.2.2.2))
 else
 bif v2.2.1==4 then
 ob (cT xV x56 v2.2.2.2.2.2.1 (IntKind.u64.wrap (v2.2.2.2.2.2.1+1))) fun xc=>
 bif !xc.2 then
 some (xc.1,(v2.1,6,v2.2.2))
 else
 some (xc.1,(v2.1,(IntKind.i64.wrap (v2.2.1+1)),v2.2.2))
 else
 bif v2.2.1==5 then
 ob (br xV xo (IntKind.u64.wrap (v2.2.2.2.2.1+1))) fun x66=>
 ob (aV v2 1 v2.2.2.2.1) fun x67=>
 some (x66,x67)
 else
 ob (br xV xo (IntKind.u64.wrap (v2.2.2.2.2.1+1))) fun x68=>
 ob (aV v2 3 0) fun x69=>
 some (x68,x69)
theorem IF (k:Nat) (v0_0 v0_1 v0_2 v0_3:Int) (v1:List Int) (v2_0 v2_1 v2_2 v2_3 v2_4 v2_5 v2_6:Int):xC (k+24) none 208 [.agg [.lit (.int .i64 v0_0),.lit (.int .i64 v0_1),.lit (.int .i64 v0_2),.lit (.int .i64 v0_3)],.ro (List.map (aQ .u64) v1),.agg [.lit (.int .i64 v2_0),.lit (.int .i64 v2_1),.lit (.int .i64 v2_2),.lit (.int .u64 v2_3),.lit (.int .u64 v2_4),.lit (.int .u64 v2_5),.lit (.int .i64 v2_6)]]=ob (kZ (v0_0,v0_1,v0_2,v0_3) v1 (v2_0,v2_1,v2_2,v2_3,v2_4,v2_5,v2_6)) fun r=>some ((.tup [.ro (List.map (aQ .u64) r.1),.agg [.lit (.int .i64 r.2.1),.lit (.int .i64 r.2.2.1),.lit (.int .i64 r.2.2.2.1),.lit (.int .u64 r.2.2.2.2.1),.lit (.int .u64 r.2.2.2.2.2.1),.lit (.int .u64 r.2.2.2.2.2.2.1),.lit (.int .i64 r.2.2.2.2.2.2.2)]]),[]):=by
 rw [aO]
 unfold kZ
 simp -implicitDefEqProofs only [abQ,ZB,ad6,aad,↓syP,syA,syD,simprocAttr,syE,aj,ag,af,syW,xQ,cI,eH,ir,fg,mt,gE,pK,lD,kf]
def ao (k : Nat) (v0 : (Int × Int × Int × Int)) (v1 : (List Int)) (v2 : (Int × Int × Int × Int × Int × Int × Int))  : Nat → List Int → Int → Int → Int → Option ((List Int) × (Int × Int × Int × Int × Int × Int × Int))
 | 0,_,_,_,_ => none
 | n + 1,sB,sL,sN,sA =>
 bif decide (sA < (4 : Int)) then
 bif decide ((0 : Int) ≤ sA ∧ sA.toNat < (4 : Nat)) then
 bif sA.toNat == (0 : Nat) then
 bif sA != v2.2.1 then
 ao k v0 v1 v2  n (sB) (sL) (sN) (IntKind.i64.wrap (sA + (1 : Int)))
 else
 ob (aH sB sL) fun xO =>
 ob (aL (v2.1,v2.2.1,v2.2.2.1,v2.2.2.2.1,v2.2.2.2.2.1,xO,v2.2.2.2.2.2.2)) fun x153 =>
 bif !x153 then
 some ((sB),((v2.1),(IntKind.i64.wrap (v2.2.1 + (1 : Int))),(v2.2.2.1),(v2.2.2.2.1),(v2.2.2.2.2.1),(xO),(v2.2.2.2.2.2.2)))
 else
 some ((sB),((v2.1),(v2.2.1),(v2.2.2.1),(v2.2.2.2.1),(v2.2.2.2.2.1),(xO),(v2.2.2.2.2.2.2)))
 else
 bif sA.toNat == (1 : Nat) then
 bif sA != v2.2.1 then
 ao k v0 v1 v2  n (sB) (sL) (sN) (IntKind.i64.wrap (sA + (1 : Int)))
 else
 ob (aH sB sN) fun xk =>
 ob (eJ xk v2.2.2.2.2.2.1) fun xu =>
 bif decide (xu ≤ (0 : Int)) then
 ob (aV (v2.1,v2.2.1,v2.2.2.1,v2.2.2.2.1,xk,v2.2.2.2.2.2.1,v2.2.2.2.2.2.2) (3 : Int) (0 : Int)) fun xI =>
 ob (aL (xI.1,xI.2.1,xI.2.2.1,xI.2.2.2.1,xI.2.2.2.2.1,xI.2.2.2.2.2.1,xI.2.2.2.2.2.2)) fun x157 =>
 bif !x157 then
 some ((sB),((xI.1),(IntKind.i64.wrap (xI.2.1 + (1 : Int))),(xI.2.2.1),(xI.2.2.2.1),(xI.2.2.2.2.1),(xI.2.2.2.2.2.1),(xI.2.2.2.2.2.2)))
 else
 some ((sB),((xI.1),(xI.2.1),(xI.2.2.1),(xI.2.2.2.1),(xI.2.2.2.2.1),(xI.2.2.2.2.2.1),(xI.2.2.2.2.2.2)))
 else
 ob (aL (v2.1,v2.2.1,v2.2.2.1,v2.2.2.2.1,xk,v2.2.2.2.2.2.1,v2.2.2.2.2.2.2)) fun x158 =>
 bif !x158 then
 some ((sB),((v2.1),(IntKind.i64.wrap (v2.2.1 + (1 : Int))),(v2.2.2.1),(v2.2.2.2.1),(xk),(v2.2.2.2.2.2.1),(v2.2.2.2.2.2.2)))
 else
 some ((sB),((v2.1),(v2.2.1),(v2.2.2.1),(v2.2.2.2.1),(xk),(v2.2.2.2.2.2.1),(v2.2.2.2.2.2.2)))
 else
 bif sA.toNat == (2 : Nat) then
 bif sA != v2.2.1 then
 ao k v0 v1 v2  n (sB) (sL) (sN) (IntKind.i64.wrap (sA + (1 : Int)))
 else
 ob (fw (v0.1,v0.2.1,v0.2.2.1,v0.2.2.2) v2.2.2.1 v2.2.2.2.2.2.1) fun x159 =>
 ob (aH sB x159) fun xl =>
 ob (aL (v2.1,v2.2.1,v2.2.2.1,xl,v2.2.2.2.2.1,v2.2.2.2.2.2.1,v2.2.2.2.2.2.2)) fun x161 =>
 bif !x161 then
 some ((sB),((v2.1),(IntKind.i64.wrap (v2.2.1 + (1 : Int))),(v2.2.2.1),(xl),(v2.2.2.2.2.1),(v2.2.2.2.2.2.1),(v2.2.2.2.2.2.2)))
 else
 some ((sB),((v2.1),(v2.2.1),(v2.2.2.1),(xl),(v2.2.2.2.2.1),(v2.2.2.2.2.2.1),(v2.2.2.2.2.2.2)))
 else
 bif sA.toNat == (3 : Nat) then
 bif sA != v2.2.1 then
 ao k v0 v1 v2  n (sB) (sL) (sN) (IntKind.i64.wrap (sA + (1 : Int)))
 else
 ob (cT sB sL v2.2.2.2.2.2.1 (IntKind.u64.wrap (v2.2.2.2.2.2.1 + (1 : Int)))) fun xa =>
 bif xa.2 then
 ob (aV (v2.1,v2.2.1,v2.2.2.1,v2.2.2.2.1,v2.2.2.2.2.1,v2.2.2.2.2.2.1,v2.2.2.2.2.2.2) (1 : Int) v2.2.2.2.1) fun xJ =>
 ob (aL (xJ.1,xJ.2.1,xJ.2.2.1,xJ.2.2.2.1,xJ.2.2.2.2.1,xJ.2.2.2.2.2.1,xJ.2.2.2.2.2.2)) fun x164 =>
 bif !x164 then
 some ((xa.1),((xJ.1),(IntKind.i64.wrap (xJ.2.1 + (1 : Int))),(xJ.2.2.1),(xJ.2.2.2.1),(xJ.2.2.2.2.1),(xJ.2.2.2.2.2.1),(xJ.2.2.2.2.2.2)))
 else
 some ((xa.1),((xJ.1),(xJ.2.1),(xJ.2.2.1),(xJ.2.2.2.1),(xJ.2.2.2.2.1),(xJ.2.2.2.2.2.1),(xJ.2.2.2.2.2.2)))
 else
 ob (aV (v2.1,v2.2.1,v2.2.2.1,v2.2.2.2.1,v2.2.2.2.2.1,v2.2.2.2.2.2.1,v2.2.2.2.2.2.2) (4 : Int) (0 : Int)) fun xK =>
 ob (aL (xK.1,xK.2.1,xK.2.2.1,xK.2.2.2.1,xK.2.2.2.2.1,xK.2.2.2.2.2.1,xK.2.2.2.2.2.2)) fun x166 =>
 bif !x166 then
 some ((xa.1),((xK.1),(IntKind.i64.wrap (xK.2.1 + (1 : Int))),(xK.2.2.1),(xK.2.2.2.1),(xK.2.2.2.2.1),(xK.2.2.2.2.2.1),(xK.2.2.2.2.2.2)))
 else
 some ((xa.1),((xK.1),(xK.2.1),(xK.2.2.1),(xK.2.2.2.1),(xK.2.2.2.2.1),(xK.2.2.2.2.2.1),(xK.2.2.2.2.2.2)))
 else
 none
 else
 none
 else
 some ((sB),((v2.1),(v2.2.1),(v2.2.2.1),(v2.2.2.2.1),(v2.2.2.2.2.1),(v2.2.2.2.2.2.1),(v2.2.2.2.2.2.2)))
theorem oN (k:Nat) (v0_0 v0_1 v0_2 v0_3:Int) (v1:List Int) (v2_0 v2_1 v2_2 v2_3 v2_4 v2_5 v2_6:Int):∀ (n:Nat) (sB:List Int) (sL sN sA:Int) ⦃sg sh:Bool⦄ ⦃j115 j116:V⦄,rt none (itX (xX (xS (k+23)) 209 0 (k+23) false) BZ (9) (av (xX (xS (k+23)) 209 0 (k+23) false) (aD (xS (k+23)).P Tryz.f209) Cn) n ⟨[.agg [.lit (.int .i64 v0_0),.lit (.int .i64 v0_1),.lit (.int .i64 v0_2),.lit (.int .i64 v0_3)],.ro (List.map (aQ IntKind.u64) v1),.agg [.lit (.int .i64 v2_0),.lit (.int .i64 v2_1),.lit (.int .i64 v2_2),.lit (.int .u64 v2_3),.lit (.int .u64 v2_4),.lit (.int .u64 v2_5),.lit (.int .i64 v2_6)],.ptr 0 0 0 0,uu,.ptr 1 0 0 0,.own 2 0 0,.ptr 3 0 0 0,.ptr 5 0 0 0,.ptr 6 0 0 0,.ptr 7 0 0 0,.own 8 0 4,j115,j116,.ro (List.map (aQ IntKind.u64) v1),.ro (List.map (aQ IntKind.u64) sB),.agg [.lit (.int .i64 v0_0),.lit (.int .i64 v0_1),.lit (.int .i64 v0_2),.lit (.int .i64 v0_3)],.ro (List.map (aQ IntKind.u64) v1),.agg [.lit (.int .i64 v2_0),.lit (.int .i64 v2_1),.lit (.int .i64 v2_2),.lit (.int .u64 v2_3),.lit (.int .u64 v2_4),.lit (.int .u64 v2_5),.lit (.int .i64 v2_6)],.lit (.bool sg),.lit (.bool sh),uu,uu,.agg [.lit (.int .i64 v0_0),.lit (.int .i64 v0_1),.lit (.int .i64 v0_2),.lit (.int .i64 v0_3)],.ptr 1 0 0 2,.lit (.int .i64 v2_2),.lit (.int .i64 sL),.agg [.lit (.int .i64 v0_0),.lit (.int .i64 v0_1),.lit (.int .i64 v0_2),.lit (.int .i64 v0_3)],.ptr 1 0 0 2,.lit (.int .i64 v2_2),.lit (.int .i64 sN),.fn (Fn.func (229:FuncId)) [] [.ptr 5 0 0 0,.ptr 6 0 0 0,.ptr 1 0 0 0],.fn (Fn.func (230:FuncId)) [] [.ptr 5 0 0 0,.ptr 7 0 0 0,.ptr 1 0 0 0],.fn (Fn.func (231:FuncId)) [] [.ptr 5 0 0 0,.ptr 0 0 0 0,.ptr 1 0 0 0],.fn (Fn.func (232:FuncId)) [] [.ptr 5 0 0 0,.ptr 6 0 0 0,.ptr 1 0 0 0],.own 8 0 4,.own 8 0 4,.lit (.int .i64 (4:Int)),.lit (.int .i64 sA),.junk,.junk,.junk,.junk,.junk,.junk,.junk,.junk,.junk,.junk,.junk,.junk,.junk,.junk,.junk,.junk,.junk,.junk,uu,uu],[.box [.lit (.int .i64 v0_0),.lit (.int .i64 v0_1),.lit (.int .i64 v0_2),.lit (.int .i64 v0_3)],.box [.lit (.int .i64 v2_0),.lit (.int .i64 v2_1),.lit (.int .i64 v2_2),.lit (.int .u64 v2_3),.lit (.int .u64 v2_4),.lit (.int .u64 v2_5),.lit (.int .i64 v2_6)],.rows 0 [] 0 true,.box [.lit (.int .i64 (0:Int)),.lit (.int .i64 (0:Int)),.lit (.int .i64 (0:Int)),.lit (.int .u64 (0:Int)),.lit (.int .u64 (0:Int)),.lit (.int .u64 (0:Int)),.lit (.int .i64 (0:Int))],.rows 0 [] 0 true,.box [.ro (List.map (aQ IntKind.u64) sB)],.box [.lit (.int .i64 sL)],.box [.lit (.int .i64 sN)],.rows 1 [[.fn (Fn.func (229:FuncId)) [] [.ptr 5 0 0 0,.ptr 6 0 0 0,.ptr 1 0 0 0]],[.fn (Fn.func (230:FuncId)) [] [.ptr 5 0 0 0,.ptr 7 0 0 0,.ptr 1 0 0 0]],[.fn (Fn.func (231:FuncId)) [] [.ptr 5 0 0 0,.ptr 0 0 0 0,.ptr 1 0 0 0]],[.fn (Fn.func (232:FuncId)) [] [.ptr 5 0 0 0,.ptr 6 0 0 0,.ptr 1 0 0 0]]] 0 true]⟩)=ob (ao k (v0_0,v0_1,v0_2,v0_3) v1 (v2_0,v2_1,v2_2,v2_3,v2_4,v2_5,v2_6)  n sB sL sN sA) fun r=>some ((.tup [.ro (List.map (aQ .u64) r.1),.agg [.lit (.int .i64 r.2.1),.lit (.int .i64 r.2.2.1),.lit (.int .i64 r.2.2.2.1),.lit (.int .u64 r.2.2.2.2.1),.lit (.int .u64 r.2.2.2.2.2.1),.lit (.int .u64 r.2.2.2.2.2.2.1),.lit (.int .i64 r.2.2.2.2.2.2.2)]]),[]):=by
 intro n
 induction n with
 | zero=>intros;rfl
 | succ n ih=>
  intro sB sL sN sA sg sh j115 j116
  rw [ao]
  simp -implicitDefEqProofs only [ZV,Ub,Td,FH,od,ZF,Tx,Xe,UY,YR,VX,WP,V5,↓syP,syA,syD,simprocAttr,syE,aj,ag,af,syW,xQ,cI,ir,fC,fg,mt,gE,pK,lD,kf,Mc,ih]
def gw (k:Nat) (v0:(Int×Int×Int×Int)) (v1:(List Int)) (v2:(Int×Int×Int×Int×Int×Int×Int)):Option ((List Int)×(Int×Int×Int×Int×Int×Int×Int)):=
 ob (aP 8 v1) fun x167=>
 ob (eq v0 v1 v2 2 4) fun x168=>
 bif !x168 then
 some (x167,v2)
 else
 ob (gr v0 v2.2.2.1) fun x169=>
 ob (cV v0 v2.2.2.1) fun x170=>
 ao k v0 v1 v2 (k+23) x167 x169 x170 0
theorem Ex (k:Nat) (v0_0 v0_1 v0_2 v0_3:Int) (v1:List Int) (v2_0 v2_1 v2_2 v2_3 v2_4 v2_5 v2_6:Int):xC (k+24) none 209 [.agg [.lit (.int .i64 v0_0),.lit (.int .i64 v0_1),.lit (.int .i64 v0_2),.lit (.int .i64 v0_3)],.ro (List.map (aQ .u64) v1),.agg [.lit (.int .i64 v2_0),.lit (.int .i64 v2_1),.lit (.int .i64 v2_2),.lit (.int .u64 v2_3),.lit (.int .u64 v2_4),.lit (.int .u64 v2_5),.lit (.int .i64 v2_6)]]=ob (gw k (v0_0,v0_1,v0_2,v0_3) v1 (v2_0,v2_1,v2_2,v2_3,v2_4,v2_5,v2_6)) fun r=>some ((.tup [.ro (List.map (aQ .u64) r.1),.agg [.lit (.int .i64 r.2.1),.lit (.int .i64 r.2.2.1),.lit (.int .i64 r.2.2.2.1),.lit (.int .u64 r.2.2.2.2.1),.lit (.int .u64 r.2.2.2.2.2.1),.lit (.int .u64 r.2.2.2.2.2.2.1),.lit (.int .i64 r.2.2.2.2.2.2.2)]]),[]):=by
 rw [aO]
 unfold gw
 simp -implicitDefEqProofs only [ZV,Ub,Td,FH,od,ZF,Tx,Xe,UY,YR,VX,WP,V5,↓syP,syA,syD,simprocAttr,syE,aj,ag,af,syW,xQ,mt,gE,kf,oN k v0_0 v0_1 v0_2 v0_3 v1 v2_0 v2_1 v2_2 v2_3 v2_4 v2_5 v2_6]
def eu (k:Nat) (v0:(Int×Int×Int×Int)) (v1:(List Int)) (v2:(Int×Int×Int×Int×Int×Int×Int)):Option ((List Int)×(Int×Int×Int×Int×Int×Int×Int)):=
 bif v2.1==0 then
 ob (i9 v0 v1 v2) fun x179=>
 some x179
 else
 bif v2.1==1 then
 ob (kZ v0 v1 v2) fun x180=>
 some x180
 else
 bif v2.1==2 then
 ob (gw (k+1) v0 v1 v2) fun x181=>
 some x181
 else
 ob (aP 8 v1) fun x182=>
 some (x182,v2)
theorem Df (k:Nat) (v0_0 v0_1 v0_2 v0_3:Int) (v1:List Int) (v2_0 v2_1 v2_2 v2_3 v2_4 v2_5 v2_6:Int):xC (k+26) none 180 [.agg [.lit (.int .i64 v0_0),.lit (.int .i64 v0_1),.lit (.int .i64 v0_2),.lit (.int .i64 v0_3)],.ro (List.map (aQ .u64) v1),.agg [.lit (.int .i64 v2_0),.lit (.int .i64 v2_1),.lit (.int .i64 v2_2),.lit (.int .u64 v2_3),.lit (.int .u64 v2_4),.lit (.int .u64 v2_5),.lit (.int .i64 v2_6)]]=ob (eu k (v0_0,v0_1,v0_2,v0_3) v1 (v2_0,v2_1,v2_2,v2_3,v2_4,v2_5,v2_6)) fun r=>some ((.tup [.ro (List.map (aQ .u64) r.1),.agg [.lit (.int .i64 r.2.1),.lit (.int .i64 r.2.2.1),.lit (.int .i64 r.2.2.2.1),.lit (.int .u64 r.2.2.2.2.1),.lit (.int .u64 r.2.2.2.2.2.1),.lit (.int .u64 r.2.2.2.2.2.2.1),.lit (.int .i64 r.2.2.2.2.2.2.2)]]),[]):=by
 rw [aO]
 unfold eu
 simp -implicitDefEqProofs only [adK,Ye,↓syP,syA,syD,simprocAttr,syE,aj,ag,af,syW,xQ,GB,IF,Ex]
end Go.Ab
set_option maxRecDepth 100000
set_option linter.unusedVariables false
set_option linter.unusedSimpArgs false
namespace Go.Ab
open Go.Proofs
def fB (v0:Int) (v1:Int):Option Bool:=
 bif decide (0≤v0) then
 some (decide (v0≤v1))
 else
 some false
theorem A5 (k:Nat) (v0 v1:Int):xC (k+1) none 172 [.lit (.int .i64 v0),.lit (.int .i64 v1)]=ob (fB v0 v1) fun r=>some ((.lit (.bool r)),[]):=by
 rw [aO]
 unfold fB
 simp -implicitDefEqProofs only [adE,Xb,Nh,wW,↓syP,syA,syD,simprocAttr,syE,aj,ag,af,syW,xQ]
def bH (k:Nat)   : Nat→Tye→Int→Tyt→Int→Option Int
 | 0,_,_,_,_=>none
 | n+1,s3,s4,s5,sJ=>
 bif decide (sJ<s4) then
 ob (idx s3 sJ) fun xd=>
 ob (fB xd.1 (IntKind.i64.wrap ((↑s5.length:Int) - (1:Int)))) fun xt=>
 bif !xt then
 some (sJ)
 else
 ob (idx s5 xd.1) fun x33=>
 ob (fB xd.2.1 x33.1) fun x34=>
 bif !x34 then
 some (sJ)
 else
 ob (fB xd.2.2 (↑x33.2.length:Int)) fun x35=>
 bif !x35 then
 some (sJ)
 else
 bif decide (xd.2.1<x33.1) then
 bif decide ((0:Int)<xd.2.2) then
 some (sJ)
 else
 bH k   n (s3) (s4) (s5) (IntKind.i64.wrap (sJ+(1:Int)))
 else
 bH k   n (s3) (s4) (s5) (IntKind.i64.wrap (sJ+(1:Int)))
 else
 some ((-1:Int))
theorem nf (k:Nat)  : ∀ (n:Nat) (s3:Tye) (s4:Int) (s5:Tyt) (sJ:Int) ⦃j12:V⦄,itX (xX (xS (k+17)) 206 0 (k+17) false) CQ (1) (av (xX (xS (k+17)) 206 0 (k+17) false) (aD (xS (k+17)).P Tryz.f206) CN) n ⟨[.ro (List.map a8 s3),.fn (Fn.func (171:FuncId)) [] [.ptr 0 0 0 0],uu,uu,.lit (.int .i64 (0:Int)),j12,.ro (List.map a8 s3),.lit (.int .i64 s4),.lit (.int .i64 sJ),.junk,.junk,.junk,.junk,.junk,.junk,.junk,.junk,.junk,.junk],[.box [.ro (List.map ap s5)]]⟩=ob (bH k   n s3 s4 s5 sJ) fun r=>some ((.lit (.int .i64 r),[.box [.ro (List.map ap s5)]])):=by
 intro n
 induction n with
 | zero=>intros;rfl
 | succ n ih=>
  intro s3 s4 s5 sJ j12
  rw [bH]
  simp -implicitDefEqProofs only [ZD,TC,GM,nD,ZT,T1,aa6,UN,GG,GU,GN,Fo,E7,FT,nJ,X0,Wl,Ug,Gg,oe,↓syP,syA,syD,simprocAttr,syE,aj,ag,af,syW,xQ,A5,Ns,ih]
def fj (k:Nat) (v0:Tyt) (v1:Tye):Option Bool:=
 ob (cC k v0) fun xT=>
 bif xT then
 ob (bH k (k+17) v1 (↑v1.length:Int) v0 0) fun xE=>
 some (!decide (0≤xE))
 else
 some false
theorem nA (k:Nat) (v0:Tyt) (v1:Tye):xC (k+20) none 146 [.ro (List.map ap v0),.ro (List.map a8 v1)]=ob (fj k v0 v1) fun r=>some ((.lit (.bool r)),[]):=by
 rw [aO]
 unfold fj
 simp -implicitDefEqProofs only [ZD,TC,GM,nD,ZT,T1,aa6,UN,GG,GU,GN,Fo,E7,FT,nJ,X0,Wl,Ug,Gg,oe,↓syP,syA,syD,simprocAttr,syE,aj,ag,af,syW,xQ,cF,nf]
def dH (k:Nat) (v0:Tyt) (v1:Tye):Option (Int×Int):=
 bif (↑v1.length:Int)==0 then
 some (0,0)
 else
 ob (fj k v0 v1) fun xv=>
 bif !xv then
 some (0,0)
 else
 ob (idx v1 (IntKind.i64.wrap ((↑v1.length:Int) - 1))) fun xj=>
 ob (idx v0 xj.1) fun xP=>
 bif decide (xj.2.1<xP.1) then
 some (1,xj.1)
 else
 bif decide (xj.2.2<(↑xP.2.length:Int)) then
 ob (idx xP.2 xj.2.2) fun xN=>
 some (2,xN)
 else
 some (3,xj.1)
theorem rF (k:Nat) (v0:Tyt) (v1:Tye):xC (k+21) none 162 [.ro (List.map ap v0),.ro (List.map a8 v1)]=ob (dH k v0 v1) fun r=>some ((.agg [.lit (.int .i64 r.1),.lit (.int .i64 r.2)]),[]):=by
 rw [aO]
 unfold dH
 simp -implicitDefEqProofs only [acd,Z5,MH,uP,↓syP,syA,syD,simprocAttr,syE,aj,ag,af,syW,xQ,nA]
def fy (k:Nat) (v0:Tyt) (v1:Tye):Option Tye:=
 ob (aP 24 v1) fun xH=>
 ob (dH k v0 v1) fun x75=>
 bif x75.1==1 then
 bif decide (0≤IntKind.i64.wrap ((↑xH.length:Int) - 1)∧(IntKind.i64.wrap ((↑xH.length:Int) - 1)).toNat<xH.length) then
 ob (xH[(IntKind.i64.wrap ((↑xH.length:Int) - 1)).toNat]?) fun x76=>
 bif decide (0≤IntKind.i64.wrap ((↑xH.length:Int) - 1)∧(IntKind.i64.wrap ((↑xH.length:Int) - 1)).toNat<xH.length) then
 ob (xH[(IntKind.i64.wrap ((↑xH.length:Int) - 1)).toNat]?) fun x77=>
 some (xH.set (IntKind.i64.wrap ((↑xH.length:Int) - 1)).toNat (x77.1,IntKind.i64.wrap (x76.2.1+1),x77.2.2))
 else
 none
 else
 none
 else
 bif x75.1==2 then
 bif decide (0≤IntKind.i64.wrap ((↑xH.length:Int) - 1)∧(IntKind.i64.wrap ((↑xH.length:Int) - 1)).toNat<xH.length) then
 ob (xH[(IntKind.i64.wrap ((↑xH.length:Int) - 1)).toNat]?) fun x78=>
 bif decide (0≤IntKind.i64.wrap ((↑xH.length:Int) - 1)∧(IntKind.i64.wrap ((↑xH.length:Int) - 1)).toNat<xH.length) then
 ob (xH[(IntKind.i64.wrap ((↑xH.length:Int) - 1)).toNat]?) fun x79=>
 some (xH.set (IntKind.i64.wrap ((↑xH.length:Int) - 1)).toNat (x79.1,x79.2.1,IntKind.i64.wrap (x78.2.2+1)))
 else
 none
 else
 none
 else
 bif x75.1==3 then
 ck (decide (0≤IntKind.i64.wrap ((↑xH.length:Int) - 1)∧(IntKind.i64.wrap ((↑xH.length:Int) - 1)).toNat≤xH.length)) (
 ck (decide ((IntKind.i64.wrap ((↑xH.length:Int) - 1)).toNat≤xH.length)) (
 some (List.take (IntKind.i64.wrap ((↑xH.length:Int) - 1)).toNat xH)))
 else
 some xH
theorem JE (k:Nat) (v0:Tyt) (v1:Tye):xC (k+22) none 163 [.ro (List.map ap v0),.ro (List.map a8 v1)]=ob (fy k v0 v1) fun r=>some ((.ro (List.map a8 r)),[]):=by
 rw [aO]
 unfold fy
 simp -implicitDefEqProofs only [adq,YG,ab9,YV,aO (g:=182),acj,W7,aci,ZG,aeR,ZI,↓syP,syA,syD,simprocAttr,syE,aj,ag,af,syW,xQ,rF]
def cU (k:Nat) (v0:Tyt) (v1:Tye) (v2:Int):Option Tye:=
 ob (aP 24 v1) fun x89=>
 ob (fj k v0 v1) fun x90=>
 bif !x90 then
 some x89
 else
 ob (fB v2 (IntKind.i64.wrap ((↑v0.length:Int) - 1))) fun x91=>
 bif !x91 then
 some x89
 else
 bif room (x89++[(v2,0,0)]).length 24 then
 some (x89++[(v2,0,0)])
 else
 none
theorem BN (k:Nat) (v0:Tyt) (v1:Tye) (v2:Int):xC (k+21) none 181 [.ro (List.map ap v0),.ro (List.map a8 v1),.lit (.int .i64 v2)]=ob (cU k v0 v1 v2) fun r=>some ((.ro (List.map a8 r)),[]):=by
 rw [aO]
 unfold cU
 simp -implicitDefEqProofs only [ab3,Xf,MJ,ux,↓syP,syA,syD,simprocAttr,syE,aj,ag,af,syW,xQ,A5,nA]
end Go.Ab
set_option maxRecDepth 100000
set_option linter.unusedVariables false
set_option linter.unusedSimpArgs false
namespace Go.Ab
open Go.Proofs
def bR (k:Nat) (v0:(Int×Int×Int×Int)) (v1:(List Int)) (v2:(Int×Int×Int×Int×Int×Int×Int)):Option ((List Int)×(Int×Int×Int×Int×Int×Int×Int)):=
 bif v2.1==5 then
 ob (iM v0 v1 v2) fun x6=>
 some x6
 else
 bif v2.1==6 then
 bif v2.1==6 then
 ob (f8 k v0 v1 v2) fun x7=>
 some x7
 else
 ob (aP 8 v1) fun x8=>
 some (x8,v2)
 else
 bif v2.1==7 then
 ob (f8 k v0 v1 v2) fun x9=>
 some x9
 else
 ob (aP 8 v1) fun x10=>
 some (x10,v2)
theorem rq (k:Nat) (v0_0 v0_1 v0_2 v0_3:Int) (v1:List Int) (v2_0 v2_1 v2_2 v2_3 v2_4 v2_5 v2_6:Int):xC (k+17) none 134 [.agg [.lit (.int .i64 v0_0),.lit (.int .i64 v0_1),.lit (.int .i64 v0_2),.lit (.int .i64 v0_3)],.ro (List.map (aQ .u64) v1),.agg [.lit (.int .i64 v2_0),.lit (.int .i64 v2_1),.lit (.int .i64 v2_2),.lit (.int .u64 v2_3),.lit (.int .u64 v2_4),.lit (.int .u64 v2_5),.lit (.int .i64 v2_6)]]=ob (bR k (v0_0,v0_1,v0_2,v0_3) v1 (v2_0,v2_1,v2_2,v2_3,v2_4,v2_5,v2_6)) fun r=>some ((.tup [.ro (List.map (aQ .u64) r.1),.agg [.lit (.int .i64 r.2.1),.lit (.int .i64 r.2.2.1),.lit (.int .i64 r.2.2.2.1),.lit (.int .u64 r.2.2.2.2.1),.lit (.int .u64 r.2.2.2.2.2.1),.lit (.int .u64 r.2.2.2.2.2.2.1),.lit (.int .i64 r.2.2.2.2.2.2.2)]]),[]):=by
 rw [aO]
 unfold bR
 simp -implicitDefEqProofs only [acb,Xh,K5,wb,↓syP,syA,syD,simprocAttr,syE,aj,ag,af,syW,xQ,Fa,Gk]
def mP (v0:(Int×Int×Int×Int)) (v1:(List Int)):Option Bool:=
 ob (bO v0) fun x20=>
 bif x20 then
 ob (dx v0) fun x21=>
 some ((↑v1.length:Int)==x21)
 else
 some false
theorem Jj (k:Nat) (v0_0 v0_1 v0_2 v0_3:Int) (v1:List Int):xC (k+4) none 105 [.agg [.lit (.int .i64 v0_0),.lit (.int .i64 v0_1),.lit (.int .i64 v0_2),.lit (.int .i64 v0_3)],.ro (List.map (aQ .u64) v1)]=ob (mP (v0_0,v0_1,v0_2,v0_3) v1) fun r=>some ((.lit (.bool r)),[]):=by
 rw [aO]
 unfold mP
 simp -implicitDefEqProofs only [adI,Zr,LN,ul,↓syP,syA,syD,simprocAttr,syE,aj,ag,af,syW,xQ,bX,gi]
def iC (v0:(Int×Int×Int×Int)) (v1:(List Int)) (v2:(Int×Int×Int×Int×Int×Int×Int)) (v3:Int):Option Bool:=
 ob (mP v0 v1) fun x26=>
 bif x26 then
 ob (aL v2) fun x27=>
 bif !x27 then
 bif v2.1==v3 then
 bif decide (0≤v2.2.1) then
 some (decide (v2.2.1<5))
 else
 some false
 else
 some false
 else
 some false
 else
 some false
theorem Be (k:Nat) (v0_0 v0_1 v0_2 v0_3:Int) (v1:List Int) (v2_0 v2_1 v2_2 v2_3 v2_4 v2_5 v2_6 v3:Int):xC (k+5) none 196 [.agg [.lit (.int .i64 v0_0),.lit (.int .i64 v0_1),.lit (.int .i64 v0_2),.lit (.int .i64 v0_3)],.ro (List.map (aQ .u64) v1),.agg [.lit (.int .i64 v2_0),.lit (.int .i64 v2_1),.lit (.int .i64 v2_2),.lit (.int .u64 v2_3),.lit (.int .u64 v2_4),.lit (.int .u64 v2_5),.lit (.int .i64 v2_6)],.lit (.int .i64 v3)]=ob (iC (v0_0,v0_1,v0_2,v0_3) v1 (v2_0,v2_1,v2_2,v2_3,v2_4,v2_5,v2_6) v3) fun r=>some ((.lit (.bool r)),[]):=by
 rw [aO]
 unfold iC
 simp -implicitDefEqProofs only [aeV,ZS,Mv,M1,Ko,M0,wE,↓syP,syA,syD,simprocAttr,syE,aj,ag,af,syW,xQ,fC,Jj]
def gF (v0:(Int×Int×Int×Int)) (v1:Int):Option Int:=
 ob (bO v0) fun x36=>
 bif !x36 then
 some ((-1))
 else
 ob (ea 0 0 (IntKind.i64.wrap (v0.1 - 1))) fun x37=>
 bif !x37 then
 some ((-1))
 else
 bif IntKind.u64.wrap v0.2.2.1 !=0 then
 some (IntKind.i64.wrap (6+IntKind.i64.wrap (v1.tmod (IntKind.u64.wrap v0.2.2.1))))
 else
 none
theorem Ea (k:Nat) (v0_0 v0_1 v0_2 v0_3 v1:Int):xC (k+12) none 203 [.agg [.lit (.int .i64 v0_0),.lit (.int .i64 v0_1),.lit (.int .i64 v0_2),.lit (.int .i64 v0_3)],.lit (.int .u64 v1)]=ob (gF (v0_0,v0_1,v0_2,v0_3) v1) fun r=>some ((.lit (.int .i64 r)),[]):=by
 rw [aO]
 unfold gF
 simp -implicitDefEqProofs only [WC,S8,u5,gh,acx,Y7,aeX,Y4,↓syP,syA,syD,simprocAttr,syE,aj,ag,af,syW,xQ,l9,bX]
def lg (v0:(Int×Int×Int×Int)) (v1:Int):Option Int:=
 ob (bO v0) fun x42=>
 bif !x42 then
 some ((-1))
 else
 ob (ea 0 0 (IntKind.i64.wrap (v0.1 - 1))) fun x43=>
 bif !x43 then
 some ((-1))
 else
 bif IntKind.u64.wrap v0.2.2.1 !=0 then
 some (IntKind.i64.wrap (IntKind.i64.wrap (6+v0.2.2.1)+IntKind.i64.wrap (v1.tmod (IntKind.u64.wrap v0.2.2.1))))
 else
 none
theorem EL (k:Nat) (v0_0 v0_1 v0_2 v0_3 v1:Int):xC (k+12) none 205 [.agg [.lit (.int .i64 v0_0),.lit (.int .i64 v0_1),.lit (.int .i64 v0_2),.lit (.int .i64 v0_3)],.lit (.int .u64 v1)]=ob (lg (v0_0,v0_1,v0_2,v0_3) v1) fun r=>some ((.lit (.int .i64 r)),[]):=by
 rw [aO]
 unfold lg
 simp -implicitDefEqProofs only [WC,S8,u5,gh,aeS,Yt,acT,XX,↓syP,syA,syD,simprocAttr,syE,aj,ag,af,syW,xQ,l9,bX]
def kN (v0:(Int×Int×Int×Int)) (v1:(List Int)) (v2:(Int×Int×Int×Int×Int×Int×Int)):Option ((List Int)×(Int×Int×Int×Int×Int×Int×Int)):=
 ob (aP 8 v1) fun xU=>
 ob (iC v0 v1 v2 3) fun xv=>
 bif !xv then
 some (xU,v2)
 else
 bif decide (0≤v2.2.1∧v2.2.1.toNat<5) then
 bif v2.2.1.toNat==0 then
 ob (aH xU 5) fun xj=>
 some (xU,(v2.1,1,v2.2.2.1,v2.2.2.2.1,xj,v2.2.2.2.2.2))
 else
 bif v2.2.1.toNat==1 then
 ob (gF v0 v2.2.2.2.2.1) fun xP=>
 ob (aH xU xP) fun xN=>
 bif IntKind.u64.wrap v0.2.2.1 !=0 then
 bif xN==IntKind.u64.wrap (IntKind.u64.wrap (v2.2.2.2.2.1.tdiv (IntKind.u64.wrap v0.2.2.1))*2) then
 some (xU,(v2.1,2,v2.2.2.1,v2.2.2.2.1,v2.2.2.2.2.1,xN,v2.2.2.2.2.2.2))
 else
 bif IntKind.u64.wrap v0.2.2.1 !=0 then
 ob (eJ xN (IntKind.u64.wrap (IntKind.u64.wrap (v2.2.2.2.2.1.tdiv (IntKind.u64.wrap v0.2.2.1))*2))) fun xz=>
 bif decide (xz<0) then
 ob (aV (v2.1,v2.2.1,v2.2.2.1,v2.2.2.2.1,v2.2.2.2.2.1,xN,v2.2.2.2.2.2.2) 2 v2.2.2.2.1) fun xc=>
 some (xU,(xc.1,0,xc.2.2))
 else
 some (xU,(v2.1,0,v2.2.2.1,v2.2.2.2.1,v2.2.2.2.2.1,xN,v2.2.2.2.2.2.2))
 else
 none
 else
 none
 else
 bif v2.2.1.toNat==2 then
 ob (cT xU 5 v2.2.2.2.2.1 (IntKind.u64.wrap (v2.2.2.2.2.1+1))) fun x66=>
 bif x66.2 then
 some (x66.1,(v2.1,3,v2.2.2))
 else
 some (x66.1,(v2.1,0,v2.2.2))
 else
 bif v2.2.1.toNat==3 then
 ob (lg v0 v2.2.2.2.2.1) fun x67=>
 ob (br xU x67 v2.2.2.2.1) fun x68=>
 some (x68,(v2.1,4,v2.2.2))
 else
 bif v2.2.1.toNat==4 then
 ob (gF v0 v2.2.2.2.2.1) fun x69=>
 bif IntKind.u64.wrap v0.2.2.1 !=0 then
 ob (br xU x69 (IntKind.u64.wrap (IntKind.u64.wrap (IntKind.u64.wrap (v2.2.2.2.2.1.tdiv (IntKind.u64.wrap v0.2.2.1))*2)+1))) fun x70=>
 ob (aV v2 1 v2.2.2.2.1) fun x71=>
 some (x70,(x71.1,0,x71.2.2))
 else
 none
 else
 none
 else
 none
theorem Jy (k:Nat) (v0_0 v0_1 v0_2 v0_3:Int) (v1:List Int) (v2_0 v2_1 v2_2 v2_3 v2_4 v2_5 v2_6:Int):xC (k+24) none 167 [.agg [.lit (.int .i64 v0_0),.lit (.int .i64 v0_1),.lit (.int .i64 v0_2),.lit (.int .i64 v0_3)],.ro (List.map (aQ .u64) v1),.agg [.lit (.int .i64 v2_0),.lit (.int .i64 v2_1),.lit (.int .i64 v2_2),.lit (.int .u64 v2_3),.lit (.int .u64 v2_4),.lit (.int .u64 v2_5),.lit (.int .i64 v2_6)]]=ob (kN (v0_0,v0_1,v0_2,v0_3) v1 (v2_0,v2_1,v2_2,v2_3,v2_4,v2_5,v2_6)) fun r=>some ((.tup [.ro (List.map (aQ .u64) r.1),.agg [.lit (.int .i64 r.2.1),.lit (.int .i64 r.2.2.1),.lit (.int .i64 r.2.2.2.1),.lit (.int .u64 r.2.2.2.2.1),.lit (.int .u64 r.2.2.2.2.2.1),.lit (.int .u64 r.2.2.2.2.2.2.1),.lit (.int .i64 r.2.2.2.2.2.2.2)]]),[]):=by
 rw [aO]
 unfold kN
 simp -implicitDefEqProofs only [aey,Xy,adb,Yi,ael,Xu,adx,aaJ,acH,aay,acD,XT,aer,WL,aew,WT,↓syP,syA,syD,simprocAttr,syE,aj,ag,af,syW,xQ,cI,eH,ir,fg,lD,Be,Ea,EL]
def io (v0:(Int×Int×Int×Int)) (v1:Int):Option Int:=
 bif IntKind.u64.wrap v0.2.2.1 !=0 then
 some (IntKind.u64.wrap (IntKind.u64.wrap (IntKind.u64.wrap (v1.tdiv (IntKind.u64.wrap v0.2.2.1))*2)+1))
 else
 none
theorem IM (k:Nat) (v0_0 v0_1 v0_2 v0_3 v1:Int):xC (k+1) none 204 [.agg [.lit (.int .i64 v0_0),.lit (.int .i64 v0_1),.lit (.int .i64 v0_2),.lit (.int .i64 v0_3)],.lit (.int .u64 v1)]=ob (io (v0_0,v0_1,v0_2,v0_3) v1) fun r=>some ((.lit (.int .u64 r)),[]):=by
 rw [aO]
 unfold io
 simp -implicitDefEqProofs only [ady,XL,↓syP,syA,syD,simprocAttr,syE,aj,ag,af,syW,xQ]
def lI (v0:(Int×Int×Int×Int)) (v1:(List Int)) (v2:(Int×Int×Int×Int×Int×Int×Int)):Option ((List Int)×(Int×Int×Int×Int×Int×Int×Int)):=
 ob (aP 8 v1) fun xL=>
 ob (iC v0 v1 v2 4) fun xb=>
 bif !xb then
 some (xL,v2)
 else
 bif v2.2.1==0 then
 ob (aH xL 4) fun x111=>
 some (xL,(v2.1,1,v2.2.2.1,v2.2.2.2.1,x111,v2.2.2.2.2.2))
 else
 bif v2.2.1==1 then
 ob (gF v0 v2.2.2.2.2.1) fun x112=>
 ob (aH xL x112) fun xp=>
 ob (io v0 v2.2.2.2.2.1) fun x114=>
 ob (eJ xp x114) fun x115=>
 bif x115==0 then
 some (xL,(v2.1,2,v2.2.2.1,v2.2.2.2.1,v2.2.2.2.2.1,xp,v2.2.2.2.2.2.2))
 else
 bif decide (x115<0) then
 ob (aV (v2.1,0,v2.2.2.1,v2.2.2.2.1,v2.2.2.2.2.1,xp,v2.2.2.2.2.2.2) 3 0) fun x116=>
 some (xL,x116)
 else
 some (xL,(v2.1,0,v2.2.2.1,v2.2.2.2.1,v2.2.2.2.2.1,xp,v2.2.2.2.2.2.2))
 else
 bif v2.2.1==2 then
 ob (cT xL 4 v2.2.2.2.2.1 (IntKind.u64.wrap (v2.2.2.2.2.1+1))) fun x117=>
 bif x117.2 then
 some (x117.1,(v2.1,3,v2.2.2))
 else
 some (x117.1,(v2.1,0,v2.2.2))
 else
 bif v2.2.1==3 then
 ob (lg v0 v2.2.2.2.2.1) fun x118=>
 ob (aH xL x118) fun x119=>
 some (xL,(v2.1,4,v2.2.2.1,x119,v2.2.2.2.2))
 else
 ob (gF v0 v2.2.2.2.2.1) fun x120=>
 ob (io v0 v2.2.2.2.2.1) fun x121=>
 ob (br xL x120 (IntKind.u64.wrap (x121+1))) fun x122=>
 ob (aV v2 1 v2.2.2.2.1) fun x123=>
 some (x122,x123)
theorem JO (k:Nat) (v0_0 v0_1 v0_2 v0_3:Int) (v1:List Int) (v2_0 v2_1 v2_2 v2_3 v2_4 v2_5 v2_6:Int):xC (k+13) none 168 [.agg [.lit (.int .i64 v0_0),.lit (.int .i64 v0_1),.lit (.int .i64 v0_2),.lit (.int .i64 v0_3)],.ro (List.map (aQ .u64) v1),.agg [.lit (.int .i64 v2_0),.lit (.int .i64 v2_1),.lit (.int .i64 v2_2),.lit (.int .u64 v2_3),.lit (.int .u64 v2_4),.lit (.int .u64 v2_5),.lit (.int .i64 v2_6)]]=ob (lI (v0_0,v0_1,v0_2,v0_3) v1 (v2_0,v2_1,v2_2,v2_3,v2_4,v2_5,v2_6)) fun r=>some ((.tup [.ro (List.map (aQ .u64) r.1),.agg [.lit (.int .i64 r.2.1),.lit (.int .i64 r.2.2.1),.lit (.int .i64 r.2.2.2.1),.lit (.int .u64 r.2.2.2.2.1),.lit (.int .u64 r.2.2.2.2.2.1),.lit (.int .u64 r.2.2.2.2.2.2.1),.lit (.int .i64 r.2.2.2.2.2.2.2)]]),[]):=by
 rw [aO]
 unfold lI
 simp -implicitDefEqProofs only [ab5,Yz,J5,wG,↓syP,syA,syD,simprocAttr,syE,aj,ag,af,syW,xQ,cI,eH,ir,fg,lD,Be,Ea,EL,IM]
def bl (v0:(Int×Int×Int×Int)) (v1:(List Int)) (v2:(Int×Int×Int×Int×Int×Int×Int)):Option ((List Int)×(Int×Int×Int×Int×Int×Int×Int)):=
 bif v2.1==3 then
 ob (kN v0 v1 v2) fun x142=>
 some x142
 else
 bif v2.1==4 then
 ob (lI v0 v1 v2) fun x143=>
 some x143
 else
 ob (aP 8 v1) fun x144=>
 some (x144,v2)
theorem oT (k:Nat) (v0_0 v0_1 v0_2 v0_3:Int) (v1:List Int) (v2_0 v2_1 v2_2 v2_3 v2_4 v2_5 v2_6:Int):xC (k+26) none 135 [.agg [.lit (.int .i64 v0_0),.lit (.int .i64 v0_1),.lit (.int .i64 v0_2),.lit (.int .i64 v0_3)],.ro (List.map (aQ .u64) v1),.agg [.lit (.int .i64 v2_0),.lit (.int .i64 v2_1),.lit (.int .i64 v2_2),.lit (.int .u64 v2_3),.lit (.int .u64 v2_4),.lit (.int .u64 v2_5),.lit (.int .i64 v2_6)]]=ob (bl (v0_0,v0_1,v0_2,v0_3) v1 (v2_0,v2_1,v2_2,v2_3,v2_4,v2_5,v2_6)) fun r=>some ((.tup [.ro (List.map (aQ .u64) r.1),.agg [.lit (.int .i64 r.2.1),.lit (.int .i64 r.2.2.1),.lit (.int .i64 r.2.2.2.1),.lit (.int .u64 r.2.2.2.2.1),.lit (.int .u64 r.2.2.2.2.2.1),.lit (.int .u64 r.2.2.2.2.2.2.1),.lit (.int .i64 r.2.2.2.2.2.2.2)]]),[]):=by
 rw [aO]
 unfold bl
 simp -implicitDefEqProofs only [acM,Zg,↓syP,syA,syD,simprocAttr,syE,aj,ag,af,syW,xQ,Jy,JO]
end Go.Ab
set_option maxRecDepth 100000
set_option linter.unusedVariables false
set_option linter.unusedSimpArgs false
namespace Go.Ab
open Go.Proofs
def iu (k:Nat) (v0:(Int×Int×Int×Int)) (v1:Tyt) (v2:(List Int)) (v3:Int) (v4:Tyw):Option Bool:=
 ob (bO v0) fun x5=>
 bif x5 then
 ob (dx v0) fun x6=>
 bif (↑v2.length:Int)==x6 then
 ob (cC (k+4) v1) fun x7=>
 bif x7 then
 bif decide (0≤v3) then
 bif decide (v3<v0.1) then
 bif decide (0≤v4.1) then
 bif decide (v4.1<16) then
 ob (fj (k+3) v1 v4.2.1) fun x8=>
 some x8
 else
 some false
 else
 some false
 else
 some false
 else
 some false
 else
 some false
 else
 some false
 else
 some false
theorem A3 (k:Nat) (v0_0 v0_1 v0_2 v0_3:Int) (v1:Tyt) (v2:List Int) (v3 v4_0:Int) (v4_1:Tye) (v4_2_0 v4_2_1 v4_2_2 v4_2_3 v4_2_4 v4_2_5 v4_2_6 v4_3 v4_4:Int):xC (k+24) none 95 [.agg [.lit (.int .i64 v0_0),.lit (.int .i64 v0_1),.lit (.int .i64 v0_2),.lit (.int .i64 v0_3)],.ro (List.map ap v1),.ro (List.map (aQ .u64) v2),.lit (.int .i64 v3),.agg [.lit (.int .i64 v4_0),.ro (List.map a8 v4_1),.lit (.int .i64 v4_2_0),.lit (.int .i64 v4_2_1),.lit (.int .i64 v4_2_2),.lit (.int .u64 v4_2_3),.lit (.int .u64 v4_2_4),.lit (.int .u64 v4_2_5),.lit (.int .i64 v4_2_6),.lit (.int .i64 v4_3),.lit (.int .i64 v4_4)]]=ob (iu k (v0_0,v0_1,v0_2,v0_3) v1 v2 v3 (v4_0,v4_1,(v4_2_0,v4_2_1,v4_2_2,v4_2_3,v4_2_4,v4_2_5,v4_2_6),v4_3,v4_4)) fun r=>some ((.lit (.bool r)),[]):=by
 rw [aO]
 unfold iu
 simp -implicitDefEqProofs only [agw,afp,Sd,R8,SI,Rb,RX,Rl,RY,Bg,↓syP,syA,syD,simprocAttr,syE,aj,ag,af,syW,xQ,cF,bX,gi,nA]
def bu (k:Nat) (v0:(List Int)) (v1:Int)  : Nat→Int→Option Int
 | 0,_=>none
 | n+1,sV=>
 bif decide (sV<(↑v0.length:Int)) then
 ob (idx v0 sV) fun x22=>
 bif v1==x22 then
 some (sV)
 else
 bu k v0 v1  n (IntKind.i64.wrap (sV+(1:Int)))
 else
 some ((-1:Int))
theorem lL (k:Nat) (v0:List Int) (v1:Int):∀ (n:Nat) (sV:Int) ⦃j18:V⦄,rt none (itX (xX (xS k) 61 0 k false) G1 (0) (av (xX (xS k) 61 0 k false) (aD (xS k).P Tryz.f61) HF) n ⟨[.ro (List.map (aQ IntKind.i64) v0),.lit (.int .i64 v1),uu,uu,.lit (.int .i64 (0:Int)),j18,.ro (List.map (aQ IntKind.i64) v0),.lit (.int .i64 (↑v0.length:Int)),.lit (.int .i64 sV),.junk,.junk,.junk,.junk,.junk,.junk,.junk,.junk,.junk,.junk],[]⟩)=ob (bu k v0 v1  n sV) fun r=>some ((.lit (.int .i64 r)),[]):=by
 intro n
 induction n with
 | zero=>intros;rfl
 | succ n ih=>
  intro sV j18
  rw [bu]
  simp -implicitDefEqProofs only [afv,ae4,abZ,MC,pu,↓syP,syA,syD,simprocAttr,syE,aj,ag,af,syW,xQ,SE,ih]
def cY (k:Nat) (v0:(List Int)) (v1:Int):Option Int:=
 bu k v0 v1 k 0
theorem fR (k:Nat) (v0:List Int) (v1:Int):xC (k+1) none 61 [.ro (List.map (aQ .i64) v0),.lit (.int .i64 v1)]=ob (cY k v0 v1) fun r=>some ((.lit (.int .i64 r)),[]):=by
 rw [aO]
 unfold cY
 simp -implicitDefEqProofs only [afv,ae4,abZ,MC,pu,↓syP,syA,syD,simprocAttr,syE,aj,ag,af,syW,xQ,lL k v0 v1]
def nc (v0:Int):Option Tyw:=
 ob (aG 1 v0 0) fun x36=>
 some (0,[],x36,0,0)
theorem pV (k:Nat) (v0:Int):xC (k+2) none 60 [.lit (.int .i64 v0)]=ob (nc v0) fun r=>some ((.agg [.lit (.int .i64 r.1),.ro (List.map a8 r.2.1),.lit (.int .i64 r.2.2.1.1),.lit (.int .i64 r.2.2.1.2.1),.lit (.int .i64 r.2.2.1.2.2.1),.lit (.int .u64 r.2.2.1.2.2.2.1),.lit (.int .u64 r.2.2.1.2.2.2.2.1),.lit (.int .u64 r.2.2.1.2.2.2.2.2.1),.lit (.int .i64 r.2.2.1.2.2.2.2.2.2),.lit (.int .i64 r.2.2.2.1),.lit (.int .i64 r.2.2.2.2)]),[]):=by
 rw [aO]
 unfold nc
 simp -implicitDefEqProofs only [agn,afg,↓syP,syA,syD,simprocAttr,syE,aj,ag,af,syW,xQ,lT]
 all_goals simp -implicitDefEqProofs only [List.map_nil]
end Go.Ab
set_option maxRecDepth 100000
set_option linter.unusedVariables false
set_option linter.unusedSimpArgs false
namespace Go.Ab
open Go.Proofs
def fx (k:Nat) (v0:(Int×Int×Int×Int)) (v1:Tyt) (v2:(List Int)) (v3:Tys):Option Bool:=
 ob (bO v0) fun x6=>
 bif x6 then
 ob (dx v0) fun x7=>
 bif (↑v2.length:Int)==x7 then
 ob (cC (k+4) v1) fun x8=>
 bif x8 then
 bif decide (0≤v3.1) then
 bif decide (v3.1<6) then
 bif decide (0<(↑v3.2.1.length:Int)) then
 ob (idx v3.2.1 0) fun x9=>
 bif decide (0≤x9) then
 ob (idx v3.2.1 0) fun x10=>
 some (decide (x10<(↑v1.length:Int)))
 else
 some false
 else
 some false
 else
 some false
 else
 some false
 else
 some false
 else
 some false
 else
 some false
theorem ry (k:Nat) (v0_0 v0_1 v0_2 v0_3:Int) (v1:Tyt) (v2:List Int) (v3_0:Int) (v3_1:List Int) (v3_2_0 v3_2_1 v3_2_2 v3_2_3 v3_2_4 v3_2_5 v3_2_6:Int):xC (k+24) none 85 [.agg [.lit (.int .i64 v0_0),.lit (.int .i64 v0_1),.lit (.int .i64 v0_2),.lit (.int .i64 v0_3)],.ro (List.map ap v1),.ro (List.map (aQ .u64) v2),.agg [.lit (.int .i64 v3_0),.ro (List.map (aQ .i64) v3_1),.lit (.int .i64 v3_2_0),.lit (.int .i64 v3_2_1),.lit (.int .i64 v3_2_2),.lit (.int .u64 v3_2_3),.lit (.int .u64 v3_2_4),.lit (.int .u64 v3_2_5),.lit (.int .i64 v3_2_6)]]=ob (fx k (v0_0,v0_1,v0_2,v0_3) v1 v2 (v3_0,v3_1,(v3_2_0,v3_2_1,v3_2_2,v3_2_3,v3_2_4,v3_2_5,v3_2_6))) fun r=>some ((.lit (.bool r)),[]):=by
 rw [aO]
 unfold fx
 simp -implicitDefEqProofs only [agv,afw,SJ,SH,Rv,Rr,Su,Rw,RU,Bq,↓syP,syA,syD,simprocAttr,syE,aj,ag,af,syW,xQ,cF,bX,gi]
def fG (k : Nat) (v0 : (Int × Int × Int × Int)) (v1 : (List (Int × List Int))) (v2 : (List Int)) (v3 : Int) (v4 : (Int × List Int × Int × Int × Int × Int × Int × Int × Int)) : Option ((List Int) × (Int × List Int × Int × Int × Int × Int × Int × Int × Int) × (List (Int × Int × Int))) :=
 ob (aP 8 v2) fun xT =>
 ob (aP 8 v4.2.1) fun xE =>
 ob (fx (k + 15) v0 v1 v2 v4) fun x40 =>
 bif !x40 then
 some (xT,(v4.1,xE,v4.2.2),[])
 else
 ob (idx xE 0) fun xe =>
 bif v4.1 == 0 then
 ob (aH xT 3) fun x42 =>
 bif x42 != 0 then
 bif room 1 24 then
 bif decide (1 ≤ (↑xE.length : Int)) then
 some (xT,(0,(List.drop (Int.toNat 1) xE),(0,0,0,0,0,0,0)),([(1,xe,v3)]))
 else
 none
 else
 none
 else
 some (xT,(1,xE,v4.2.2),[])
 else
 bif v4.1 == 1 then
 ob (cS xT 0 1) fun x43 =>
 ob (aG 3 v3 (IntKind.u64.wrap xe)) fun x44 =>
 some (x43.1,(2,xE,x44),[])
 else
 bif v4.1 == 2 then
 bif v4.2.2.1 == 3 then
 ob (bl v0 xT v4.2.2) fun xi =>
 ob (aL xi.2) fun xq =>
 bif !xq then
 some (xi.1,(v4.1,xE,xi.2),[])
 else
 bif xi.2.2.2.2.2.2.2 != 2 then
 bif room 1 24 then
 some (xi.1,(3,xE,xi.2),([(0,xe,v3)]))
 else
 none
 else
 some (xi.1,(5,xE,xi.2),[])
 else
 bif v4.2.2.1 == 4 then
 ob (bl v0 xT v4.2.2) fun xh =>
 ob (aL xh.2) fun x48 =>
 bif !x48 then
 some (xh.1,(v4.1,xE,xh.2),[])
 else
 bif xh.2.2.2.2.2.2.2 != 2 then
 bif room 1 24 then
 some (xh.1,(3,xE,xh.2),([(0,xe,v3)]))
 else
 none
 else
 some (xh.1,(5,xE,xh.2),[])
 else
 ob (bR (k + 20) v0 xT v4.2.2) fun xn =>
 ob (aL xn.2) fun x50 =>
 bif !x50 then
 some (xn.1,(v4.1,xE,xn.2),[])
 else
 bif xn.2.2.2.2.2.2.2 != 2 then
 bif room 1 24 then
 some (xn.1,(3,xE,xn.2),([(0,xe,v3)]))
 else
 none
 else
 some (xn.1,(5,xE,xn.2),[])
 else
 bif v4.1 == 3 then
 ob (aH xT 1) fun x51 =>
 bif x51 != 0 then
 bif decide (1 ≤ (↑xE.length : Int)) then
 some (xT,(0,(List.drop (Int.toNat 1) xE),(0,0,0,0,0,0,0)),[])
 else
 none
 else
 ob (aG 6 v3 0) fun x52 =>
 some (xT,(4,xE,x52),[])
 else
 bif v4.1 == 4 then
 bif v4.2.2.1 == 3 then
 ob (bl v0 xT v4.2.2) fun x53 =>
 ob (aL x53.2) fun xV =>
 bif xV then
 bif decide (1 ≤ (↑xE.length : Int)) then
 some (x53.1,(0,(List.drop (Int.toNat 1) xE),(0,0,0,0,0,0,0)),[])
 else
 none
 else
 some (x53.1,(v4.1,xE,x53.2),[])
 else
 bif v4.2.2.1 == 4 then
 ob (bl v0 xT v4.2.2) fun x55 =>
 ob (aL x55.2) fun x56 =>
 bif x56 then
 bif decide (1 ≤ (↑xE.length : Int)) then
 some (x55.1,(0,(List.drop (Int.toNat 1) xE),(0,0,0,0,0,0,0)),[])
 else
 none
 else
 some (x55.1,(v4.1,xE,x55.2),[])
 else
 ob (bR (k + 20) v0 xT v4.2.2) fun xo =>
 ob (aL xo.2) fun x58 =>
 bif x58 then
 bif decide (1 ≤ (↑xE.length : Int)) then
 some (xo.1,(0,(List.drop (Int.toNat 1) xE),(0,0,0,0,0,0,0)),[])
 else
 none
 else
 some (xo.1,(v4.1,xE,xo.2),[])
 else
 bif v4.1 == 5 then
 ob (cS xT 0 18446744073709551615) fun xU =>
 bif room 1 24 then
 bif xU.2 == 1 then
 bif room 2 24 then
 bif decide (1 ≤ (↑xE.length : Int)) then
 some (xU.1,(0,(List.drop (Int.toNat 1) xE),(0,0,0,0,0,0,0)),([(1,xe,v3),(5,0,v3)]))
 else
 none
 else
 none
 else
 bif decide (1 ≤ (↑xE.length : Int)) then
 some (xU.1,(0,(List.drop (Int.toNat 1) xE),(0,0,0,0,0,0,0)),([(1,xe,v3)]))
 else
 none
 else
 none
 else
 none
theorem B6 (k : Nat) (v0_0 v0_1 v0_2 v0_3 : Int) (v1 : List (Int × List Int)) (v2 : List Int) (v3 v4_0 : Int) (v4_1 : List Int) (v4_2_0 v4_2_1 v4_2_2 v4_2_3 v4_2_4 v4_2_5 v4_2_6 : Int) : xC (k + 40) none 86 [.agg [.lit (.int .i64 v0_0),.lit (.int .i64 v0_1),.lit (.int .i64 v0_2),.lit (.int .i64 v0_3)],.ro (List.map ap v1),.ro (List.map (aQ .u64) v2),.lit (.int .i64 v3),.agg [.lit (.int .i64 v4_0),.ro (List.map (aQ .i64) v4_1),.lit (.int .i64 v4_2_0),.lit (.int .i64 v4_2_1),.lit (.int .i64 v4_2_2),.lit (.int .u64 v4_2_3),.lit (.int .u64 v4_2_4),.lit (.int .u64 v4_2_5),.lit (.int .i64 v4_2_6)]] = ob (fG k (v0_0,v0_1,v0_2,v0_3) v1 v2 v3 (v4_0,v4_1,(v4_2_0,v4_2_1,v4_2_2,v4_2_3,v4_2_4,v4_2_5,v4_2_6))) fun r => some ((.tup [.ro (List.map (aQ .u64) r.1),.agg [.lit (.int .i64 r.2.1.1),.ro (List.map (aQ .i64) r.2.1.2.1),.lit (.int .i64 r.2.1.2.2.1),.lit (.int .i64 r.2.1.2.2.2.1),.lit (.int .i64 r.2.1.2.2.2.2.1),.lit (.int .u64 r.2.1.2.2.2.2.2.1),.lit (.int .u64 r.2.1.2.2.2.2.2.2.1),.lit (.int .u64 r.2.1.2.2.2.2.2.2.2.1),.lit (.int .i64 r.2.1.2.2.2.2.2.2.2.2)],.ro (List.map a8 r.2.2)]),[]) := by
  rw [aO]
  unfold fG
  simp -implicitDefEqProofs only [agk,afx,aev,aaF,aeb,Zc,afd,ZE,Mk,Mw,wS,wg,adh,Xc,acV,XN,afe,Xj,acP,YK,aea,Zd,aem,ZU,↓syP,syA,syD,simprocAttr,syE,aj,ag,af,syW,xQ,cI,A0,lT,fC,rq,oT,ry]
  all_goals simp -implicitDefEqProofs only [List.map_nil]
def gq (v0:(List Int)):Option Tys:=
 ob (aP 8 v0) fun x86=>
 some (0,x86,(0,0,0,0,0,0,0))
theorem mr (k:Nat) (v0:List Int):xC (k+2) none 63 [.ro (List.map (aQ .i64) v0)]=ob (gq v0) fun r=>some ((.agg [.lit (.int .i64 r.1),.ro (List.map (aQ .i64) r.2.1),.lit (.int .i64 r.2.2.1),.lit (.int .i64 r.2.2.2.1),.lit (.int .i64 r.2.2.2.2.1),.lit (.int .u64 r.2.2.2.2.2.1),.lit (.int .u64 r.2.2.2.2.2.2.1),.lit (.int .u64 r.2.2.2.2.2.2.2.1),.lit (.int .i64 r.2.2.2.2.2.2.2.2)]),[]):=by
 rw [aO]
 unfold gq
 simp -implicitDefEqProofs only [age,afO,↓syP,syA,syD,simprocAttr,syE,aj,ag,af,syW,xQ]
end Go.Ab
set_option maxRecDepth 100000
set_option linter.unusedVariables false
set_option linter.unusedSimpArgs false
namespace Go.Ab
open Go.Proofs
def we {β:Type} (k:Nat) (c:Int×Int×Int×Int) (m:List Int) (f:Int×Int×Int×Int×Int×Int×Int) (K:List Int×(Int×Int×Int×Int×Int×Int×Int)→Option β):Option β:=
 (bif f.1==0 then (bif f.1==0 then ob (eu (k+31) c m f) K else (bif f.1==3 then (bif f.1==3 then ob (bl c m f) K else ob (bR (k+40) c m f) K) else (bif f.1==4 then ob (bl c m f) K else ob (bR (k+40) c m f) K))) else (bif f.1==1 then (bif f.1==1 then ob (eu (k+31) c m f) K else (bif f.1==3 then (bif f.1==3 then ob (bl c m f) K else ob (bR (k+40) c m f) K) else (bif f.1==4 then ob (bl c m f) K else ob (bR (k+40) c m f) K))) else (bif f.1==2 then ob (eu (k+31) c m f) K else (bif f.1==3 then (bif f.1==3 then ob (bl c m f) K else ob (bR (k+40) c m f) K) else (bif f.1==4 then ob (bl c m f) K else ob (bR (k+40) c m f) K)))))
def iG (k : Nat) (v0 : (Int × Int × Int × Int)) (v1 : (List (Int × List Int))) (v2 : (List Int)) (v3 : Int) (v4 : (Int × List (Int × Int × Int) × (Int × Int × Int × Int × Int × Int × Int) × Int × Int)) (v5 : Int) : Option ((List Int) × (Int × List (Int × Int × Int) × (Int × Int × Int × Int × Int × Int × Int) × Int × Int) × (List (Int × Int × Int))) :=
 ob (aP 8 v2) fun xD =>
 ob (aP 24 v4.2.1) fun xB =>
 ob (iu (k + 35) v0 v1 v2 v3 v4) fun x472 =>
 bif !x472 then
 some (xD,(v4.1,xB,v4.2.2),[])
 else
 bif v4.1 == 0 then
 we k v0 xD v4.2.2.1 fun xf =>
 ob (aL xf.2) fun x474 =>
 bif !x474 then
 some (xf.1,(v4.1,xB,xf.2,v4.2.2.2),[])
 else
 bif xf.2.2.2.2.2.2.2 != 1 then
 some (xf.1,(1,xB,(0,0,0,0,0,0,0),v4.2.2.2),[])
 else
 ob (cU (k + 36) v1 xB (IntKind.i64.wrap xf.2.2.2.2.1)) fun x475 =>
 bif room 1 24 then
 some (xf.1,(9,x475,(0,0,0,0,0,0,0),v4.2.2.2),([(2,IntKind.i64.wrap xf.2.2.2.2.1,v3)]))
 else
 none
 else
 bif v4.1 == 1 then
 ob (cS xD 1 1) fun x518 =>
 ob (aG 4 v3 0) fun x519 =>
 some (x518.1,(2,xB,x519,v0.2.2.2,v4.2.2.2.2),[])
 else
 bif v4.1 == 2 then
 ob (eP v5 v3 v0.1) fun x520 =>
 we k v0 xD v4.2.2.1 fun xW =>
 ob (aL xW.2) fun x522 =>
 bif !x522 then
 some (xW.1,(v4.1,xB,xW.2,v4.2.2.2),[])
 else
 bif xW.2.2.2.2.2.2.2 == 1 then
 some (xW.1,(4,xB,xW.2,v4.2.2.2),[])
 else
 bif v4.1 == 2 then
 bif decide (0 ≤ x520) then
 ob (aG 2 x520 0) fun x523 =>
 some (xW.1,(3,xB,x523,v4.2.2.2),[])
 else
 bif decide (v4.2.2.2.1 ≤ 0) then
 ob (aG 5 v3 0) fun x524 =>
 some (xW.1,(5,xB,x524,v4.2.2.2),[])
 else
 ob (aG 4 v3 0) fun x525 =>
 some (xW.1,(2,xB,x525,(IntKind.i64.wrap (v4.2.2.2.1 - 1)),v4.2.2.2.2),[])
 else
 bif decide (v4.2.2.2.1 ≤ 0) then
 ob (aG 5 v3 0) fun x526 =>
 some (xW.1,(5,xB,x526,v4.2.2.2),[])
 else
 ob (aG 4 v3 0) fun x527 =>
 some (xW.1,(2,xB,x527,(IntKind.i64.wrap (v4.2.2.2.1 - 1)),v4.2.2.2.2),[])
 else
 bif v4.1 == 3 then
 ob (eP v5 v3 v0.1) fun x626 =>
 we k v0 xD v4.2.2.1 fun xZ =>
 ob (aL xZ.2) fun x628 =>
 bif !x628 then
 some (xZ.1,(v4.1,xB,xZ.2,v4.2.2.2),[])
 else
 bif xZ.2.2.2.2.2.2.2 == 1 then
 some (xZ.1,(4,xB,xZ.2,v4.2.2.2),[])
 else
 bif v4.1 == 2 then
 bif decide (0 ≤ x626) then
 ob (aG 2 x626 0) fun x629 =>
 some (xZ.1,(3,xB,x629,v4.2.2.2),[])
 else
 bif decide (v4.2.2.2.1 ≤ 0) then
 ob (aG 5 v3 0) fun x630 =>
 some (xZ.1,(5,xB,x630,v4.2.2.2),[])
 else
 ob (aG 4 v3 0) fun x631 =>
 some (xZ.1,(2,xB,x631,(IntKind.i64.wrap (v4.2.2.2.1 - 1)),v4.2.2.2.2),[])
 else
 bif decide (v4.2.2.2.1 ≤ 0) then
 ob (aG 5 v3 0) fun x632 =>
 some (xZ.1,(5,xB,x632,v4.2.2.2),[])
 else
 ob (aG 4 v3 0) fun x633 =>
 some (xZ.1,(2,xB,x633,(IntKind.i64.wrap (v4.2.2.2.1 - 1)),v4.2.2.2.2),[])
 else
 bif v4.1 == 4 then
 ob (cS xD 1 18446744073709551615) fun x732 =>
 bif x732.2 == 1 then
 ob (aG 6 v3 0) fun x733 =>
 ob (cU (k + 36) v1 xB (IntKind.i64.wrap v4.2.2.1.2.2.2.1)) fun x734 =>
 bif room 1 24 then
 some (x732.1,(14,x734,x733,v4.2.2.2),([(2,IntKind.i64.wrap v4.2.2.1.2.2.2.1,v3)]))
 else
 none
 else
 ob (cU (k + 36) v1 xB (IntKind.i64.wrap v4.2.2.1.2.2.2.1)) fun x735 =>
 bif room 1 24 then
 some (x732.1,(9,x735,(0,0,0,0,0,0,0),v4.2.2.2),([(2,IntKind.i64.wrap v4.2.2.1.2.2.2.1,v3)]))
 else
 none
 else
 bif v4.1 == 5 then
 we k v0 xD v4.2.2.1 fun x736 =>
 ob (aL x736.2) fun x737 =>
 some (x736.1,(6,xB,x736.2,v4.2.2.2),[])
 else
 bif v4.1 == 6 then
 ob (cS xD 1 18446744073709551615) fun x766 =>
 some (x766.1,(7,xB,v4.2.2.1,v4.2.2.2.1,0),[])
 else
 bif v4.1 == 7 then
 bif decide (v4.2.2.2.2 < 0) then
 some (xD,(8,xB,(v4.2.2.1.1,v4.2.2.1.2.1,v4.2.2.1.2.2.1,0,v4.2.2.1.2.2.2.2),v4.2.2.2.1,0),[])
 else
 bif decide (IntKind.i64.wrap (2 + IntKind.i64.wrap (2 * v0.1)) ≤ v4.2.2.2.2) then
 some (xD,(8,xB,(v4.2.2.1.1,v4.2.2.1.2.1,v4.2.2.1.2.2.1,0,v4.2.2.1.2.2.2.2),v4.2.2.2.1,0),[])
 else
 bif v4.2.2.2.2 == 0 then
 ob (aH xD 4) fun x767 =>
 bif IntKind.i64.wrap (v4.2.2.2.2 + 1) == IntKind.i64.wrap (2 + IntKind.i64.wrap (2 * v0.1)) then
 some (xD,(8,xB,(v4.2.2.1.1,v4.2.2.1.2.1,v4.2.2.1.2.2.1,0,v4.2.2.1.2.2.2.2),v4.2.2.2.1,0),[])
 else
 some (xD,(v4.1,xB,(v4.2.2.1.1,v4.2.2.1.2.1,v4.2.2.1.2.2.1,x767,v4.2.2.1.2.2.2.2),v4.2.2.2.1,(IntKind.i64.wrap (v4.2.2.2.2 + 1))),[])
 else
 bif v4.2.2.2.2 == 1 then
 ob (aH xD 5) fun x768 =>
 bif x768 != v4.2.2.1.2.2.2.1 then
 some (xD,(1,xB,(0,0,0,0,0,0,0),v4.2.2.2),[])
 else
 bif IntKind.i64.wrap (v4.2.2.2.2 + 1) == IntKind.i64.wrap (2 + IntKind.i64.wrap (2 * v0.1)) then
 some (xD,(8,xB,(v4.2.2.1.1,v4.2.2.1.2.1,v4.2.2.1.2.2.1,0,v4.2.2.1.2.2.2.2),v4.2.2.2.1,0),[])
 else
 some (xD,(v4.1,xB,v4.2.2.1,v4.2.2.2.1,(IntKind.i64.wrap (v4.2.2.2.2 + 1))),[])
 else
 bif v4.2.2.2.2.tmod 2 == 0 then
 ob (gr v0 (IntKind.i64.wrap ((IntKind.i64.wrap (v4.2.2.2.2 - 2)).tdiv 2))) fun x769 =>
 ob (aH xD x769) fun x770 =>
 bif IntKind.i64.wrap (v4.2.2.2.2 + 1) == IntKind.i64.wrap (2 + IntKind.i64.wrap (2 * v0.1)) then
 some (xD,(8,xB,(v4.2.2.1.1,v4.2.2.1.2.1,v4.2.2.1.2.2.1,0,v4.2.2.1.2.2.2.2),v4.2.2.2.1,0),[])
 else
 some (xD,(v4.1,xB,(v4.2.2.1.1,v4.2.2.1.2.1,v4.2.2.1.2.2.1,x770,v4.2.2.1.2.2.2.2),v4.2.2.2.1,(IntKind.i64.wrap (v4.2.2.2.2 + 1))),[])
 else
 ob (cV v0 (IntKind.i64.wrap ((IntKind.i64.wrap (v4.2.2.2.2 - 2)).tdiv 2))) fun x771 =>
 ob (aH xD x771) fun x772 =>
 ob (eJ x772 v4.2.2.1.2.2.2.1) fun x773 =>
 bif decide (0 < x773) then
 some (xD,(1,xB,(0,0,0,0,0,0,0),v4.2.2.2),[])
 else
 bif IntKind.i64.wrap (v4.2.2.2.2 + 1) == IntKind.i64.wrap (2 + IntKind.i64.wrap (2 * v0.1)) then
 some (xD,(8,xB,(v4.2.2.1.1,v4.2.2.1.2.1,v4.2.2.1.2.2.1,0,v4.2.2.1.2.2.2.2),v4.2.2.2.1,0),[])
 else
 some (xD,(v4.1,xB,v4.2.2.1,v4.2.2.2.1,(IntKind.i64.wrap (v4.2.2.2.2 + 1))),[])
 else
 bif v4.1 == 8 then
 we k v0 xD v4.2.2.1 fun x774 =>
 ob (aL x774.2) fun x775 =>
 bif x775 then
 some (x774.1,(1,xB,(0,0,0,0,0,0,0),v4.2.2.2),[])
 else
 some (x774.1,(v4.1,xB,x774.2,v4.2.2.2),[])
 else
 bif v4.1 == 9 then
 ob (dH (k + 37) v1 xB) fun x804 =>
 bif x804.1 == 1 then
 ob (fy (k + 36) v1 xB) fun x805 =>
 some (xD,(v4.1,x805,v4.2.2),[])
 else
 bif x804.1 == 2 then
 some (xD,(10,xB,v4.2.2),[])
 else
 bif x804.1 == 3 then
 some (xD,(15,xB,v4.2.2),[])
 else
 ob (aG 1 v3 0) fun x806 =>
 some (xD,(0,xB,x806,v4.2.2.2),[])
 else
 bif v4.1 == 10 then
 ob (dH (k + 37) v1 xB) fun x807 =>
 bif x807.1 != 2 then
 some (xD,(9,xB,(0,0,0,0,0,0,0),v4.2.2.2),[])
 else
 ob (cS xD 0 1) fun x808 =>
 bif room 1 24 then
 ob (fy (k + 36) v1 xB) fun x809 =>
 ob (aG 0 v3 (IntKind.u64.wrap x807.2)) fun x810 =>
 some (x808.1,(11,x809,x810,v4.2.2.2),([(3,x807.2,v3)]))
 else
 none
 else
 bif v4.1 == 11 then
 we k v0 xD v4.2.2.1 fun xm =>
 ob (aL xm.2) fun x812 =>
 bif !x812 then
 some (xm.1,(v4.1,xB,xm.2,v4.2.2.2),[])
 else
 bif xm.2.2.2.2.2.2.2 == 2 then
 ob (aG 3 v3 xm.2.2.2.2.1) fun x813 =>
 some (xm.1,(12,xB,x813,v4.2.2.2),[])
 else
 some (xm.1,(13,xB,(0,0,0,0,0,0,0),v4.2.2.2),[])
 else
 bif v4.1 == 12 then
 we k v0 xD v4.2.2.1 fun xg =>
 ob (aL xg.2) fun x857 =>
 bif !x857 then
 some (xg.1,(v4.1,xB,xg.2,v4.2.2.2),[])
 else
 bif xg.2.2.2.2.2.2.2 == 2 then
 ob (cU (k + 36) v1 xB (IntKind.i64.wrap xg.2.2.2.2.1)) fun x858 =>
 bif room 1 24 then
 some (xg.1,(9,x858,(0,0,0,0,0,0,0),v4.2.2.2),([(2,IntKind.i64.wrap xg.2.2.2.2.1,v3)]))
 else
 none
 else
 some (xg.1,(13,xB,(0,0,0,0,0,0,0),v4.2.2.2),[])
 else
 bif v4.1 == 13 then
 ob (aH xD 1) fun x901 =>
 bif x901 == 0 then
 ob (aG 6 v3 0) fun x902 =>
 some (xD,(14,xB,x902,v4.2.2.2),[])
 else
 some (xD,(9,xB,(0,0,0,0,0,0,0),v4.2.2.2),[])
 else
 bif v4.1 == 14 then
 we k v0 xD v4.2.2.1 fun x903 =>
 ob (aL x903.2) fun x904 =>
 bif x904 then
 some (x903.1,(9,xB,(0,0,0,0,0,0,0),v4.2.2.2),[])
 else
 some (x903.1,(v4.1,xB,x903.2,v4.2.2.2),[])
 else
 bif v4.1 == 15 then
 ob (dH (k + 37) v1 xB) fun xw =>
 bif xw.1 != 3 then
 some (xD,(9,xB,(0,0,0,0,0,0,0),v4.2.2.2),[])
 else
 ob (cS xD 0 18446744073709551615) fun xx =>
 bif room 1 24 then
 bif xx.2 == 1 then
 bif room 2 24 then
 ob (fy (k + 36) v1 xB) fun x935 =>
 bif (↑x935.length : Int) == 0 then
 ob (aG 1 v3 0) fun x936 =>
 some (xx.1,(0,x935,x936,v4.2.2.2),([(4,xw.2,v3),(5,0,v3)]))
 else
 some (xx.1,(9,x935,(0,0,0,0,0,0,0),v4.2.2.2),([(4,xw.2,v3),(5,0,v3)]))
 else
 none
 else
 ob (fy (k + 36) v1 xB) fun x937 =>
 bif (↑x937.length : Int) == 0 then
 ob (aG 1 v3 0) fun x938 =>
 some (xx.1,(0,x937,x938,v4.2.2.2),([(4,xw.2,v3)]))
 else
 some (xx.1,(9,x937,(0,0,0,0,0,0,0),v4.2.2.2),([(4,xw.2,v3)]))
 else
 none
 else
 none
theorem F4 (k : Nat) (v0_0 v0_1 v0_2 v0_3 : Int) (v1 : List (Int × List Int)) (v2 : List Int) (v3 v4_0 : Int) (v4_1 : List (Int × Int × Int)) (v4_2_0 v4_2_1 v4_2_2 v4_2_3 v4_2_4 v4_2_5 v4_2_6 v4_3 v4_4 v5 : Int) : xC (k + 60) none 83 [.agg [.lit (.int .i64 v0_0),.lit (.int .i64 v0_1),.lit (.int .i64 v0_2),.lit (.int .i64 v0_3)],.ro (List.map ap v1),.ro (List.map (aQ .u64) v2),.lit (.int .i64 v3),.agg [.lit (.int .i64 v4_0),.ro (List.map a8 v4_1),.lit (.int .i64 v4_2_0),.lit (.int .i64 v4_2_1),.lit (.int .i64 v4_2_2),.lit (.int .u64 v4_2_3),.lit (.int .u64 v4_2_4),.lit (.int .u64 v4_2_5),.lit (.int .i64 v4_2_6),.lit (.int .i64 v4_3),.lit (.int .i64 v4_4)],.lit (.int .u64 v5)] = ob (iG k (v0_0,v0_1,v0_2,v0_3) v1 v2 v3 (v4_0,v4_1,(v4_2_0,v4_2_1,v4_2_2,v4_2_3,v4_2_4,v4_2_5,v4_2_6),v4_3,v4_4) v5) fun r => some ((.tup [.ro (List.map (aQ .u64) r.1),.agg [.lit (.int .i64 r.2.1.1),.ro (List.map a8 r.2.1.2.1),.lit (.int .i64 r.2.1.2.2.1.1),.lit (.int .i64 r.2.1.2.2.1.2.1),.lit (.int .i64 r.2.1.2.2.1.2.2.1),.lit (.int .u64 r.2.1.2.2.1.2.2.2.1),.lit (.int .u64 r.2.1.2.2.1.2.2.2.2.1),.lit (.int .u64 r.2.1.2.2.1.2.2.2.2.2.1),.lit (.int .i64 r.2.1.2.2.1.2.2.2.2.2.2),.lit (.int .i64 r.2.1.2.2.2.1),.lit (.int .i64 r.2.1.2.2.2.2)],.ro (List.map a8 r.2.2)]),[]) := by
  rw [aO]
  unfold iG we
  simp (maxSteps := 2000000) -implicitDefEqProofs only [afP,afh,adC,aas,aeu,ZW,adF,Z1,NA,uA,ad8,aaR,Kg,uy,abY,Zk,adL,XF,ace,Xw,Nj,Km,uC,wd,adT,Ym,adu,Y5,aeW,WW,aek,Xd,ae6,W4,ad7,XM,abS,WU,acR,aaq,L5,u9,abI,aaG,Nu,LJ,uS,u8,aeG,Zv,adM,ZP,acC,XY,ach,Xp,adO,Zn,↓syP,syA,syD,simprocAttr,syE,aj,ag,af,syW,xQ,cI,A0,lT,fC,mt,gE,lD,B7,rq,oT,Df,rF,JE,BN,A3]
  all_goals simp -implicitDefEqProofs only [List.map_nil]
end Go.Ab
