import Derived.Test.YtblpbpnilkfjhaaGreatR6Run
import Derived.Test.YtblpbpnilkfjhaaGreatR6Facts
import Derived.Test.YtblpbpnilkfjhaaGreatR6Man
import Derived.Test.YtblpbpnilkfjhaaGreatR6BY
import Derived.Test.YtblpbpnilkfjhaaGreatR6BX
import Derived.Test.YtblpbpnilkfjhaaGreatR6BZ
set_option linter.unusedVariables false
set_option linter.unusedSimpArgs false
set_option maxRecDepth 100000
set_option linter.unusedVariables false
set_option linter.unusedSimpArgs false
namespace Go.Ab
open Go.Proofs
def br (k:Nat) (v0:Tyt)  : Nat→Int→Option Bool
 | 0,_=>none
 | n+1,s3=>
 bif decide (s3<(↑v0.length:Int)) then
 bif decide (s3≤(40:Int)) then
 ob (idx v0 s3) fun x6=>
 bif decide ((40:Int)<(↑x6.2.length:Int)) then
 some (false)
 else
 br k v0  n (IntKind.i64.wrap (s3+(1:Int)))
 else
 some (decide ((↑v0.length:Int)≤(40:Int)))
 else
 some (decide ((↑v0.length:Int)≤(40:Int)))
theorem ir (k:Nat) (v0:Tyt):∀ (n:Nat) (s3:Int),rt none (itX (xX (xS k) 21 0 k false) ot (0) (ap (xX (xS k) 21 0 k false) (am (xS k).P Tryz.f21) Eb) n ⟨[.ro (List.map an v0),uu,.lit (.bool false),.lit (.int .i64 s3),.junk,.junk,.junk,.junk,.junk,.junk,.junk,.junk,.junk,.junk,.junk,.junk,.junk,.junk,.junk,.junk,.junk,uu,uu,uu],[]⟩)=ob (br k v0  n s3) fun r=>some ((.lit (.bool r)),[]):=by
 intro n
 induction n with
 | zero=>intros;rfl
 | succ n ih=>
  intro s3
  rw [br]
  simp -implicitDefEqProofs only [ado,aai,abB,Hw,JS,nQ,nt,↓syP,syA,syD,simprocAttr,syE,ag,af,ae,syW,xQ,Oi,ih]
def cT (k:Nat) (v0:Tyt):Option Bool:=
 br k v0 k 0
theorem gQ (k:Nat) (v0:Tyt):xC (k+1) none 21 [.ro (List.map an v0)]=ob (cT k v0) fun r=>some ((.lit (.bool r)),[]):=by
 rw [aH]
 unfold cT
 simp -implicitDefEqProofs only [ado,aai,abB,Hw,JS,nQ,nt,↓syP,syA,syD,simprocAttr,syE,ag,af,ae,syW,xQ,ir k v0]
def eu (v0:(Int×List Int)):Option Bool:=
 bif decide (v0.1<0) then
 some true
 else
 some (decide (20<v0.1))
theorem rO (k:Nat) (v0_0:Int) (v0_1:List Int):xC (k+1) none 99 [.agg [.lit (.int .i64 v0_0),.ro (List.map (aF .i64) v0_1)]]=ob (eu (v0_0,v0_1)) fun r=>some ((.lit (.bool r)),[]):=by
 rw [aH]
 unfold eu
 simp -implicitDefEqProofs only [YL,Yq,Au,iw,↓syP,syA,syD,simprocAttr,syE,ag,af,ae,syW,xQ]
def aC (k:Nat) (v0:Tyt)  : Nat→Int→Option Int
 | 0,_=>none
 | n+1,sT=>
 bif decide (sT<(↑v0.length:Int)) then
 ob (idx v0 sT) fun xz=>
 ob (eu (xz.1,xz.2)) fun x18=>
 bif x18 then
 some (sT)
 else
 aC k v0  n (IntKind.i64.wrap (sT+(1:Int)))
 else
 some ((-1:Int))
theorem de (k:Nat) (v0:Tyt):∀ (n:Nat) (sT:Int) ⦃j11:V⦄,rt none (itX (xX (xS (k+8)) 147 0 (k+8) false) wv (0) (ap (xX (xS (k+8)) 147 0 (k+8) false) (am (xS (k+8)).P Tryz.f147) wq) n ⟨[.ro (List.map an v0),.fn (Fn.func (99:FuncId)) [] [],uu,uu,.lit (.int .i64 (0:Int)),j11,.ro (List.map an v0),.lit (.int .i64 (↑v0.length:Int)),.lit (.int .i64 sT),.junk,.junk,.junk,.junk,.junk,.junk,.junk,.junk,.junk,.junk],[]⟩)=ob (aC k v0  n sT) fun r=>some ((.lit (.int .i64 r)),[]):=by
 intro n
 induction n with
 | zero=>intros;rfl
 | succ n ih=>
  intro sT j11
  rw [aC]
  simp -implicitDefEqProofs only [FX,Do,CX,mn,eG,↓syP,syA,syD,simprocAttr,syE,ag,af,ae,syW,xQ,rO,Hf,ih]
def aY (k:Nat) (v0:Tyt):Option Int:=
 aC k v0 (k+8) 0
theorem dP (k:Nat) (v0:Tyt):xC (k+9) none 147 [.ro (List.map an v0),.fn (Fn.func (99:FuncId)) [] []]=ob (aY k v0) fun r=>some ((.lit (.int .i64 r)),[]):=by
 rw [aH]
 unfold aY
 simp -implicitDefEqProofs only [FX,Do,CX,mn,eG,↓syP,syA,syD,simprocAttr,syE,ag,af,ae,syW,xQ,de k v0]
def aJ (k:Nat) (v0:Tyt):Option Bool:=
 ob (aY (k+8) v0) fun x20=>
 some (decide (0≤x20))
theorem bh (k:Nat) (v0:Tyt):xC (k+18) none 98 [.ro (List.map an v0),.fn (Fn.func (99:FuncId)) [] []]=ob (aJ k v0) fun r=>some ((.lit (.bool r)),[]):=by
 rw [aH]
 unfold aJ
 simp -implicitDefEqProofs only [YC,Ut,FX,Do,CX,mn,eG,↓syP,syA,syD,simprocAttr,syE,ag,af,ae,syW,xQ,dP]
def cI (k:Nat) (v0:Tyt) (o0:Int→List Bool→Option Bool):Nat→List Int→Int→Int→List Bool→Int→Option Bool
 | 0,_,_,_,_,_=>none
 | n+1,sO,sY,sW,sU,sP=>
 bif decide (sW<sY) then
 ob (idx sO sW) fun xP=>
 bif decide (xP≤sP) then
 some (false)
 else
 bif decide ((↑v0.length:Int)≤xP) then
 some (false)
 else
 bif decide ((0:Int)≤xP∧xP.toNat<v0.length) then
 ob (sU[xP.toNat]?) fun xN=>
 bif xN then
 some (false)
 else
 bif decide ((0:Int)≤xP∧xP.toNat<v0.length) then
 ob (sU[xP.toNat]?) fun x64=>
 cI k v0 o0 n (sO) (sY) (IntKind.i64.wrap (sW+(1:Int))) (sU.set xP.toNat true) (sP)
 else
 none
 else
 none
 else
 o0 (IntKind.i64.wrap (sP+(1:Int))) (sU)
theorem mH (k:Nat) (v0:Tyt) (n23:Nat) (o0:Int→List Bool→Option Bool) (ho0:∀ (sF:Int) (sI:List Bool) ⦃sM:Bool⦄ ⦃j40 j41 j50:V⦄,rt none (bq (itX (xX (xS (k+17)) 148 0 (k+17) false) gH (7) (ap (xX (xS (k+17)) 148 0 (k+17) false) (am (xS (k+17)).P Tryz.f148) i6) n23 ⟨[.yld 6,.ptr 5 0 0 0,uu,j40,j41,uu,j50,.ro (List.map an v0),.lit (.int .i64 (↑v0.length:Int)),.lit (.int .i64 sF),.junk,.junk,.junk,.junk,.junk,.junk,.junk,.junk,.junk,.junk,.junk,.junk,.junk,.junk,.junk,.junk,.junk,.junk],[.box [.ro (List.map an v0)],.box [.lit (.bool false)],.rows 1 (List.map kF sI) 0 true,.rows 0 [] 0 true,.box [.own 2 0 v0.length],.box [.ro (List.map an v0)],(.loop ⟨LoopState.ready,none,56,[.ro (List.map an v0),.ptr 0 0 0 0,.ptr 1 0 0 0,.ptr 4 0 0 0,uu,uu,.ro (List.map an v0),.lit (.int .i64 (↑v0.length:Int)),.lit (.bool (decide ((30:Int)<(↑v0.length:Int)))),.lit (.bool false),.ro (List.map an v0),.lit (.bool sM),.lit (.bool sM),.ro (List.map an v0),.lit (.int .i64 (↑v0.length:Int)),.own 2 0 v0.length,.ro (List.map an v0),.fn (Fn.func (148:FuncId)) [] [.ptr 5 0 0 0],uu,uu,uu,uu,uu,uu,uu,uu,uu,uu,uu,uu,uu,uu,uu,uu,uu,uu,uu,uu],[(18:Tmp),(19:Tmp)],Al,Bt⟩)]⟩) (rfK (ap (xX (xS (k+18)) 56 0 (k+18) false) (am (xS (k+18)).P Tryz.f56) rU) [.ro (List.map an v0),.ptr 0 0 0 0,.ptr 1 0 0 0,.ptr 4 0 0 0,uu,uu,.ro (List.map an v0),.lit (.int .i64 (↑v0.length:Int)),.lit (.bool (decide ((30:Int)<(↑v0.length:Int)))),.lit (.bool false),.ro (List.map an v0),.lit (.bool sM),.lit (.bool sM),.ro (List.map an v0),.lit (.int .i64 (↑v0.length:Int)),.own 2 0 v0.length,.ro (List.map an v0),.fn (Fn.func (148:FuncId)) [] [.ptr 5 0 0 0],uu,uu,uu,uu,uu,uu,uu,uu,uu,uu,uu,uu,uu,uu,uu,uu,uu,uu,uu,uu] (6)))=ob (o0 sF sI) fun r=>some ((.lit (.bool r)),[])):∀ (n:Nat) (sO:List Int) (sY sW:Int) (sU:List Bool) (sP:Int) ⦃sd:Int⦄ ⦃sb sf:Bool⦄ ⦃j37:V⦄,rt none (bq (itX (xX (xS (k+17)) 148 0 (k+17) false) rz (9) (ap (xX (xS (k+17)) 148 0 (k+17) false) (eJ (xX (xS (k+17)) 148 0 (k+17) false) gH 7 (ap (xX (xS (k+17)) 148 0 (k+17) false) (am (xS (k+17)).P Tryz.f148) i6) n23) pB) n ⟨[.yld 6,.ptr 5 0 0 0,uu,.lit (.int .i64 sP),.ptr 8 0 0 0,uu,j37,.ro (List.map an v0),.lit (.int .i64 (↑v0.length:Int)),.lit (.int .i64 sP),.lit (.bool sf),.lit (.int .i64 sP),.rp [.lit (.int .i64 sd),.ro (List.map (aF IntKind.i64) sO)],.agg [.lit (.int .i64 sd),.ro (List.map (aF IntKind.i64) sO)],.ptr 8 0 0 1,.ro (List.map (aF IntKind.i64) sO),.lit (.int .i64 sY),.lit (.int .i64 sW),.junk,.junk,.junk,.junk,.junk,.junk,.junk,.junk,.junk,.junk],[.box [.ro (List.map an v0)],.box [.lit (.bool false)],.rows 1 (List.map kF sU) 0 true,.rows 0 [] 0 true,.box [.own 2 0 v0.length],.box [.ro (List.map an v0)],(.loop ⟨LoopState.ready,none,56,[.ro (List.map an v0),.ptr 0 0 0 0,.ptr 1 0 0 0,.ptr 4 0 0 0,uu,uu,.ro (List.map an v0),.lit (.int .i64 (↑v0.length:Int)),.lit (.bool (decide ((30:Int)<(↑v0.length:Int)))),.lit (.bool false),.ro (List.map an v0),.lit (.bool sb),.lit (.bool sb),.ro (List.map an v0),.lit (.int .i64 (↑v0.length:Int)),.own 2 0 v0.length,.ro (List.map an v0),.fn (Fn.func (148:FuncId)) [] [.ptr 5 0 0 0],uu,uu,uu,uu,uu,uu,uu,uu,uu,uu,uu,uu,uu,uu,uu,uu,uu,uu,uu,uu],[(18:Tmp),(19:Tmp)],Al,Bt⟩),.rows 0 [] 0 true,.box [.lit (.int .i64 sd),.ro (List.map (aF IntKind.i64) sO)]]⟩) (rfK (ap (xX (xS (k+18)) 56 0 (k+18) false) (am (xS (k+18)).P Tryz.f56) rU) [.ro (List.map an v0),.ptr 0 0 0 0,.ptr 1 0 0 0,.ptr 4 0 0 0,uu,uu,.ro (List.map an v0),.lit (.int .i64 (↑v0.length:Int)),.lit (.bool (decide ((30:Int)<(↑v0.length:Int)))),.lit (.bool false),.ro (List.map an v0),.lit (.bool sb),.lit (.bool sb),.ro (List.map an v0),.lit (.int .i64 (↑v0.length:Int)),.own 2 0 v0.length,.ro (List.map an v0),.fn (Fn.func (148:FuncId)) [] [.ptr 5 0 0 0],uu,uu,uu,uu,uu,uu,uu,uu,uu,uu,uu,uu,uu,uu,uu,uu,uu,uu,uu,uu] (6)))=ob (cI k v0 o0 n sO sY sW sU sP) fun r=>some ((.lit (.bool r)),[]):=by
 intro n
 induction n with
 | zero=>intros;rfl
 | succ n ih=>
  intro sO sY sW sU sP sd sb sf j37
  rw [cI]
  simp -implicitDefEqProofs only [ab3,YK,YB,D9,Ew,dI,dG,Fx,Fu,k7,ln,lb,ry,YC,Ut,YL,Yq,Au,iw,FH,C2,aH (g:=100),FX,Do,CX,mn,eG,FZ,CW,DL,lY,lE,eH,eD,↓syP,syA,syD,simprocAttr,syE,ag,af,ae,syW,xQ,bh,Cg,ih,ho0]
def bP (k:Nat) (v0:Tyt)  : Nat→Int→List Bool→Option Bool
 | 0,_,_=>none
 | n+1,sF,sI=>
 bif decide (sF<(↑v0.length:Int)) then
 ob (idx v0 sF) fun x58=>
 cI k v0 (fun sF sI=>bP k v0  n sF sI) (k+17) (x58.2) ((↑x58.2.length:Int)) ((0:Int)) (sI) (sF)
 else
 some (true)
theorem mW (k:Nat) (v0:Tyt):∀ (n:Nat) (sF:Int) (sI:List Bool) ⦃sM:Bool⦄ ⦃j40 j41 j50:V⦄,rt none (bq (itX (xX (xS (k+17)) 148 0 (k+17) false) gH (7) (ap (xX (xS (k+17)) 148 0 (k+17) false) (am (xS (k+17)).P Tryz.f148) i6) n ⟨[.yld 6,.ptr 5 0 0 0,uu,j40,j41,uu,j50,.ro (List.map an v0),.lit (.int .i64 (↑v0.length:Int)),.lit (.int .i64 sF),.junk,.junk,.junk,.junk,.junk,.junk,.junk,.junk,.junk,.junk,.junk,.junk,.junk,.junk,.junk,.junk,.junk,.junk],[.box [.ro (List.map an v0)],.box [.lit (.bool false)],.rows 1 (List.map kF sI) 0 true,.rows 0 [] 0 true,.box [.own 2 0 v0.length],.box [.ro (List.map an v0)],(.loop ⟨LoopState.ready,none,56,[.ro (List.map an v0),.ptr 0 0 0 0,.ptr 1 0 0 0,.ptr 4 0 0 0,uu,uu,.ro (List.map an v0),.lit (.int .i64 (↑v0.length:Int)),.lit (.bool (decide ((30:Int)<(↑v0.length:Int)))),.lit (.bool false),.ro (List.map an v0),.lit (.bool sM),.lit (.bool sM),.ro (List.map an v0),.lit (.int .i64 (↑v0.length:Int)),.own 2 0 v0.length,.ro (List.map an v0),.fn (Fn.func (148:FuncId)) [] [.ptr 5 0 0 0],uu,uu,uu,uu,uu,uu,uu,uu,uu,uu,uu,uu,uu,uu,uu,uu,uu,uu,uu,uu],[(18:Tmp),(19:Tmp)],Al,Bt⟩)]⟩) (rfK (ap (xX (xS (k+18)) 56 0 (k+18) false) (am (xS (k+18)).P Tryz.f56) rU) [.ro (List.map an v0),.ptr 0 0 0 0,.ptr 1 0 0 0,.ptr 4 0 0 0,uu,uu,.ro (List.map an v0),.lit (.int .i64 (↑v0.length:Int)),.lit (.bool (decide ((30:Int)<(↑v0.length:Int)))),.lit (.bool false),.ro (List.map an v0),.lit (.bool sM),.lit (.bool sM),.ro (List.map an v0),.lit (.int .i64 (↑v0.length:Int)),.own 2 0 v0.length,.ro (List.map an v0),.fn (Fn.func (148:FuncId)) [] [.ptr 5 0 0 0],uu,uu,uu,uu,uu,uu,uu,uu,uu,uu,uu,uu,uu,uu,uu,uu,uu,uu,uu,uu] (6)))=ob (bP k v0  n sF sI) fun r=>some ((.lit (.bool r)),[]):=by
 intro n
 induction n with
 | zero=>intros;rfl
 | succ n ih=>
  intro sF sI sM j40 j41 j50
  rw [bP]
  simp -implicitDefEqProofs only [ab3,YK,YB,D9,Ew,dI,dG,Fx,Fu,k7,ln,lb,ry,YC,Ut,YL,Yq,Au,iw,FH,C2,aH (g:=100),FX,Do,CX,mn,eG,FZ,CW,DL,lY,lE,eH,eD,↓syP,syA,syD,simprocAttr,syE,ag,af,ae,syW,xQ,bh,DI,ih,mH k v0 _ (fun sF sI=>bP k v0  n sF sI) ih]
def cF (k:Nat) (v0:Tyt):Option Bool:=
 bif decide (30<(↑v0.length:Int)) then
 some false
 else
 ob (aJ k v0) fun xc=>
 bif xc then
 some false
 else
 bif decide (0≤(↑v0.length:Int)∧(↑v0.length:Int)≤9223372036854775807∧(↑v0.length:Int)*1≤70368744177664) then
 bP k v0 (k+17) 0 (List.replicate v0.length false)
 else
 none
theorem cD (k:Nat) (v0:Tyt):xC (k+19) none 56 [.ro (List.map an v0)]=ob (cF k v0) fun r=>some ((.lit (.bool r)),[]):=by
 rw [aH]
 unfold cF
 simp -implicitDefEqProofs only [ab3,YK,YB,D9,Ew,dI,dG,Fx,Fu,k7,ln,lb,ry,YC,Ut,YL,Yq,Au,iw,FH,C2,aH (g:=100),FX,Do,CX,mn,eG,FZ,CW,DL,lY,lE,eH,eD,↓syP,syA,syD,simprocAttr,syE,ag,af,ae,syW,xQ,bh,mW k v0]
def bT (k:Nat) (v0:Tyt) (v1:Int) (o0:Int→Option Int):Nat→List Int→Int→Int→Int→Option Int
 | 0,_,_,_,_=>none
 | n+1,sG,sE,sC,sH=>
 bif decide (sC<sE) then
 ob (idx sG sC) fun x137=>
 bif x137==v1 then
 some (sH)
 else
 bT k v0 v1 o0 n (sG) (sE) (IntKind.i64.wrap (sC+(1:Int))) (sH)
 else
 o0 (IntKind.i64.wrap (sH+(1:Int)))
theorem kS (k:Nat) (v0:Tyt) (v1:Int) (n108:Nat) (o0:Int→Option Int) (ho0:∀ (sD:Int) ⦃sR:Bool⦄ ⦃j122 j123 j130:V⦄,rt none (bq (itX (xX (xS (k+18)) 148 0 (k+18) false) gH (4) (ap (xX (xS (k+18)) 148 0 (k+18) false) (am (xS (k+18)).P Tryz.f148) i6) n108 ⟨[.yld 3,.ptr 2 0 0 0,uu,j122,j123,uu,j130,.ro (List.map an v0),.lit (.int .i64 (↑v0.length:Int)),.lit (.int .i64 sD),.junk,.junk,.junk,.junk,.junk,.junk,.junk,.junk,.junk,.junk,.junk,.junk,.junk,.junk,.junk,.junk,.junk,.junk],[.box [.lit (.int .i64 v1)],.box [.lit (.int .i64 (0:Int))],.box [.ro (List.map an v0)],(.loop ⟨LoopState.ready,none,101,[.ro (List.map an v0),.lit (.int .i64 v1),uu,.ptr 0 0 0 0,.ptr 1 0 0 0,uu,uu,.ro (List.map an v0),.lit (.bool sR),.ro (List.map an v0),.fn (Fn.func (148:FuncId)) [] [.ptr 2 0 0 0],uu,uu,uu,uu,uu,uu],[(11:Tmp),(12:Tmp)],re,o4⟩)]⟩) (rfK (ap (xX (xS (k+19)) 101 0 (k+19) false) (am (xS (k+19)).P Tryz.f101) nC) [.ro (List.map an v0),.lit (.int .i64 v1),uu,.ptr 0 0 0 0,.ptr 1 0 0 0,uu,uu,.ro (List.map an v0),.lit (.bool sR),.ro (List.map an v0),.fn (Fn.func (148:FuncId)) [] [.ptr 2 0 0 0],uu,uu,uu,uu,uu,uu] (3)))=ob (o0 sD) fun r=>some ((.lit (.int .i64 r)),[])):∀ (n:Nat) (sG:List Int) (sE sC sH:Int) ⦃sa:Int⦄ ⦃sc se:Bool⦄ ⦃j120:V⦄,rt none (bq (itX (xX (xS (k+18)) 148 0 (k+18) false) rz (6) (ap (xX (xS (k+18)) 148 0 (k+18) false) (eJ (xX (xS (k+18)) 148 0 (k+18) false) gH 4 (ap (xX (xS (k+18)) 148 0 (k+18) false) (am (xS (k+18)).P Tryz.f148) i6) n108) pB) n ⟨[.yld 3,.ptr 2 0 0 0,uu,.lit (.int .i64 sH),.ptr 5 0 0 0,uu,j120,.ro (List.map an v0),.lit (.int .i64 (↑v0.length:Int)),.lit (.int .i64 sH),.lit (.bool se),.lit (.int .i64 sH),.rp [.lit (.int .i64 sa),.ro (List.map (aF IntKind.i64) sG)],.agg [.lit (.int .i64 sa),.ro (List.map (aF IntKind.i64) sG)],.ptr 5 0 0 1,.ro (List.map (aF IntKind.i64) sG),.lit (.int .i64 sE),.lit (.int .i64 sC),.junk,.junk,.junk,.junk,.junk,.junk,.junk,.junk,.junk,.junk],[.box [.lit (.int .i64 v1)],.box [.lit (.int .i64 (0:Int))],.box [.ro (List.map an v0)],(.loop ⟨LoopState.ready,none,101,[.ro (List.map an v0),.lit (.int .i64 v1),uu,.ptr 0 0 0 0,.ptr 1 0 0 0,uu,uu,.ro (List.map an v0),.lit (.bool sc),.ro (List.map an v0),.fn (Fn.func (148:FuncId)) [] [.ptr 2 0 0 0],uu,uu,uu,uu,uu,uu],[(11:Tmp),(12:Tmp)],re,o4⟩),.rows 0 [] 0 true,.box [.lit (.int .i64 sa),.ro (List.map (aF IntKind.i64) sG)]]⟩) (rfK (ap (xX (xS (k+19)) 101 0 (k+19) false) (am (xS (k+19)).P Tryz.f101) nC) [.ro (List.map an v0),.lit (.int .i64 v1),uu,.ptr 0 0 0 0,.ptr 1 0 0 0,uu,uu,.ro (List.map an v0),.lit (.bool sc),.ro (List.map an v0),.fn (Fn.func (148:FuncId)) [] [.ptr 2 0 0 0],uu,uu,uu,uu,uu,uu] (3)))=ob (bT k v0 v1 o0 n sG sE sC sH) fun r=>some ((.lit (.int .i64 r)),[]):=by
 intro n
 induction n with
 | zero=>intros;rfl
 | succ n ih=>
  intro sG sE sC sH sa sc se j120
  rw [bT]
  simp -implicitDefEqProofs only [FH,C2,aH (g:=100),SV,Lj,Kr,wQ,dv,dq,iV,nh,FZ,CW,DL,lY,lE,eH,eD,↓syP,syA,syD,simprocAttr,syE,ag,af,ae,syW,xQ,cD,Cg,ih,ho0]
def bv (k:Nat) (v0:Tyt) (v1:Int)  : Nat→Int→Option Int
 | 0,_=>none
 | n+1,sD=>
 bif decide (sD<(↑v0.length:Int)) then
 ob (idx v0 sD) fun x135=>
 bT k v0 v1 (fun sD=>bv k v0 v1  n sD) (k+18) (x135.2) ((↑x135.2.length:Int)) ((0:Int)) (sD)
 else
 some ((-1:Int))
theorem kQ (k:Nat) (v0:Tyt) (v1:Int):∀ (n:Nat) (sD:Int) ⦃sR:Bool⦄ ⦃j122 j123 j130:V⦄,rt none (bq (itX (xX (xS (k+18)) 148 0 (k+18) false) gH (4) (ap (xX (xS (k+18)) 148 0 (k+18) false) (am (xS (k+18)).P Tryz.f148) i6) n ⟨[.yld 3,.ptr 2 0 0 0,uu,j122,j123,uu,j130,.ro (List.map an v0),.lit (.int .i64 (↑v0.length:Int)),.lit (.int .i64 sD),.junk,.junk,.junk,.junk,.junk,.junk,.junk,.junk,.junk,.junk,.junk,.junk,.junk,.junk,.junk,.junk,.junk,.junk],[.box [.lit (.int .i64 v1)],.box [.lit (.int .i64 (0:Int))],.box [.ro (List.map an v0)],(.loop ⟨LoopState.ready,none,101,[.ro (List.map an v0),.lit (.int .i64 v1),uu,.ptr 0 0 0 0,.ptr 1 0 0 0,uu,uu,.ro (List.map an v0),.lit (.bool sR),.ro (List.map an v0),.fn (Fn.func (148:FuncId)) [] [.ptr 2 0 0 0],uu,uu,uu,uu,uu,uu],[(11:Tmp),(12:Tmp)],re,o4⟩)]⟩) (rfK (ap (xX (xS (k+19)) 101 0 (k+19) false) (am (xS (k+19)).P Tryz.f101) nC) [.ro (List.map an v0),.lit (.int .i64 v1),uu,.ptr 0 0 0 0,.ptr 1 0 0 0,uu,uu,.ro (List.map an v0),.lit (.bool sR),.ro (List.map an v0),.fn (Fn.func (148:FuncId)) [] [.ptr 2 0 0 0],uu,uu,uu,uu,uu,uu] (3)))=ob (bv k v0 v1  n sD) fun r=>some ((.lit (.int .i64 r)),[]):=by
 intro n
 induction n with
 | zero=>intros;rfl
 | succ n ih=>
  intro sD sR j122 j123 j130
  rw [bv]
  simp -implicitDefEqProofs only [FH,C2,aH (g:=100),SV,Lj,Kr,wQ,dv,dq,iV,nh,FZ,CW,DL,lY,lE,eH,eD,↓syP,syA,syD,simprocAttr,syE,ag,af,ae,syW,xQ,cD,DI,ih,kS k v0 v1 _ (fun sD=>bv k v0 v1  n sD) ih]
def dQ (k:Nat) (v0:Tyt) (v1:Int):Option Int:=
 ob (cF k v0) fun x138=>
 bif x138 then
 bv k v0 v1 (k+18) 0
 else
 some ((-1))
theorem pZ (k:Nat) (v0:Tyt) (v1:Int):xC (k+20) none 101 [.ro (List.map an v0),.lit (.int .i64 v1)]=ob (dQ k v0 v1) fun r=>some ((.lit (.int .i64 r)),[]):=by
 rw [aH]
 unfold dQ
 simp -implicitDefEqProofs only [FH,C2,aH (g:=100),SV,Lj,Kr,wQ,dv,dq,iV,nh,FZ,CW,DL,lY,lE,eH,eD,↓syP,syA,syD,simprocAttr,syE,ag,af,ae,syW,xQ,cD,kQ k v0 v1]
end Go.Ab
set_option maxRecDepth 100000
set_option linter.unusedVariables false
set_option linter.unusedSimpArgs false
namespace Go.Ab
open Go.Proofs
def dH (v0:Int) (v1:Int) (v2:Int):Option Bool:=
 bif decide (v1≤v0) then
 some (decide (v0≤v2))
 else
 some false
theorem iX (k:Nat) (v0 v1 v2:Int):xC (k+1) none 93 [.lit (.int .i64 v0),.lit (.int .i64 v1),.lit (.int .i64 v2)]=ob (dH v0 v1 v2) fun r=>some ((.lit (.bool r)),[]):=by
 rw [aH]
 unfold dH
 simp -implicitDefEqProofs only [aet,adl,ON,uH,↓syP,syA,syD,simprocAttr,syE,ag,af,ae,syW,xQ]
def bK (v0:(Int×Int×Int×Int)):Option Bool:=
 ob (dH v0.1 1 8) fun x5=>
 bif x5 then
 ob (dH v0.2.1 1 16) fun x6=>
 bif x6 then
 bif Ah IntKind.i64 v0.2.1 (IntKind.i64.wrap (v0.2.1 - 1))==0 then
 ob (dH v0.2.2.1 1 16) fun x7=>
 bif x7 then
 ob (dH v0.2.2.2 0 4) fun x8=>
 some x8
 else
 some false
 else
 some false
 else
 some false
 else
 some false
theorem bG (k:Nat) (v0_0 v0_1 v0_2 v0_3:Int):xC (k+2) none 50 [.agg [.lit (.int .i64 v0_0),.lit (.int .i64 v0_1),.lit (.int .i64 v0_2),.lit (.int .i64 v0_3)]]=ob (bK (v0_0,v0_1,v0_2,v0_3)) fun r=>some ((.lit (.bool r)),[]):=by
 rw [aH]
 unfold bK
 simp -implicitDefEqProofs only [adQ,adB,OO,OS,O6,Or,uD,↓syP,syA,syD,simprocAttr,syE,ag,af,ae,syW,xQ,iX]
def dZ (v0:(Int×Int×Int×Int)) (v1:Int):Option Int:=
 some (IntKind.i64.wrap (IntKind.i64.wrap (6+IntKind.i64.wrap (2*v0.2.2.1))+IntKind.i64.wrap (v1*IntKind.i64.wrap (3+v0.2.1))))
theorem iF (k:Nat) (v0_0 v0_1 v0_2 v0_3 v1:Int):xC (k+1) none 72 [.agg [.lit (.int .i64 v0_0),.lit (.int .i64 v0_1),.lit (.int .i64 v0_2),.lit (.int .i64 v0_3)],.lit (.int .i64 v1)]=ob (dZ (v0_0,v0_1,v0_2,v0_3) v1) fun r=>some ((.lit (.int .i64 r)),[]):=by
 rw [aH]
 unfold dZ
 simp -implicitDefEqProofs only [adL,adi,↓syP,syA,syD,simprocAttr,syE,ag,af,ae,syW,xQ]
def cO (v0:(Int×Int×Int×Int)):Option Int:=
 ob (bK v0) fun x16=>
 bif !x16 then
 some 0
 else
 ob (dZ v0 v0.1) fun xz=>
 some xz
theorem dY (k:Nat) (v0_0 v0_1 v0_2 v0_3:Int):xC (k+3) none 103 [.agg [.lit (.int .i64 v0_0),.lit (.int .i64 v0_1),.lit (.int .i64 v0_2),.lit (.int .i64 v0_3)]]=ob (cO (v0_0,v0_1,v0_2,v0_3)) fun r=>some ((.lit (.int .i64 r)),[]):=by
 rw [aH]
 unfold cO
 simp -implicitDefEqProofs only [aax,Uc,↓syP,syA,syD,simprocAttr,syE,ag,af,ae,syW,xQ,bG,iF]
def fC (v0:(List Int)) (v1:Int):Option Bool:=
 bif decide (0≤v1) then
 some (decide (v1<(↑v0.length:Int)))
 else
 some false
theorem mK (k:Nat) (v0:List Int) (v1:Int):xC (k+1) none 66 [.ro (List.map (aF .u64) v0),.lit (.int .i64 v1)]=ob (fC v0 v1) fun r=>some ((.lit (.bool r)),[]):=by
 rw [aH]
 unfold fC
 simp -implicitDefEqProofs only [aex,adj,N1,r6,↓syP,syA,syD,simprocAttr,syE,ag,af,ae,syW,xQ]
def aD (v0:(List Int)) (v1:Int):Option Int:=
 ob (fC v0 v1) fun x22=>
 bif !x22 then
 some 0
 else
 ob (idx v0 v1) fun x23=>
 some x23
theorem bO (k:Nat) (v0:List Int) (v1:Int):xC (k+2) none 27 [.ro (List.map (aF .u64) v0),.lit (.int .i64 v1)]=ob (aD v0 v1) fun r=>some ((.lit (.int .u64 r)),[]):=by
 rw [aH]
 unfold aD
 simp -implicitDefEqProofs only [aeh,ac2,↓syP,syA,syD,simprocAttr,syE,ag,af,ae,syW,xQ,mK]
def bH (v0:(List Int)) (v1:Int) (v2:Int):Option (List Int):=
 ob (aQ 8 v0) fun xd=>
 ob (fC v0 v1) fun xu=>
 bif !xu then
 some xd
 else
 ob (idx v0 v1) fun xq=>
 bif decide (0≤v1∧v1.toNat<xd.length) then
 ob (xd[v1.toNat]?) fun x34=>
 ob (idx v0 v1) fun x35=>
 some (xd.set v1.toNat v2)
 else
 none
theorem dN (k:Nat) (v0:List Int) (v1 v2:Int):xC (k+11) none 88 [.ro (List.map (aF .u64) v0),.lit (.int .i64 v1),.lit (.int .u64 v2)]=ob (bH v0 v1 v2) fun r=>some ((.ro (List.map (aF .u64) r)),[]):=by
 rw [aH]
 unfold bH
 simp -implicitDefEqProofs only [adM,ady,QU,K2,ab4,U1,↓syP,syA,syD,simprocAttr,syE,ag,af,ae,syW,xQ,mK]
def d9 (v0:(List Int)) (v1:Int) (v2:Int):Option ((List Int)×Int):=
 ob (aQ 8 v0) fun xr=>
 ob (fC v0 v1) fun xh=>
 bif !xh then
 some (xr,0)
 else
 ob (idx v0 v1) fun x48=>
 bif decide (0≤v1∧v1.toNat<xr.length) then
 ob (xr[v1.toNat]?) fun xn=>
 ob (idx v0 v1) fun x50=>
 some ((xr.set v1.toNat (IntKind.u64.wrap (x48+v2))),x50)
 else
 none
theorem ux (k:Nat) (v0:List Int) (v1 v2:Int):xC (k+11) none 138 [.ro (List.map (aF .u64) v0),.lit (.int .i64 v1),.lit (.int .u64 v2)]=ob (d9 v0 v1 v2) fun r=>some ((.tup [.ro (List.map (aF .u64) r.1),.lit (.int .u64 r.2)]),[]):=by
 rw [aH]
 unfold d9
 simp -implicitDefEqProofs only [aaV,X6,QU,K2,aab,XH,↓syP,syA,syD,simprocAttr,syE,ag,af,ae,syW,xQ,mK]
def ee (v0 : (List Int)) (v1 : Int) (v2 : Int) (v3 : Int) : Option ((List Int) × Bool) :=
 ob (aQ 8 v0) fun xN =>
 ob (fC v0 v1) fun x64 =>
 bif !x64 then
 some (xN,false)
 else
 ob (idx v0 v1) fun xc =>
 bif xc != v2 then
 bif decide (0 ≤ v1 ∧ v1.toNat < xN.length) then
 ob (xN[v1.toNat]?) fun x66 =>
 ob (idx v0 v1) fun x67 =>
 some ((xN.set v1.toNat xc),false)
 else
 none
 else
 bif decide (0 ≤ v1 ∧ v1.toNat < xN.length) then
 ob (xN[v1.toNat]?) fun x68 =>
 ob (idx v0 v1) fun x69 =>
 some ((xN.set v1.toNat v3),true)
 else
 none
theorem ga (k:Nat) (v0:List Int) (v1 v2 v3:Int):xC (k+11) none 191 [.ro (List.map (aF .u64) v0),.lit (.int .i64 v1),.lit (.int .u64 v2),.lit (.int .u64 v3)]=ob (ee v0 v1 v2 v3) fun r=>some ((.tup [.ro (List.map (aF .u64) r.1),.lit (.bool r.2)]),[]):=by
 rw [aH]
 unfold ee
 simp -implicitDefEqProofs only [QU,K2,aag,Yo,aco,Uo,↓syP,syA,syD,simprocAttr,syE,ag,af,ae,syW,xQ,mK]
def aG (v0:Int) (v1:Int) (v2:Int):Option (Int×Int×Int×Int×Int×Int×Int):=
 some (v0,0,v1,v2,0,0,0)
theorem iS (k:Nat) (v0 v1 v2:Int):xC (k+1) none 104 [.lit (.int .i64 v0),.lit (.int .i64 v1),.lit (.int .u64 v2)]=ob (aG v0 v1 v2) fun r=>some ((.agg [.lit (.int .i64 r.1),.lit (.int .i64 r.2.1),.lit (.int .i64 r.2.2.1),.lit (.int .u64 r.2.2.2.1),.lit (.int .u64 r.2.2.2.2.1),.lit (.int .u64 r.2.2.2.2.2.1),.lit (.int .i64 r.2.2.2.2.2.2)]),[]):=by
 rw [aH]
 unfold aG
 simp -implicitDefEqProofs only [ZA,Wr,↓syP,syA,syD,simprocAttr,syE,ag,af,ae,syW,xQ]
def aE (v0:(Int×Int×Int×Int×Int×Int×Int)):Option Bool:=
 some (v0.2.2.2.2.2.2 !=0)
theorem dM (k:Nat) (v0_0 v0_1 v0_2 v0_3 v0_4 v0_5 v0_6:Int):xC (k+1) none 110 [.agg [.lit (.int .i64 v0_0),.lit (.int .i64 v0_1),.lit (.int .i64 v0_2),.lit (.int .u64 v0_3),.lit (.int .u64 v0_4),.lit (.int .u64 v0_5),.lit (.int .i64 v0_6)]]=ob (aE (v0_0,v0_1,v0_2,v0_3,v0_4,v0_5,v0_6)) fun r=>some ((.lit (.bool r)),[]):=by
 rw [aH]
 unfold aE
 simp -implicitDefEqProofs only [abk,Uv,↓syP,syA,syD,simprocAttr,syE,ag,af,ae,syW,xQ]
def aV (v0:(Int×Int×Int×Int×Int×Int×Int)) (v1:Int) (v2:Int):Option (Int×Int×Int×Int×Int×Int×Int):=
 some (v0.1,0,v0.2.2.1,v2,0,0,v1)
theorem eE (k:Nat) (v0_0 v0_1 v0_2 v0_3 v0_4 v0_5 v0_6 v1 v2:Int):xC (k+1) none 193 [.agg [.lit (.int .i64 v0_0),.lit (.int .i64 v0_1),.lit (.int .i64 v0_2),.lit (.int .u64 v0_3),.lit (.int .u64 v0_4),.lit (.int .u64 v0_5),.lit (.int .i64 v0_6)],.lit (.int .i64 v1),.lit (.int .u64 v2)]=ob (aV (v0_0,v0_1,v0_2,v0_3,v0_4,v0_5,v0_6) v1 v2) fun r=>some ((.agg [.lit (.int .i64 r.1),.lit (.int .i64 r.2.1),.lit (.int .i64 r.2.2.1),.lit (.int .u64 r.2.2.2.1),.lit (.int .u64 r.2.2.2.2.1),.lit (.int .u64 r.2.2.2.2.2.1),.lit (.int .i64 r.2.2.2.2.2.2)]),[]):=by
 rw [aH]
 unfold aV
 simp -implicitDefEqProofs only [abH,XZ,↓syP,syA,syD,simprocAttr,syE,ag,af,ae,syW,xQ]
def nA (v0:Int) (v1:Int):Option Int:=
 bif decide (v1<0) then
 some v0
 else
 bif decide (16≤v1) then
 some v0
 else
 bif decide (0≤v1) then
 some (orI IntKind.u64 v0 (Ys IntKind.u64 1 v1))
 else
 none
theorem GO (k:Nat) (v0 v1:Int):xC (k+1) none 214 [.lit (.int .u64 v0),.lit (.int .i64 v1)]=ob (nA v0 v1) fun r=>some ((.lit (.int .u64 r)),[]):=by
 rw [aH]
 unfold nA
 simp -implicitDefEqProofs only [ZT,XI,Iz,p9,↓syP,syA,syD,simprocAttr,syE,ag,af,ae,syW,xQ]
def eP (v0:Int):Option Int:=
 some (YQ IntKind.u64 v0 16)
theorem kH (k:Nat) (v0:Int):xC (k+1) none 213 [.lit (.int .u64 v0)]=ob (eP v0) fun r=>some ((.lit (.int .u64 r)),[]):=by
 rw [aH]
 unfold eP
 simp -implicitDefEqProofs only [aaS,Ul,↓syP,syA,syD,simprocAttr,syE,ag,af,ae,syW,xQ]
def eh (v0:(Int×Int×Int×Int)) (v1:Int):Option Int:=
 ob (bK v0) fun x80=>
 bif !x80 then
 some ((-1))
 else
 ob (dH v1 0 (IntKind.i64.wrap (v0.1 - 1))) fun x81=>
 bif !x81 then
 some ((-1))
 else
 ob (dZ v0 v1) fun x82=>
 some (IntKind.i64.wrap (x82+2))
theorem nG (k:Nat) (v0_0 v0_1 v0_2 v0_3 v1:Int):xC (k+12) none 32 [.agg [.lit (.int .i64 v0_0),.lit (.int .i64 v0_1),.lit (.int .i64 v0_2),.lit (.int .i64 v0_3)],.lit (.int .i64 v1)]=ob (eh (v0_0,v0_1,v0_2,v0_3) v1) fun r=>some ((.lit (.int .i64 r)),[]):=by
 rw [aH]
 unfold eh
 simp -implicitDefEqProofs only [aeD,adf,TS,P9,pb,fp,adP,ac3,↓syP,syA,syD,simprocAttr,syE,ag,af,ae,syW,xQ,iX,bG,iF]
def dr (v0:Int):Option Int:=
 some (Ah IntKind.u64 v0 65535)
theorem mc (k:Nat) (v0:Int):xC (k+1) none 192 [.lit (.int .u64 v0)]=ob (dr v0) fun r=>some ((.lit (.int .u64 r)),[]):=by
 rw [aH]
 unfold dr
 simp -implicitDefEqProofs only [aaK,Xn,↓syP,syA,syD,simprocAttr,syE,ag,af,ae,syW,xQ]
def eV (v0:(Int×Int×Int×Int)) (v1:Int):Option Int:=
 ob (bK v0) fun x89=>
 bif !x89 then
 some ((-1))
 else
 ob (dH v1 0 (IntKind.i64.wrap (v0.1 - 1))) fun x90=>
 bif !x90 then
 some ((-1))
 else
 ob (dZ v0 v1) fun x91=>
 some x91
theorem gw (k:Nat) (v0_0 v0_1 v0_2 v0_3 v1:Int):xC (k+12) none 107 [.agg [.lit (.int .i64 v0_0),.lit (.int .i64 v0_1),.lit (.int .i64 v0_2),.lit (.int .i64 v0_3)],.lit (.int .i64 v1)]=ob (eV (v0_0,v0_1,v0_2,v0_3) v1) fun r=>some ((.lit (.int .i64 r)),[]):=by
 rw [aH]
 unfold eV
 simp -implicitDefEqProofs only [TS,P9,pb,fp,aaM,W5,Zw,Ww,↓syP,syA,syD,simprocAttr,syE,ag,af,ae,syW,xQ,iX,bG,iF]
def cC (v0:(Int×Int×Int×Int)) (v1:Int):Option Int:=
 ob (bK v0) fun x98=>
 bif !x98 then
 some ((-1))
 else
 ob (dH v1 0 (IntKind.i64.wrap (v0.1 - 1))) fun x99=>
 bif !x99 then
 some ((-1))
 else
 ob (dZ v0 v1) fun x100=>
 some (IntKind.i64.wrap (x100+1))
theorem dT (k:Nat) (v0_0 v0_1 v0_2 v0_3 v1:Int):xC (k+12) none 108 [.agg [.lit (.int .i64 v0_0),.lit (.int .i64 v0_1),.lit (.int .i64 v0_2),.lit (.int .i64 v0_3)],.lit (.int .i64 v1)]=ob (cC (v0_0,v0_1,v0_2,v0_3) v1) fun r=>some ((.lit (.int .i64 r)),[]):=by
 rw [aH]
 unfold cC
 simp -implicitDefEqProofs only [TS,P9,pb,fp,acL,US,abW,T9,↓syP,syA,syD,simprocAttr,syE,ag,af,ae,syW,xQ,iX,bG,iF]
def eR (v0:(Int×Int×Int×Int)) (v1:Int) (v2:Int):Option Int:=
 ob (bK v0) fun x107=>
 bif !x107 then
 some ((-1))
 else
 ob (dH v1 0 (IntKind.i64.wrap (v0.1 - 1))) fun x108=>
 bif !x108 then
 some ((-1))
 else
 ob (dZ v0 v1) fun xL=>
 some (IntKind.i64.wrap (IntKind.i64.wrap (xL+3)+IntKind.i64.wrap (Ah IntKind.u64 v2 (IntKind.u64.wrap (IntKind.i64.wrap (v0.2.1 - 1))))))
theorem lc (k:Nat) (v0_0 v0_1 v0_2 v0_3 v1 v2:Int):xC (k+12) none 109 [.agg [.lit (.int .i64 v0_0),.lit (.int .i64 v0_1),.lit (.int .i64 v0_2),.lit (.int .i64 v0_3)],.lit (.int .i64 v1),.lit (.int .u64 v2)]=ob (eR (v0_0,v0_1,v0_2,v0_3) v1 v2) fun r=>some ((.lit (.int .i64 r)),[]):=by
 rw [aH]
 unfold eR
 simp -implicitDefEqProofs only [TS,P9,pb,fp,aay,U4,abh,Vv,↓syP,syA,syD,simprocAttr,syE,ag,af,ae,syW,xQ,iX,bG,iF]
def dE (v0:Int) (v1:Int):Option Int:=
 some (IntKind.i64.wrap (IntKind.u64.wrap (v0 - v1)))
theorem eN (k:Nat) (v0 v1:Int):xC (k+1) none 106 [.lit (.int .u64 v0),.lit (.int .u64 v1)]=ob (dE v0 v1) fun r=>some ((.lit (.int .i64 r)),[]):=by
 rw [aH]
 unfold dE
 simp -implicitDefEqProofs only [ab7,V0,↓syP,syA,syD,simprocAttr,syE,ag,af,ae,syW,xQ]
def dR (k:Nat) (v0:(Int×Int×Int×Int))  : Nat→Int→List Int→Int→Nat→Option (List Int)
 | 0,_,_,_,_=>none
 | n+1,sE,sK,sS,sC=>
 bif decide (sS<sE) then
 ck (sC==1||sC==0) (
 bif room (sK++[(0:Int)]).length 8 then
 dR k v0  n (sE) (sK++[(0:Int)]) (IntKind.i64.wrap (sS+(1:Int))) (1)
 else
 none)
 else
 some (sK)
theorem kN (k:Nat) (v0_0 v0_1 v0_2 v0_3:Int):∀ (n:Nat) (sE:Int) (sK:List Int) (sS:Int) (sC:Nat) ⦃sA:Nat⦄,rt none (itX (xX (xS (k+3)) 59 0 (k+3) false) Fo (3) (ap (xX (xS (k+3)) 59 0 (k+3) false) (am (xS (k+3)).P Tryz.f59) EX) n ⟨[.agg [.lit (.int .i64 v0_0),.lit (.int .i64 v0_1),.lit (.int .i64 v0_2),.lit (.int .i64 v0_3)],.ptr 0 0 0 0,.own 1 0 0,.own 2 sA sK.length,.agg [.lit (.int .i64 v0_0),.lit (.int .i64 v0_1),.lit (.int .i64 v0_2),.lit (.int .i64 v0_3)],.lit (.int .i64 sE),.lit (.int .i64 sS),.junk,.junk,.junk,.junk,.junk,uu],[.box [.lit (.int .i64 v0_0),.lit (.int .i64 v0_1),.lit (.int .i64 v0_2),.lit (.int .i64 v0_3)],.rows 0 [] 0 true,.rows sC (List.map (aF IntKind.u64) sK) sA true]⟩)=ob (dR k (v0_0,v0_1,v0_2,v0_3)  n sE sK sS sC) fun r=>some ((.ro (List.map (aF .u64) r)),[]):=by
 intro n
 induction n with
 | zero=>intros;rfl
 | succ n ih=>
  intro sE sK sS sC sA
  rw [dR]
  simp -implicitDefEqProofs only [adc,Z3,abp,Js,nk,↓syP,syA,syD,simprocAttr,syE,ag,af,ae,syW,xQ,dY,OH,ih]
def iD (k:Nat) (v0:(Int×Int×Int×Int)):Option (List Int):=
 ob (cO v0) fun x123=>
 dR k v0 (k+3) x123 ([]) 0 0
theorem mQ (k:Nat) (v0_0 v0_1 v0_2 v0_3:Int):xC (k+4) none 59 [.agg [.lit (.int .i64 v0_0),.lit (.int .i64 v0_1),.lit (.int .i64 v0_2),.lit (.int .i64 v0_3)]]=ob (iD k (v0_0,v0_1,v0_2,v0_3)) fun r=>some ((.ro (List.map (aF .u64) r)),[]):=by
 rw [aH]
 unfold iD
 have hl0:=fun (x124:Int)=>kN k v0_0 v0_1 v0_2 v0_3 (k+3) (x124) ([]) ((0:Int)) (0)
 try simp -implicitDefEqProofs only [List.map_nil,List.length_nil] at hl0
 simp -implicitDefEqProofs only [adc,Z3,abp,Js,nk,↓syP,syA,syD,simprocAttr,syE,ag,af,ae,syW,xQ,dY,kN k v0_0 v0_1 v0_2 v0_3,hl0]
def eL (v0:Int) (v1:Int):Option Bool:=
 bif decide (0≤v0) then
 some (decide (v0<v1))
 else
 some false
theorem od (k:Nat) (v0 v1:Int):xC (k+1) none 81 [.lit (.int .i64 v0),.lit (.int .i64 v1)]=ob (eL v0 v1) fun r=>some ((.lit (.bool r)),[]):=by
 rw [aH]
 unfold eL
 simp -implicitDefEqProofs only [ad1,adu,Ob,ut,↓syP,syA,syD,simprocAttr,syE,ag,af,ae,syW,xQ]
def fW (v0 : Int) (v1 : Int) (v2 : Int) : Option Int :=
 bif decide (v2 < 2) then
 some ((-1))
 else
 ob (eL v1 v2) fun x126 =>
 bif !x126 then
 some ((-1))
 else
 bif IntKind.u64.wrap (IntKind.u64.wrap v2 - 1) != 0 then
 bif IntKind.u64.wrap v2 != 0 then
 some (IntKind.i64.wrap ((IntKind.u64.wrap (IntKind.u64.wrap (IntKind.u64.wrap v1 + 1) + v0.tmod (IntKind.u64.wrap (IntKind.u64.wrap v2 - 1)))).tmod (IntKind.u64.wrap v2)))
 else
 none
 else
 none
theorem wW (k:Nat) (v0 v1 v2:Int):xC (k+2) none 161 [.lit (.int .u64 v0),.lit (.int .i64 v1),.lit (.int .i64 v2)]=ob (fW v0 v1 v2) fun r=>some ((.lit (.int .i64 r)),[]):=by
 rw [aH]
 unfold fW
 simp -implicitDefEqProofs only [abw,V9,II,rD,↓syP,syA,syD,simprocAttr,syE,ag,af,ae,syW,xQ,od]
def fy (v0:(Int×Int×Int×Int)) (v1:(List Int)) (v2:(Int×Int×Int×Int×Int×Int×Int)) (v3:Int) (v4:Int):Option Bool:=
 ob (bK v0) fun x132=>
 bif x132 then
 ob (cO v0) fun x133=>
 bif (↑v1.length:Int)==x133 then
 ob (aE v2) fun x134=>
 bif !x134 then
 bif decide (0≤v2.2.2.1) then
 bif decide (v2.2.2.1<v0.1) then
 bif v2.1==v3 then
 bif decide (0≤v2.2.1) then
 some (decide (v2.2.1<v4))
 else
 some false
 else
 some false
 else
 some false
 else
 some false
 else
 some false
 else
 some false
 else
 some false
theorem gB (k:Nat) (v0_0 v0_1 v0_2 v0_3:Int) (v1:List Int) (v2_0 v2_1 v2_2 v2_3 v2_4 v2_5 v2_6 v3 v4:Int):xC (k+4) none 188 [.agg [.lit (.int .i64 v0_0),.lit (.int .i64 v0_1),.lit (.int .i64 v0_2),.lit (.int .i64 v0_3)],.ro (List.map (aF .u64) v1),.agg [.lit (.int .i64 v2_0),.lit (.int .i64 v2_1),.lit (.int .i64 v2_2),.lit (.int .u64 v2_3),.lit (.int .u64 v2_4),.lit (.int .u64 v2_5),.lit (.int .i64 v2_6)],.lit (.int .i64 v3),.lit (.int .i64 v4)]=ob (fy (v0_0,v0_1,v0_2,v0_3) v1 (v2_0,v2_1,v2_2,v2_3,v2_4,v2_5,v2_6) v3 v4) fun r=>some ((.lit (.bool r)),[]):=by
 rw [aH]
 unfold fy
 simp -implicitDefEqProofs only [aaz,XS,JL,H0,Hj,G3,Hv,JX,Ip,pI,↓syP,syA,syD,simprocAttr,syE,ag,af,ae,syW,xQ,bG,dY,dM]
def lF (v0 : (Int × Int × Int × Int)) (v1 : (List Int)) (v2 : (Int × Int × Int × Int × Int × Int × Int)) : Option ((List Int) × (Int × Int × Int × Int × Int × Int × Int)) :=
 ob (aQ 8 v1) fun xO =>
 ob (fy v0 v1 v2 5 5) fun x153 =>
 bif x153 then
 bif decide (0 ≤ v2.2.1 ∧ v2.2.1.toNat < 5) then
 bif v2.2.1.toNat == 0 then
 ob (aD xO 2) fun xk =>
 some (xO,(v2.1,1,v2.2.2.1,v2.2.2.2.1,xk,v2.2.2.2.2.2))
 else
 bif v2.2.1.toNat == 1 then
 ob (aD xO 2) fun xv =>
 ob (eP xv) fun xI =>
 ob (eP v2.2.2.2.2.1) fun x157 =>
 bif xI != x157 then
 ob (aV (v2.1,2,v2.2.2.1,v2.2.2.2.1,v2.2.2.2.2.1,xv,v2.2.2.2.2.2.2) 4 0) fun x158 =>
 some (xO,x158)
 else
 some (xO,(v2.1,2,v2.2.2.1,v2.2.2.2.1,v2.2.2.2.2.1,xv,v2.2.2.2.2.2.2))
 else
 bif v2.2.1.toNat == 2 then
 ob (nA v2.2.2.2.2.2.1 v2.2.2.1) fun x159 =>
 ob (ee xO 2 v2.2.2.2.2.2.1 x159) fun xl =>
 bif xl.2 then
 some (xl.1,(v2.1,3,v2.2.2))
 else
 some (xl.1,(v2.1,1,v2.2.2))
 else
 bif v2.2.1.toNat == 3 then
 ob (eh v0 v2.2.2.1) fun x161 =>
 ob (aD xO x161) fun xa =>
 bif xa != 0 then
 some (xO,(v2.1,4,v2.2.2.1,v2.2.2.2.1,v2.2.2.2.2.1,xa,v2.2.2.2.2.2.2))
 else
 some (xO,(v2.1,v2.2.1,v2.2.2.1,v2.2.2.2.1,v2.2.2.2.2.1,xa,v2.2.2.2.2.2.2))
 else
 bif v2.2.1.toNat == 4 then
 ob (eh v0 v2.2.2.1) fun xJ =>
 ob (bH xO xJ 0) fun x164 =>
 ob (aV v2 1 0) fun xK =>
 some (x164,xK)
 else
 none
 else
 none
 else
 some (xO,v2)
theorem CM (k:Nat) (v0_0 v0_1 v0_2 v0_3:Int) (v1:List Int) (v2_0 v2_1 v2_2 v2_3 v2_4 v2_5 v2_6:Int):xC (k+14) none 165 [.agg [.lit (.int .i64 v0_0),.lit (.int .i64 v0_1),.lit (.int .i64 v0_2),.lit (.int .i64 v0_3)],.ro (List.map (aF .u64) v1),.agg [.lit (.int .i64 v2_0),.lit (.int .i64 v2_1),.lit (.int .i64 v2_2),.lit (.int .u64 v2_3),.lit (.int .u64 v2_4),.lit (.int .u64 v2_5),.lit (.int .i64 v2_6)]]=ob (lF (v0_0,v0_1,v0_2,v0_3) v1 (v2_0,v2_1,v2_2,v2_3,v2_4,v2_5,v2_6)) fun r=>some ((.tup [.ro (List.map (aF .u64) r.1),.agg [.lit (.int .i64 r.2.1),.lit (.int .i64 r.2.2.1),.lit (.int .i64 r.2.2.2.1),.lit (.int .u64 r.2.2.2.2.1),.lit (.int .u64 r.2.2.2.2.2.1),.lit (.int .u64 r.2.2.2.2.2.2.1),.lit (.int .i64 r.2.2.2.2.2.2.2)]]),[]):=by
 rw [aH]
 unfold lF
 simp -implicitDefEqProofs only [ab1,VI,G0,oY,aa1,UR,aa2,U9,aaX,Wq,acW,Vn,aaC,WV,↓syP,syA,syD,simprocAttr,syE,ag,af,ae,syW,xQ,bO,dN,ga,eE,GO,kH,nG,gB]
end Go.Ab
set_option maxRecDepth 100000
set_option linter.unusedVariables false
set_option linter.unusedSimpArgs false
namespace Go.Ab
open Go.Proofs
def lP (v0:(Int×Int×Int×Int)) (v1:(List Int)) (v2:(Int×Int×Int×Int×Int×Int×Int)):Option Bool:=
 bif v2.1==6 then
 ob (bK v0) fun x8=>
 bif x8 then
 ob (cO v0) fun x9=>
 bif (↑v1.length:Int)==x9 then
 ob (aE v2) fun x10=>
 bif !x10 then
 bif decide (0≤v2.2.1) then
 some (decide (v2.2.1≤2))
 else
 some false
 else
 some false
 else
 some false
 else
 some false
 else
 bif v2.1==7 then
 ob (bK v0) fun x11=>
 bif x11 then
 ob (cO v0) fun x12=>
 bif (↑v1.length:Int)==x12 then
 ob (aE v2) fun x13=>
 bif !x13 then
 bif decide (0≤v2.2.1) then
 some (decide (v2.2.1≤2))
 else
 some false
 else
 some false
 else
 some false
 else
 some false
 else
 some false
theorem C1 (k:Nat) (v0_0 v0_1 v0_2 v0_3:Int) (v1:List Int) (v2_0 v2_1 v2_2 v2_3 v2_4 v2_5 v2_6:Int):xC (k+15) none 189 [.agg [.lit (.int .i64 v0_0),.lit (.int .i64 v0_1),.lit (.int .i64 v0_2),.lit (.int .i64 v0_3)],.ro (List.map (aF .u64) v1),.agg [.lit (.int .i64 v2_0),.lit (.int .i64 v2_1),.lit (.int .i64 v2_2),.lit (.int .u64 v2_3),.lit (.int .u64 v2_4),.lit (.int .u64 v2_5),.lit (.int .i64 v2_6)]]=ob (lP (v0_0,v0_1,v0_2,v0_3) v1 (v2_0,v2_1,v2_2,v2_3,v2_4,v2_5,v2_6)) fun r=>some ((.lit (.bool r)),[]):=by
 rw [aH]
 unfold lP
 simp -implicitDefEqProofs only [aam,VM,Jg,Jm,JW,Hz,Kf,pE,VG,P1,aH (g:=190),Qn,LI,SL,Lg,↓syP,syA,syD,simprocAttr,syE,ag,af,ae,syW,xQ,bG,dY,dM]
def i5 (v0:Int) (v1:Int):Option Int:=
 some (orI IntKind.u64 (Ys IntKind.u64 v0 16) (Ah IntKind.u64 v1 65535))
theorem pf (k:Nat) (v0 v1:Int):xC (k+1) none 233 [.lit (.int .u64 v0),.lit (.int .u64 v1)]=ob (i5 v0 v1) fun r=>some ((.lit (.int .u64 r)),[]):=by
 rw [aH]
 unfold i5
 simp -implicitDefEqProofs only [aci,WO,↓syP,syA,syD,simprocAttr,syE,ag,af,ae,syW,xQ]
def ew (k:Nat) (v0:Int)  : Nat→Int→Option Int
 | 0,_=>none
 | n+1,sQ=>
 bif decide (sQ<(16:Int)) then
 bif decide ((0:Int)≤sQ) then
 bif Ah IntKind.u64 (YQ IntKind.u64 v0 sQ) (1:Int)==(1:Int) then
 some (sQ)
 else
 ew k v0  n (IntKind.i64.wrap (sQ+(1:Int)))
 else
 none
 else
 some ((-1:Int))
theorem lX (k:Nat) (v0:Int):∀ (n:Nat) (sQ:Int) ⦃j26:V⦄,rt none (bq (itX (xX (xS (k+9)) 234 0 (k+9) false) kU (3) (ap (xX (xS (k+9)) 234 0 (k+9) false) (am (xS (k+9)).P Tryz.f234) u9) n ⟨[.yld 2,.ptr 1 0 0 0,uu,j26,.lit (.int .i64 sQ),.junk,.junk,.junk,.junk,.junk,.junk,.junk,.junk,.junk,.junk,.junk,.junk,.junk,.junk],[.box [.lit (.int .i64 (0:Int))],.box [.lit (.int .u64 v0)],(.loop ⟨LoopState.ready,none,195,[.lit (.int .u64 v0),uu,.ptr 0 0 0 0,uu,.lit (.int .u64 v0),.fn (Fn.func (234:FuncId)) [] [.ptr 1 0 0 0],uu,uu],[(6:Tmp)],CN,Dj⟩)]⟩) (rfK (ap (xX (xS (k+10)) 195 0 (k+10) false) (am (xS (k+10)).P Tryz.f195) wa) [.lit (.int .u64 v0),uu,.ptr 0 0 0 0,uu,.lit (.int .u64 v0),.fn (Fn.func (234:FuncId)) [] [.ptr 1 0 0 0],uu,uu] (2)))=ob (ew k v0  n sQ) fun r=>some ((.lit (.int .i64 r)),[]):=by
 intro n
 induction n with
 | zero=>intros;rfl
 | succ n ih=>
  intro sQ j26
  rw [ew]
  simp -implicitDefEqProofs only [Ym,Qv,PQ,Cy,gq,gF,lI,r9,Uh,S7,aH (g:=220),V7,Q9,RA,CG,Cd,ml,md,↓syP,syA,syD,simprocAttr,syE,ag,af,ae,syW,xQ,HM,ih]
def fT (k:Nat) (v0:Int):Option Int:=
 ew k v0 (k+9) 0
theorem mT (k:Nat) (v0:Int):xC (k+11) none 195 [.lit (.int .u64 v0)]=ob (fT k v0) fun r=>some ((.lit (.int .i64 r)),[]):=by
 rw [aH]
 unfold fT
 simp -implicitDefEqProofs only [Ym,Qv,PQ,Cy,gq,gF,lI,r9,Uh,S7,aH (g:=220),V7,Q9,RA,CG,Cd,ml,md,↓syP,syA,syD,simprocAttr,syE,ag,af,ae,syW,xQ,lX k v0]
def lU (k:Nat) (v0:Int):Option (Int×Int):=
 ob (dr v0) fun xu=>
 ob (eP v0) fun xq=>
 ob (i5 (IntKind.u64.wrap (xq+1)) (Ah IntKind.u64 xu (IntKind.u64.wrap (xu - 1)))) fun x34=>
 ob (fT k xu) fun x35=>
 some (x34,x35)
theorem Dx (k:Nat) (v0:Int):xC (k+12) none 216 [.lit (.int .u64 v0)]=ob (lU k v0) fun r=>some ((.tup [.lit (.int .u64 r.1),.lit (.int .i64 r.2)]),[]):=by
 rw [aH]
 unfold lU
 simp -implicitDefEqProofs only [abd,Yn,↓syP,syA,syD,simprocAttr,syE,ag,af,ae,syW,xQ,kH,mc,pf,mT]
def gY (k:Nat) (v0:Int):Option (Int×Int):=
 ob (lU k v0) fun xe=>
 some (xe.1,(IntKind.u64.wrap (bif decide (xe.2<0) then 0 else xe.2)))
theorem rS (k:Nat) (v0:Int):xC (k+13) none 215 [.lit (.int .u64 v0)]=ob (gY k v0) fun r=>some ((.tup [.lit (.int .u64 r.1),.lit (.int .u64 r.2)]),[]):=by
 rw [aH]
 unfold gY
 simp -implicitDefEqProofs only [Qn,LI,↓syP,syA,syD,simprocAttr,syE,ag,af,ae,syW,xQ,Dx]
def lT (v0:Int):Option Int:=
 ob (eP v0) fun xi=>
 ob (i5 (IntKind.u64.wrap (xi+1)) 0) fun xr=>
 some xr
theorem Cv (k:Nat) (v0:Int):xC (k+2) none 218 [.lit (.int .u64 v0)]=ob (lT v0) fun r=>some ((.lit (.int .u64 r)),[]):=by
 rw [aH]
 unfold lT
 simp -implicitDefEqProofs only [aa3,WK,↓syP,syA,syD,simprocAttr,syE,ag,af,ae,syW,xQ,kH,pf]
def gX (v0:Int):Option (Int×Int):=
 ob (lT v0) fun x51=>
 ob (dr v0) fun x52=>
 some (x51,x52)
theorem rH (k:Nat) (v0:Int):xC (k+3) none 217 [.lit (.int .u64 v0)]=ob (gX v0) fun r=>some ((.tup [.lit (.int .u64 r.1),.lit (.int .u64 r.2)]),[]):=by
 rw [aH]
 unfold gX
 simp -implicitDefEqProofs only [SL,Lg,↓syP,syA,syD,simprocAttr,syE,ag,af,ae,syW,xQ,mc,Cv]
def fB (k:Nat) (v0:(Int×Int×Int×Int)) (v1:(List Int)) (v2:(List Int))  : Nat→List Int→Int→Option (List Int)
 | 0,_,_=>none
 | n+1,sZ,sX=>
 bif decide (sX<(↑v2.length:Int)) then
 ob (idx v2 sX) fun x68=>
 ob (eh (v0.1,v0.2.1,v0.2.2.1,v0.2.2.2) x68) fun x69=>
 ob (bH sZ x69 (1:Int)) fun x70=>
 fB k v0 v1 v2  n (x70) (IntKind.i64.wrap (sX+(1:Int)))
 else
 some (sZ)
theorem nf (k:Nat) (v0_0 v0_1 v0_2 v0_3:Int) (v1 v2:List Int):∀ (n:Nat) (sZ:List Int) (sX:Int) ⦃j60:V⦄,rt none (itX (xX (xS (k+12)) 194 0 (k+12) false) wB (2) (ap (xX (xS (k+12)) 194 0 (k+12) false) (am (xS (k+12)).P Tryz.f194) wj) n ⟨[.agg [.lit (.int .i64 v0_0),.lit (.int .i64 v0_1),.lit (.int .i64 v0_2),.lit (.int .i64 v0_3)],.ro (List.map (aF IntKind.u64) sZ),.ro (List.map (aF IntKind.i64) v2),.ptr 0 0 0 0,uu,uu,.own 1 0 0,uu,j60,.ro (List.map (aF IntKind.i64) v2),.lit (.int .i64 (↑v2.length:Int)),.lit (.int .i64 sX),.junk,.junk,.junk,.junk,.junk,.junk,.junk,.junk,.junk,uu],[.box [.lit (.int .i64 v0_0),.lit (.int .i64 v0_1),.lit (.int .i64 v0_2),.lit (.int .i64 v0_3)],.rows 0 [] 0 true]⟩)=ob (fB k (v0_0,v0_1,v0_2,v0_3) v1 v2  n sZ sX) fun r=>some ((.ro (List.map (aF .u64) r)),[]):=by
 intro n
 induction n with
 | zero=>intros;rfl
 | succ n ih=>
  intro sZ sX j60
  rw [fB]
  simp -implicitDefEqProofs only [UX,Tk,Qm,Dv,lN,↓syP,syA,syD,simprocAttr,syE,ag,af,ae,syW,xQ,dN,nG,I8,ih]
def gE (k:Nat) (v0:(Int×Int×Int×Int)) (v1:(List Int)) (v2:(List Int)):Option (List Int):=
 fB k v0 v1 v2 (k+12) v1 0
theorem C9 (k:Nat) (v0_0 v0_1 v0_2 v0_3:Int) (v1 v2:List Int):xC (k+13) none 194 [.agg [.lit (.int .i64 v0_0),.lit (.int .i64 v0_1),.lit (.int .i64 v0_2),.lit (.int .i64 v0_3)],.ro (List.map (aF .u64) v1),.ro (List.map (aF .i64) v2)]=ob (gE k (v0_0,v0_1,v0_2,v0_3) v1 v2) fun r=>some ((.ro (List.map (aF .u64) r)),[]):=by
 rw [aH]
 unfold gE
 simp -implicitDefEqProofs only [UX,Tk,Qm,Dv,lN,↓syP,syA,syD,simprocAttr,syE,ag,af,ae,syW,xQ,nf k v0_0 v0_1 v0_2 v0_3 v1 v2]
def i4 (k:Nat) (v0:(Int×Int×Int×Int)) (v1:(List Int)) (v2:(Int×Int×Int×Int×Int×Int×Int)):Option ((List Int)×(Int×Int×Int×Int×Int×Int×Int)):=
 ob (aQ 8 v1) fun xs=>
 ob (lP v0 v1 v2) fun x94=>
 bif !x94 then
 some (xs,v2)
 else
 bif v2.2.1==0 then
 ob (aD xs 2) fun x95=>
 some (xs,(v2.1,1,v2.2.2.1,v2.2.2.2.1,x95,v2.2.2.2.2.2))
 else
 bif v2.2.1==1 then
 bif v2.1==6 then
 ob (gY (k+2) v2.2.2.2.2.1) fun x96=>
 ob (ee xs 2 v2.2.2.2.2.1 x96.1) fun x97=>
 bif !x97.2 then
 some (x97.1,(v2.1,0,v2.2.2))
 else
 ob (dr v2.2.2.2.2.1) fun x98=>
 bif x98==0 then
 ob (aV (v2.1,0,v2.2.2) 3 0) fun x99=>
 some (x97.1,x99)
 else
 some (x97.1,(v2.1,2,v2.2.2.1,v2.2.2.2.1,v2.2.2.2.2.1,x96.2,v2.2.2.2.2.2.2))
 else
 bif v2.1==7 then
 ob (gX v2.2.2.2.2.1) fun x100=>
 ob (ee xs 2 v2.2.2.2.2.1 x100.1) fun x101=>
 bif !x101.2 then
 some (x101.1,(v2.1,0,v2.2.2))
 else
 ob (dr v2.2.2.2.2.1) fun x102=>
 bif x102==0 then
 ob (aV (v2.1,0,v2.2.2) 3 0) fun x103=>
 some (x101.1,x103)
 else
 some (x101.1,(v2.1,2,v2.2.2.1,v2.2.2.2.1,v2.2.2.2.2.1,x100.2,v2.2.2.2.2.2.2))
 else
 none
 else
 bif v2.1==6 then
 bif decide (v2.2.2.2.2.2.1<8) then
 ob (gE (k+2) v0 xs [IntKind.i64.wrap v2.2.2.2.2.2.1]) fun x104=>
 ob (aV v2 1 v2.2.2.2.2.2.1) fun x105=>
 some (x104,x105)
 else
 ob (gE (k+2) v0 xs [(-1)]) fun x106=>
 ob (aV v2 1 v2.2.2.2.2.2.1) fun x107=>
 some (x106,x107)
 else
 ob (fT (k+4) v2.2.2.2.2.2.1) fun x108=>
 ob (gE (k+2) v0 xs [x108]) fun xL=>
 ob (dr v2.2.2.2.2.2.1) fun xb=>
 bif Ah IntKind.u64 xb (IntKind.u64.wrap (xb - 1))==0 then
 ob (dr v2.2.2.2.2.1) fun x111=>
 ob (aV (v2.1,v2.2.1,v2.2.2.1,v2.2.2.2.1,v2.2.2.2.2.1,xb,v2.2.2.2.2.2.2) 1 x111) fun x112=>
 some (xL,x112)
 else
 bif xb==0 then
 ob (dr v2.2.2.2.2.1) fun xp=>
 ob (aV (v2.1,v2.2.1,v2.2.2.1,v2.2.2.2.1,v2.2.2.2.2.1,xb,v2.2.2.2.2.2.2) 1 xp) fun x114=>
 some (xL,x114)
 else
 some (xL,(v2.1,v2.2.1,v2.2.2.1,v2.2.2.2.1,v2.2.2.2.2.1,(Ah IntKind.u64 xb (IntKind.u64.wrap (xb - 1))),v2.2.2.2.2.2.2))
theorem C0 (k:Nat) (v0_0 v0_1 v0_2 v0_3:Int) (v1:List Int) (v2_0 v2_1 v2_2 v2_3 v2_4 v2_5 v2_6:Int):xC (k+16) none 166 [.agg [.lit (.int .i64 v0_0),.lit (.int .i64 v0_1),.lit (.int .i64 v0_2),.lit (.int .i64 v0_3)],.ro (List.map (aF .u64) v1),.agg [.lit (.int .i64 v2_0),.lit (.int .i64 v2_1),.lit (.int .i64 v2_2),.lit (.int .u64 v2_3),.lit (.int .u64 v2_4),.lit (.int .u64 v2_5),.lit (.int .i64 v2_6)]]=ob (i4 k (v0_0,v0_1,v0_2,v0_3) v1 (v2_0,v2_1,v2_2,v2_3,v2_4,v2_5,v2_6)) fun r=>some ((.tup [.ro (List.map (aF .u64) r.1),.agg [.lit (.int .i64 r.2.1),.lit (.int .i64 r.2.2.1),.lit (.int .i64 r.2.2.2.1),.lit (.int .u64 r.2.2.2.2.1),.lit (.int .u64 r.2.2.2.2.2.1),.lit (.int .u64 r.2.2.2.2.2.2.1),.lit (.int .i64 r.2.2.2.2.2.2.2)]]),[]):=by
 rw [aH]
 unfold i4
 simp -implicitDefEqProofs only [aaB,VT,JD,Kh,Ke,oQ,pQ,rq,VG,P1,aH (g:=190),Qn,LI,SL,Lg,↓syP,syA,syD,simprocAttr,syE,ag,af,ae,syW,xQ,bO,ga,eE,mc,C1,mT,rS,rH,C9]
end Go.Ab
set_option maxRecDepth 100000
set_option linter.unusedVariables false
set_option linter.unusedSimpArgs false
namespace Go.Ab
open Go.Proofs
def lZ (v0:(Int×Int×Int×Int)) (v1:(List Int)) (v2:(Int×Int×Int×Int×Int×Int×Int)):Option ((List Int)×(Int×Int×Int×Int×Int×Int×Int)):=
 ob (aQ 8 v1) fun xt=>
 ob (fy v0 v1 v2 0 4) fun x15=>
 bif x15 then
 bif v2.2.1==0 then
 ob (cC v0 v2.2.2.1) fun x16=>
 ob (aD xt x16) fun xz=>
 some (xt,(v2.1,1,v2.2.2.1,v2.2.2.2.1,xz,v2.2.2.2.2.2))
 else
 bif v2.2.1==1 then
 ob (eV v0 v2.2.2.1) fun x18=>
 ob (aD xt x18) fun x19=>
 bif decide (IntKind.u64.wrap v0.2.1≤IntKind.u64.wrap (v2.2.2.2.2.1 - x19)) then
 ob (aV (v2.1,2,v2.2.2.1,v2.2.2.2.1,v2.2.2.2.2.1,x19,v2.2.2.2.2.2.2) 2 v2.2.2.2.1) fun x20=>
 some (xt,x20)
 else
 some (xt,(v2.1,2,v2.2.2.1,v2.2.2.2.1,v2.2.2.2.2.1,x19,v2.2.2.2.2.2.2))
 else
 bif v2.2.1==2 then
 ob (eR v0 v2.2.2.1 v2.2.2.2.2.1) fun x21=>
 ob (bH xt x21 v2.2.2.2.1) fun x22=>
 some (x22,(v2.1,3,v2.2.2))
 else
 bif v2.2.1==3 then
 ob (cC v0 v2.2.2.1) fun x23=>
 ob (bH xt x23 (IntKind.u64.wrap (v2.2.2.2.2.1+1))) fun x24=>
 ob (aV v2 1 v2.2.2.2.1) fun x25=>
 some (x24,x25)
 else
 none
 else
 some (xt,v2)
theorem D3 (k:Nat) (v0_0 v0_1 v0_2 v0_3:Int) (v1:List Int) (v2_0 v2_1 v2_2 v2_3 v2_4 v2_5 v2_6:Int):xC (k+24) none 207 [.agg [.lit (.int .i64 v0_0),.lit (.int .i64 v0_1),.lit (.int .i64 v0_2),.lit (.int .i64 v0_3)],.ro (List.map (aF .u64) v1),.agg [.lit (.int .i64 v2_0),.lit (.int .i64 v2_1),.lit (.int .i64 v2_2),.lit (.int .u64 v2_3),.lit (.int .u64 v2_4),.lit (.int .u64 v2_5),.lit (.int .i64 v2_6)]]=ob (lZ (v0_0,v0_1,v0_2,v0_3) v1 (v2_0,v2_1,v2_2,v2_3,v2_4,v2_5,v2_6)) fun r=>some ((.tup [.ro (List.map (aF .u64) r.1),.agg [.lit (.int .i64 r.2.1),.lit (.int .i64 r.2.2.1),.lit (.int .i64 r.2.2.2.1),.lit (.int .u64 r.2.2.2.2.1),.lit (.int .u64 r.2.2.2.2.2.1),.lit (.int .u64 r.2.2.2.2.2.2.1),.lit (.int .i64 r.2.2.2.2.2.2.2)]]),[]):=by
 rw [aH]
 unfold lZ
 simp -implicitDefEqProofs only [Zk,WJ,H8,pt,aaR,Xe,aa5,Yi,ZV,V5,ZF,VQ,↓syP,syA,syD,simprocAttr,syE,ag,af,ae,syW,xQ,bO,dN,eE,gw,dT,lc,gB]
def nv (v0:(Int×Int×Int×Int)) (v1:(List Int)) (v2:(Int×Int×Int×Int×Int×Int×Int)):Option ((List Int)×(Int×Int×Int×Int×Int×Int×Int)):=
 ob (aQ 8 v1) fun xV=>
 ob (fy v0 v1 v2 1 7) fun x55=>
 bif !x55 then
 some (xV,v2)
 else
 ob (eV v0 v2.2.2.1) fun x56=>
 ob (cC v0 v2.2.2.1) fun xo=>
 bif v2.2.1==0 then
 ob (aD xV xo) fun x58=>
 some (xV,(v2.1,(IntKind.i64.wrap (v2.2.1+1)),v2.2.2.1,v2.2.2.2.1,(IntKind.u64.wrap (x58 - 1)),v2.2.2.2.2.2))
 else
 bif v2.2.1==1 then
 ob (bH xV xo v2.2.2.2.2.1) fun xU=>
 some (xU,(v2.1,(IntKind.i64.wrap (v2.2.1+1)),v2.2.2))
 else
 bif v2.2.1==2 then
 ob (aD xV x56) fun xw=>
 ob (dE v2.2.2.2.2.1 xw) fun xj=>
 bif decide (xj<0) then
 some (xV,(v2.1,6,v2.2.2.1,v2.2.2.2.1,v2.2.2.2.2.1,xw,v2.2.2.2.2.2.2))
 else
 some (xV,(v2.1,(IntKind.i64.wrap (v2.2.1+1)),v2.2.2.1,v2.2.2.2.1,v2.2.2.2.2.1,xw,v2.2.2.2.2.2.2))
 else
 bif v2.2.1==3 then
 ob (eR v0 v2.2.2.1 v2.2.2.2.2.1) fun xP=>
 ob (aD xV xP) fun xN=>
 bif v2.2.2.2.2.1 !=v2.2.2.2.2.2.1 then
 ob (aV (v2.1,v2.2.1,v2.2.2.1,xN,v2.2.2.2.2) 1 xN) fun x64=>
 some (xV,x64)
 else
 some (xV,(v2.1,(IntKind.i64.wrap (v2.2.1+1)),v2.2.2.1,xN,v2.2.2.2.2))
 else
 bif v2.2.1==4 then
 ob (ee xV x56 v2.2.2.2.2.2.1 (IntKind.u64.wrap (v2.2.2.2.2.2.1+1))) fun xc=>
 bif !xc.2 then
 some (xc.1,(v2.1,6,v2.2.2))
 else
 some (xc.1,(v2.1,(IntKind.i64.wrap (v2.2.1+1)),v2.2.2))
 else
 bif v2.2.1==5 then
 ob (bH xV xo (IntKind.u64.wrap (v2.2.2.2.2.1+1))) fun x66=>
 ob (aV v2 1 v2.2.2.2.1) fun x67=>
 some (x66,x67)
 else
 ob (bH xV xo (IntKind.u64.wrap (v2.2.2.2.2.1+1))) fun x68=>
 ob (aV v2 3 0) fun x69=>
 some (x68,x69)
theorem FJ (k:Nat) (v0_0 v0_1 v0_2 v0_3:Int) (v1:List Int) (v2_0 v2_1 v2_2 v2_3 v2_4 v2_5 v2_6:Int):xC (k+24) none 208 [.agg [.lit (.int .i64 v0_0),.lit (.int .i64 v0_1),.lit (.int .i64 v0_2),.lit (.int .i64 v0_3)],.ro (List.map (aF .u64) v1),.agg [.lit (.int .i64 v2_0),.lit (.int .i64 v2_1),.lit (.int .i64 v2_2),.lit (.int .u64 v2_3),.lit (.int .u64 v2_4),.lit (.int .u64 v2_5),.lit (.int .i64 v2_6)]]=ob (nv (v0_0,v0_1,v0_2,v0_3) v1 (v2_0,v2_1,v2_2,v2_3,v2_4,v2_5,v2_6)) fun r=>some ((.tup [.ro (List.map (aF .u64) r.1),.agg [.lit (.int .i64 r.2.1),.lit (.int .i64 r.2.2.1),.lit (.int .i64 r.2.2.2.1),.lit (.int .u64 r.2.2.2.2.1),.lit (.int .u64 r.2.2.2.2.2.1),.lit (.int .u64 r.2.2.2.2.2.2.1),.lit (.int .i64 r.2.2.2.2.2.2.2)]]),[]):=by
 rw [aH]
 unfold nv
 simp -implicitDefEqProofs only [Zy,Xf,aaq,Uf,↓syP,syA,syD,simprocAttr,syE,ag,af,ae,syW,xQ,bO,dN,ga,eE,gw,dT,lc,eN,gB]
def cM (k : Nat) (v0 : (Int × Int × Int × Int)) (v1 : (List Int)) (v2 : (Int × Int × Int × Int × Int × Int × Int))  : Nat → List Int → Int → Int → Int → Option ((List Int) × (Int × Int × Int × Int × Int × Int × Int))
 | 0,_,_,_,_ => none
 | n + 1,sB,sL,sN,sA =>
 bif decide (sA < (4 : Int)) then
 bif decide ((0 : Int) ≤ sA ∧ sA.toNat < (4 : Nat)) then
 bif sA.toNat == (0 : Nat) then
 bif sA != v2.2.1 then
 cM k v0 v1 v2  n (sB) (sL) (sN) (IntKind.i64.wrap (sA + (1 : Int)))
 else
 ob (aD sB sL) fun xO =>
 ob (aE (v2.1,v2.2.1,v2.2.2.1,v2.2.2.2.1,v2.2.2.2.2.1,xO,v2.2.2.2.2.2.2)) fun x153 =>
 bif !x153 then
 some ((sB),((v2.1),(IntKind.i64.wrap (v2.2.1 + (1 : Int))),(v2.2.2.1),(v2.2.2.2.1),(v2.2.2.2.2.1),(xO),(v2.2.2.2.2.2.2)))
 else
 some ((sB),((v2.1),(v2.2.1),(v2.2.2.1),(v2.2.2.2.1),(v2.2.2.2.2.1),(xO),(v2.2.2.2.2.2.2)))
 else
 bif sA.toNat == (1 : Nat) then
 bif sA != v2.2.1 then
 cM k v0 v1 v2  n (sB) (sL) (sN) (IntKind.i64.wrap (sA + (1 : Int)))
 else
 ob (aD sB sN) fun xk =>
 ob (dE xk v2.2.2.2.2.2.1) fun xv =>
 bif decide (xv ≤ (0 : Int)) then
 ob (aV (v2.1,v2.2.1,v2.2.2.1,v2.2.2.2.1,xk,v2.2.2.2.2.2.1,v2.2.2.2.2.2.2) (3 : Int) (0 : Int)) fun xI =>
 ob (aE (xI.1,xI.2.1,xI.2.2.1,xI.2.2.2.1,xI.2.2.2.2.1,xI.2.2.2.2.2.1,xI.2.2.2.2.2.2)) fun x157 =>
 bif !x157 then
 some ((sB),((xI.1),(IntKind.i64.wrap (xI.2.1 + (1 : Int))),(xI.2.2.1),(xI.2.2.2.1),(xI.2.2.2.2.1),(xI.2.2.2.2.2.1),(xI.2.2.2.2.2.2)))
 else
 some ((sB),((xI.1),(xI.2.1),(xI.2.2.1),(xI.2.2.2.1),(xI.2.2.2.2.1),(xI.2.2.2.2.2.1),(xI.2.2.2.2.2.2)))
 else
 ob (aE (v2.1,v2.2.1,v2.2.2.1,v2.2.2.2.1,xk,v2.2.2.2.2.2.1,v2.2.2.2.2.2.2)) fun x158 =>
 bif !x158 then
 some ((sB),((v2.1),(IntKind.i64.wrap (v2.2.1 + (1 : Int))),(v2.2.2.1),(v2.2.2.2.1),(xk),(v2.2.2.2.2.2.1),(v2.2.2.2.2.2.2)))
 else
 some ((sB),((v2.1),(v2.2.1),(v2.2.2.1),(v2.2.2.2.1),(xk),(v2.2.2.2.2.2.1),(v2.2.2.2.2.2.2)))
 else
 bif sA.toNat == (2 : Nat) then
 bif sA != v2.2.1 then
 cM k v0 v1 v2  n (sB) (sL) (sN) (IntKind.i64.wrap (sA + (1 : Int)))
 else
 ob (eR (v0.1,v0.2.1,v0.2.2.1,v0.2.2.2) v2.2.2.1 v2.2.2.2.2.2.1) fun x159 =>
 ob (aD sB x159) fun xl =>
 ob (aE (v2.1,v2.2.1,v2.2.2.1,xl,v2.2.2.2.2.1,v2.2.2.2.2.2.1,v2.2.2.2.2.2.2)) fun x161 =>
 bif !x161 then
 some ((sB),((v2.1),(IntKind.i64.wrap (v2.2.1 + (1 : Int))),(v2.2.2.1),(xl),(v2.2.2.2.2.1),(v2.2.2.2.2.2.1),(v2.2.2.2.2.2.2)))
 else
 some ((sB),((v2.1),(v2.2.1),(v2.2.2.1),(xl),(v2.2.2.2.2.1),(v2.2.2.2.2.2.1),(v2.2.2.2.2.2.2)))
 else
 bif sA.toNat == (3 : Nat) then
 bif sA != v2.2.1 then
 cM k v0 v1 v2  n (sB) (sL) (sN) (IntKind.i64.wrap (sA + (1 : Int)))
 else
 ob (ee sB sL v2.2.2.2.2.2.1 (IntKind.u64.wrap (v2.2.2.2.2.2.1 + (1 : Int)))) fun xa =>
 bif xa.2 then
 ob (aV (v2.1,v2.2.1,v2.2.2.1,v2.2.2.2.1,v2.2.2.2.2.1,v2.2.2.2.2.2.1,v2.2.2.2.2.2.2) (1 : Int) v2.2.2.2.1) fun xJ =>
 ob (aE (xJ.1,xJ.2.1,xJ.2.2.1,xJ.2.2.2.1,xJ.2.2.2.2.1,xJ.2.2.2.2.2.1,xJ.2.2.2.2.2.2)) fun x164 =>
 bif !x164 then
 some ((xa.1),((xJ.1),(IntKind.i64.wrap (xJ.2.1 + (1 : Int))),(xJ.2.2.1),(xJ.2.2.2.1),(xJ.2.2.2.2.1),(xJ.2.2.2.2.2.1),(xJ.2.2.2.2.2.2)))
 else
 some ((xa.1),((xJ.1),(xJ.2.1),(xJ.2.2.1),(xJ.2.2.2.1),(xJ.2.2.2.2.1),(xJ.2.2.2.2.2.1),(xJ.2.2.2.2.2.2)))
 else
 ob (aV (v2.1,v2.2.1,v2.2.2.1,v2.2.2.2.1,v2.2.2.2.2.1,v2.2.2.2.2.2.1,v2.2.2.2.2.2.2) (4 : Int) (0 : Int)) fun xK =>
 ob (aE (xK.1,xK.2.1,xK.2.2.1,xK.2.2.2.1,xK.2.2.2.2.1,xK.2.2.2.2.2.1,xK.2.2.2.2.2.2)) fun x166 =>
 bif !x166 then
 some ((xa.1),((xK.1),(IntKind.i64.wrap (xK.2.1 + (1 : Int))),(xK.2.2.1),(xK.2.2.2.1),(xK.2.2.2.2.1),(xK.2.2.2.2.2.1),(xK.2.2.2.2.2.2)))
 else
 some ((xa.1),((xK.1),(xK.2.1),(xK.2.2.1),(xK.2.2.2.1),(xK.2.2.2.2.1),(xK.2.2.2.2.2.1),(xK.2.2.2.2.2.2)))
 else
 none
 else
 none
 else
 some ((sB),((v2.1),(v2.2.1),(v2.2.2.1),(v2.2.2.2.1),(v2.2.2.2.2.1),(v2.2.2.2.2.2.1),(v2.2.2.2.2.2.2)))
theorem mw (k:Nat) (v0_0 v0_1 v0_2 v0_3:Int) (v1:List Int) (v2_0 v2_1 v2_2 v2_3 v2_4 v2_5 v2_6:Int):∀ (n:Nat) (sB:List Int) (sL sN sA:Int) ⦃sg sh:Bool⦄ ⦃j115 j116:V⦄,rt none (itX (xX (xS (k+23)) 209 0 (k+23) false) wH (9) (ap (xX (xS (k+23)) 209 0 (k+23) false) (am (xS (k+23)).P Tryz.f209) uO) n ⟨[.agg [.lit (.int .i64 v0_0),.lit (.int .i64 v0_1),.lit (.int .i64 v0_2),.lit (.int .i64 v0_3)],.ro (List.map (aF IntKind.u64) v1),.agg [.lit (.int .i64 v2_0),.lit (.int .i64 v2_1),.lit (.int .i64 v2_2),.lit (.int .u64 v2_3),.lit (.int .u64 v2_4),.lit (.int .u64 v2_5),.lit (.int .i64 v2_6)],.ptr 0 0 0 0,uu,.ptr 1 0 0 0,.own 2 0 0,.ptr 3 0 0 0,.ptr 5 0 0 0,.ptr 6 0 0 0,.ptr 7 0 0 0,.own 8 0 4,j115,j116,.ro (List.map (aF IntKind.u64) v1),.ro (List.map (aF IntKind.u64) sB),.agg [.lit (.int .i64 v0_0),.lit (.int .i64 v0_1),.lit (.int .i64 v0_2),.lit (.int .i64 v0_3)],.ro (List.map (aF IntKind.u64) v1),.agg [.lit (.int .i64 v2_0),.lit (.int .i64 v2_1),.lit (.int .i64 v2_2),.lit (.int .u64 v2_3),.lit (.int .u64 v2_4),.lit (.int .u64 v2_5),.lit (.int .i64 v2_6)],.lit (.bool sg),.lit (.bool sh),uu,uu,.agg [.lit (.int .i64 v0_0),.lit (.int .i64 v0_1),.lit (.int .i64 v0_2),.lit (.int .i64 v0_3)],.ptr 1 0 0 2,.lit (.int .i64 v2_2),.lit (.int .i64 sL),.agg [.lit (.int .i64 v0_0),.lit (.int .i64 v0_1),.lit (.int .i64 v0_2),.lit (.int .i64 v0_3)],.ptr 1 0 0 2,.lit (.int .i64 v2_2),.lit (.int .i64 sN),.fn (Fn.func (229:FuncId)) [] [.ptr 5 0 0 0,.ptr 6 0 0 0,.ptr 1 0 0 0],.fn (Fn.func (230:FuncId)) [] [.ptr 5 0 0 0,.ptr 7 0 0 0,.ptr 1 0 0 0],.fn (Fn.func (231:FuncId)) [] [.ptr 5 0 0 0,.ptr 0 0 0 0,.ptr 1 0 0 0],.fn (Fn.func (232:FuncId)) [] [.ptr 5 0 0 0,.ptr 6 0 0 0,.ptr 1 0 0 0],.own 8 0 4,.own 8 0 4,.lit (.int .i64 (4:Int)),.lit (.int .i64 sA),.junk,.junk,.junk,.junk,.junk,.junk,.junk,.junk,.junk,.junk,.junk,.junk,.junk,.junk,.junk,.junk,.junk,.junk,uu,uu],[.box [.lit (.int .i64 v0_0),.lit (.int .i64 v0_1),.lit (.int .i64 v0_2),.lit (.int .i64 v0_3)],.box [.lit (.int .i64 v2_0),.lit (.int .i64 v2_1),.lit (.int .i64 v2_2),.lit (.int .u64 v2_3),.lit (.int .u64 v2_4),.lit (.int .u64 v2_5),.lit (.int .i64 v2_6)],.rows 0 [] 0 true,.box [.lit (.int .i64 (0:Int)),.lit (.int .i64 (0:Int)),.lit (.int .i64 (0:Int)),.lit (.int .u64 (0:Int)),.lit (.int .u64 (0:Int)),.lit (.int .u64 (0:Int)),.lit (.int .i64 (0:Int))],.rows 0 [] 0 true,.box [.ro (List.map (aF IntKind.u64) sB)],.box [.lit (.int .i64 sL)],.box [.lit (.int .i64 sN)],.rows 1 [[.fn (Fn.func (229:FuncId)) [] [.ptr 5 0 0 0,.ptr 6 0 0 0,.ptr 1 0 0 0]],[.fn (Fn.func (230:FuncId)) [] [.ptr 5 0 0 0,.ptr 7 0 0 0,.ptr 1 0 0 0]],[.fn (Fn.func (231:FuncId)) [] [.ptr 5 0 0 0,.ptr 0 0 0 0,.ptr 1 0 0 0]],[.fn (Fn.func (232:FuncId)) [] [.ptr 5 0 0 0,.ptr 6 0 0 0,.ptr 1 0 0 0]]] 0 true]⟩)=ob (cM k (v0_0,v0_1,v0_2,v0_3) v1 (v2_0,v2_1,v2_2,v2_3,v2_4,v2_5,v2_6)  n sB sL sN sA) fun r=>some ((.tup [.ro (List.map (aF .u64) r.1),.agg [.lit (.int .i64 r.2.1),.lit (.int .i64 r.2.2.1),.lit (.int .i64 r.2.2.2.1),.lit (.int .u64 r.2.2.2.2.1),.lit (.int .u64 r.2.2.2.2.2.1),.lit (.int .u64 r.2.2.2.2.2.2.1),.lit (.int .i64 r.2.2.2.2.2.2.2)]]),[]):=by
 intro n
 induction n with
 | zero=>intros;rfl
 | succ n ih=>
  intro sB sL sN sA sg sh j115 j116
  rw [cM]
  simp -implicitDefEqProofs only [XD,Ti,PW,CZ,ma,VX,Qt,WW,TD,WA,Sz,TZ,PE,↓syP,syA,syD,simprocAttr,syE,ag,af,ae,syW,xQ,bO,ga,dM,eE,gw,dT,lc,eN,gB,Jv,ih]
def kC (k:Nat) (v0:(Int×Int×Int×Int)) (v1:(List Int)) (v2:(Int×Int×Int×Int×Int×Int×Int)):Option ((List Int)×(Int×Int×Int×Int×Int×Int×Int)):=
 ob (aQ 8 v1) fun x167=>
 ob (fy v0 v1 v2 2 4) fun x168=>
 bif !x168 then
 some (x167,v2)
 else
 ob (eV v0 v2.2.2.1) fun x169=>
 ob (cC v0 v2.2.2.1) fun x170=>
 cM k v0 v1 v2 (k+23) x167 x169 x170 0
theorem Bs (k:Nat) (v0_0 v0_1 v0_2 v0_3:Int) (v1:List Int) (v2_0 v2_1 v2_2 v2_3 v2_4 v2_5 v2_6:Int):xC (k+24) none 209 [.agg [.lit (.int .i64 v0_0),.lit (.int .i64 v0_1),.lit (.int .i64 v0_2),.lit (.int .i64 v0_3)],.ro (List.map (aF .u64) v1),.agg [.lit (.int .i64 v2_0),.lit (.int .i64 v2_1),.lit (.int .i64 v2_2),.lit (.int .u64 v2_3),.lit (.int .u64 v2_4),.lit (.int .u64 v2_5),.lit (.int .i64 v2_6)]]=ob (kC k (v0_0,v0_1,v0_2,v0_3) v1 (v2_0,v2_1,v2_2,v2_3,v2_4,v2_5,v2_6)) fun r=>some ((.tup [.ro (List.map (aF .u64) r.1),.agg [.lit (.int .i64 r.2.1),.lit (.int .i64 r.2.2.1),.lit (.int .i64 r.2.2.2.1),.lit (.int .u64 r.2.2.2.2.1),.lit (.int .u64 r.2.2.2.2.2.1),.lit (.int .u64 r.2.2.2.2.2.2.1),.lit (.int .i64 r.2.2.2.2.2.2.2)]]),[]):=by
 rw [aH]
 unfold kC
 simp -implicitDefEqProofs only [XD,Ti,PW,CZ,ma,VX,Qt,WW,TD,WA,Sz,TZ,PE,↓syP,syA,syD,simprocAttr,syE,ag,af,ae,syW,xQ,gw,dT,gB,mw k v0_0 v0_1 v0_2 v0_3 v1 v2_0 v2_1 v2_2 v2_3 v2_4 v2_5 v2_6]
def fG (k:Nat) (v0:(Int×Int×Int×Int)) (v1:(List Int)) (v2:(Int×Int×Int×Int×Int×Int×Int)):Option ((List Int)×(Int×Int×Int×Int×Int×Int×Int)):=
 bif v2.1==0 then
 ob (lZ v0 v1 v2) fun x179=>
 some x179
 else
 bif v2.1==1 then
 ob (nv v0 v1 v2) fun x180=>
 some x180
 else
 bif v2.1==2 then
 ob (kC (k+1) v0 v1 v2) fun x181=>
 some x181
 else
 ob (aQ 8 v1) fun x182=>
 some (x182,v2)
theorem BX (k:Nat) (v0_0 v0_1 v0_2 v0_3:Int) (v1:List Int) (v2_0 v2_1 v2_2 v2_3 v2_4 v2_5 v2_6:Int):xC (k+26) none 180 [.agg [.lit (.int .i64 v0_0),.lit (.int .i64 v0_1),.lit (.int .i64 v0_2),.lit (.int .i64 v0_3)],.ro (List.map (aF .u64) v1),.agg [.lit (.int .i64 v2_0),.lit (.int .i64 v2_1),.lit (.int .i64 v2_2),.lit (.int .u64 v2_3),.lit (.int .u64 v2_4),.lit (.int .u64 v2_5),.lit (.int .i64 v2_6)]]=ob (fG k (v0_0,v0_1,v0_2,v0_3) v1 (v2_0,v2_1,v2_2,v2_3,v2_4,v2_5,v2_6)) fun r=>some ((.tup [.ro (List.map (aF .u64) r.1),.agg [.lit (.int .i64 r.2.1),.lit (.int .i64 r.2.2.1),.lit (.int .i64 r.2.2.2.1),.lit (.int .u64 r.2.2.2.2.1),.lit (.int .u64 r.2.2.2.2.2.1),.lit (.int .u64 r.2.2.2.2.2.2.1),.lit (.int .i64 r.2.2.2.2.2.2.2)]]),[]):=by
 rw [aH]
 unfold fG
 simp -implicitDefEqProofs only [ZY,Wc,↓syP,syA,syD,simprocAttr,syE,ag,af,ae,syW,xQ,D3,FJ,Bs]
end Go.Ab
set_option maxRecDepth 100000
set_option linter.unusedVariables false
set_option linter.unusedSimpArgs false
namespace Go.Ab
open Go.Proofs
def eQ (v0:Int) (v1:Int):Option Bool:=
 bif decide (0≤v0) then
 some (decide (v0≤v1))
 else
 some false
theorem um (k:Nat) (v0 v1:Int):xC (k+1) none 172 [.lit (.int .i64 v0),.lit (.int .i64 v1)]=ob (eQ v0 v1) fun r=>some ((.lit (.bool r)),[]):=by
 rw [aH]
 unfold eQ
 simp -implicitDefEqProofs only [Zh,Xs,H7,rE,↓syP,syA,syD,simprocAttr,syE,ag,af,ae,syW,xQ]
def bJ (k:Nat)   : Nat→Tye→Int→Tyt→Int→Option Int
 | 0,_,_,_,_=>none
 | n+1,s3,s4,s5,sJ=>
 bif decide (sJ<s4) then
 ob (idx s3 sJ) fun xd=>
 ob (eQ xd.1 (IntKind.i64.wrap ((↑s5.length:Int) - (1:Int)))) fun xu=>
 bif !xu then
 some (sJ)
 else
 ob (idx s5 xd.1) fun xq=>
 ob (eQ xd.2.1 xq.1) fun x34=>
 bif !x34 then
 some (sJ)
 else
 ob (eQ xd.2.2 (↑xq.2.length:Int)) fun x35=>
 bif !x35 then
 some (sJ)
 else
 bif decide (xd.2.1<xq.1) then
 bif decide ((0:Int)<xd.2.2) then
 some (sJ)
 else
 bJ k   n (s3) (s4) (s5) (IntKind.i64.wrap (sJ+(1:Int)))
 else
 bJ k   n (s3) (s4) (s5) (IntKind.i64.wrap (sJ+(1:Int)))
 else
 some ((-1:Int))
theorem lx (k:Nat)  : ∀ (n:Nat) (s3:Tye) (s4:Int) (s5:Tyt) (sJ:Int) ⦃j12:V⦄,itX (xX (xS (k+17)) 206 0 (k+17) false) wo (1) (ap (xX (xS (k+17)) 206 0 (k+17) false) (am (xS (k+17)).P Tryz.f206) wP) n ⟨[.ro (List.map aS s3),.fn (Fn.func (171:FuncId)) [] [.ptr 0 0 0 0],uu,uu,.lit (.int .i64 (0:Int)),j12,.ro (List.map aS s3),.lit (.int .i64 s4),.lit (.int .i64 sJ),.junk,.junk,.junk,.junk,.junk,.junk,.junk,.junk,.junk,.junk],[.box [.ro (List.map an s5)]]⟩=ob (bJ k   n s3 s4 s5 sJ) fun r=>some ((.lit (.int .i64 r),[.box [.ro (List.map an s5)]])):=by
 intro n
 induction n with
 | zero=>intros;rfl
 | succ n ih=>
  intro s3 s4 s5 sJ j12
  rw [bJ]
  simp -implicitDefEqProofs only [WM,Pv,Db,l9,Wn,QE,UN,Si,DN,Cl,Dh,Dt,DK,DF,l8,UP,Ry,P2,CS,mi,↓syP,syA,syD,simprocAttr,syE,ag,af,ae,syW,xQ,um,HI,ih]
def eF (k:Nat) (v0:Tyt) (v1:Tye):Option Bool:=
 ob (cF k v0) fun xT=>
 bif xT then
 ob (bJ k (k+17) v1 (↑v1.length:Int) v0 0) fun xE=>
 some (!decide (0≤xE))
 else
 some false
theorem lL (k:Nat) (v0:Tyt) (v1:Tye):xC (k+20) none 146 [.ro (List.map an v0),.ro (List.map aS v1)]=ob (eF k v0 v1) fun r=>some ((.lit (.bool r)),[]):=by
 rw [aH]
 unfold eF
 simp -implicitDefEqProofs only [WM,Pv,Db,l9,Wn,QE,UN,Si,DN,Cl,Dh,Dt,DK,DF,l8,UP,Ry,P2,CS,mi,↓syP,syA,syD,simprocAttr,syE,ag,af,ae,syW,xQ,cD,lx]
def eM (k:Nat) (v0:Tyt) (v1:Tye):Option (Int×Int):=
 bif (↑v1.length:Int)==0 then
 some (0,0)
 else
 ob (eF k v0 v1) fun xw=>
 bif !xw then
 some (0,0)
 else
 ob (idx v1 (IntKind.i64.wrap ((↑v1.length:Int) - 1))) fun xj=>
 ob (idx v0 xj.1) fun xP=>
 bif decide (xj.2.1<xP.1) then
 some (1,xj.1)
 else
 bif decide (xj.2.2<(↑xP.2.length:Int)) then
 ob (idx xP.2 xj.2.2) fun xN=>
 some (2,xN)
 else
 some (3,xj.1)
theorem nY (k:Nat) (v0:Tyt) (v1:Tye):xC (k+21) none 162 [.ro (List.map an v0),.ro (List.map aS v1)]=ob (eM k v0 v1) fun r=>some ((.agg [.lit (.int .i64 r.1),.lit (.int .i64 r.2)]),[]):=by
 rw [aH]
 unfold eM
 simp -implicitDefEqProofs only [acy,Uk,IR,o9,↓syP,syA,syD,simprocAttr,syE,ag,af,ae,syW,xQ,lL]
def gi (k:Nat) (v0:Tyt) (v1:Tye):Option Tye:=
 ob (aQ 24 v1) fun xH=>
 ob (eM k v0 v1) fun x75=>
 bif x75.1==1 then
 bif decide (0≤IntKind.i64.wrap ((↑xH.length:Int) - 1)∧(IntKind.i64.wrap ((↑xH.length:Int) - 1)).toNat<xH.length) then
 ob (xH[(IntKind.i64.wrap ((↑xH.length:Int) - 1)).toNat]?) fun x76=>
 bif decide (0≤IntKind.i64.wrap ((↑xH.length:Int) - 1)∧(IntKind.i64.wrap ((↑xH.length:Int) - 1)).toNat<xH.length) then
 ob (xH[(IntKind.i64.wrap ((↑xH.length:Int) - 1)).toNat]?) fun x77=>
 some (xH.set (IntKind.i64.wrap ((↑xH.length:Int) - 1)).toNat (x77.1,IntKind.i64.wrap (x76.2.1+1),x77.2.2))
 else
 none
 else
 none
 else
 bif x75.1==2 then
 bif decide (0≤IntKind.i64.wrap ((↑xH.length:Int) - 1)∧(IntKind.i64.wrap ((↑xH.length:Int) - 1)).toNat<xH.length) then
 ob (xH[(IntKind.i64.wrap ((↑xH.length:Int) - 1)).toNat]?) fun x78=>
 bif decide (0≤IntKind.i64.wrap ((↑xH.length:Int) - 1)∧(IntKind.i64.wrap ((↑xH.length:Int) - 1)).toNat<xH.length) then
 ob (xH[(IntKind.i64.wrap ((↑xH.length:Int) - 1)).toNat]?) fun x79=>
 some (xH.set (IntKind.i64.wrap ((↑xH.length:Int) - 1)).toNat (x79.1,x79.2.1,IntKind.i64.wrap (x78.2.2+1)))
 else
 none
 else
 none
 else
 bif x75.1==3 then
 ck (decide (0≤IntKind.i64.wrap ((↑xH.length:Int) - 1)∧(IntKind.i64.wrap ((↑xH.length:Int) - 1)).toNat≤xH.length)) (
 ck (decide ((IntKind.i64.wrap ((↑xH.length:Int) - 1)).toNat≤xH.length)) (
 some (List.take (IntKind.i64.wrap ((↑xH.length:Int) - 1)).toNat xH)))
 else
 some xH
theorem FO (k:Nat) (v0:Tyt) (v1:Tye):xC (k+22) none 163 [.ro (List.map an v0),.ro (List.map aS v1)]=ob (gi k v0 v1) fun r=>some ((.ro (List.map aS r)),[]):=by
 rw [aH]
 unfold gi
 simp -implicitDefEqProofs only [acA,Ux,abS,Xb,aH (g:=182),Zq,Ue,acN,XL,abu,V8,↓syP,syA,syD,simprocAttr,syE,ag,af,ae,syW,xQ,nY]
def eg (k:Nat) (v0:Tyt) (v1:Tye) (v2:Int):Option Tye:=
 ob (aQ 24 v1) fun x89=>
 ob (eF k v0 v1) fun x90=>
 bif !x90 then
 some x89
 else
 ob (eQ v2 (IntKind.i64.wrap ((↑v0.length:Int) - 1))) fun x91=>
 bif !x91 then
 some x89
 else
 bif room (x89++[(v2,0,0)]).length 24 then
 some (x89++[(v2,0,0)])
 else
 none
theorem uW (k:Nat) (v0:Tyt) (v1:Tye) (v2:Int):xC (k+21) none 181 [.ro (List.map an v0),.ro (List.map aS v1),.lit (.int .i64 v2)]=ob (eg k v0 v1 v2) fun r=>some ((.ro (List.map aS r)),[]):=by
 rw [aH]
 unfold eg
 simp -implicitDefEqProofs only [Y5,UE,G5,rm,↓syP,syA,syD,simprocAttr,syE,ag,af,ae,syW,xQ,um,lL]
end Go.Ab
set_option maxRecDepth 100000
set_option linter.unusedVariables false
set_option linter.unusedSimpArgs false
namespace Go.Ab
open Go.Proofs
def cE (k:Nat) (v0:(Int×Int×Int×Int)) (v1:(List Int)) (v2:(Int×Int×Int×Int×Int×Int×Int)):Option ((List Int)×(Int×Int×Int×Int×Int×Int×Int)):=
 bif v2.1==5 then
 ob (lF v0 v1 v2) fun x6=>
 some x6
 else
 bif v2.1==6 then
 bif v2.1==6 then
 ob (i4 k v0 v1 v2) fun x7=>
 some x7
 else
 ob (aQ 8 v1) fun x8=>
 some (x8,v2)
 else
 bif v2.1==7 then
 ob (i4 k v0 v1 v2) fun x9=>
 some x9
 else
 ob (aQ 8 v1) fun x10=>
 some (x10,v2)
theorem ol (k:Nat) (v0_0 v0_1 v0_2 v0_3:Int) (v1:List Int) (v2_0 v2_1 v2_2 v2_3 v2_4 v2_5 v2_6:Int):xC (k+17) none 134 [.agg [.lit (.int .i64 v0_0),.lit (.int .i64 v0_1),.lit (.int .i64 v0_2),.lit (.int .i64 v0_3)],.ro (List.map (aF .u64) v1),.agg [.lit (.int .i64 v2_0),.lit (.int .i64 v2_1),.lit (.int .i64 v2_2),.lit (.int .u64 v2_3),.lit (.int .u64 v2_4),.lit (.int .u64 v2_5),.lit (.int .i64 v2_6)]]=ob (cE k (v0_0,v0_1,v0_2,v0_3) v1 (v2_0,v2_1,v2_2,v2_3,v2_4,v2_5,v2_6)) fun r=>some ((.tup [.ro (List.map (aF .u64) r.1),.agg [.lit (.int .i64 r.2.1),.lit (.int .i64 r.2.2.1),.lit (.int .i64 r.2.2.2.1),.lit (.int .u64 r.2.2.2.2.1),.lit (.int .u64 r.2.2.2.2.2.1),.lit (.int .u64 r.2.2.2.2.2.2.1),.lit (.int .i64 r.2.2.2.2.2.2.2)]]),[]):=by
 rw [aH]
 unfold cE
 simp -implicitDefEqProofs only [abn,UQ,G9,oL,↓syP,syA,syD,simprocAttr,syE,ag,af,ae,syW,xQ,CM,C0]
def ik (v0:(Int×Int×Int×Int)) (v1:(List Int)):Option Bool:=
 ob (bK v0) fun x20=>
 bif x20 then
 ob (cO v0) fun x21=>
 some ((↑v1.length:Int)==x21)
 else
 some false
theorem uj (k:Nat) (v0_0 v0_1 v0_2 v0_3:Int) (v1:List Int):xC (k+4) none 105 [.agg [.lit (.int .i64 v0_0),.lit (.int .i64 v0_1),.lit (.int .i64 v0_2),.lit (.int .i64 v0_3)],.ro (List.map (aF .u64) v1)]=ob (ik (v0_0,v0_1,v0_2,v0_3) v1) fun r=>some ((.lit (.bool r)),[]):=by
 rw [aH]
 unfold ik
 simp -implicitDefEqProofs only [abo,Vp,IW,oX,↓syP,syA,syD,simprocAttr,syE,ag,af,ae,syW,xQ,bG,dY]
def kX (v0:(Int×Int×Int×Int)) (v1:(List Int)) (v2:(Int×Int×Int×Int×Int×Int×Int)) (v3:Int):Option Bool:=
 ob (ik v0 v1) fun x26=>
 bif x26 then
 ob (aE v2) fun x27=>
 bif !x27 then
 bif v2.1==v3 then
 bif decide (0≤v2.2.1) then
 some (decide (v2.2.1<5))
 else
 some false
 else
 some false
 else
 some false
 else
 some false
theorem ul (k:Nat) (v0_0 v0_1 v0_2 v0_3:Int) (v1:List Int) (v2_0 v2_1 v2_2 v2_3 v2_4 v2_5 v2_6 v3:Int):xC (k+5) none 196 [.agg [.lit (.int .i64 v0_0),.lit (.int .i64 v0_1),.lit (.int .i64 v0_2),.lit (.int .i64 v0_3)],.ro (List.map (aF .u64) v1),.agg [.lit (.int .i64 v2_0),.lit (.int .i64 v2_1),.lit (.int .i64 v2_2),.lit (.int .u64 v2_3),.lit (.int .u64 v2_4),.lit (.int .u64 v2_5),.lit (.int .i64 v2_6)],.lit (.int .i64 v3)]=ob (kX (v0_0,v0_1,v0_2,v0_3) v1 (v2_0,v2_1,v2_2,v2_3,v2_4,v2_5,v2_6) v3) fun r=>some ((.lit (.bool r)),[]):=by
 rw [aH]
 unfold kX
 simp -implicitDefEqProofs only [Zd,Wy,Jw,IO,G4,JC,pz,↓syP,syA,syD,simprocAttr,syE,ag,af,ae,syW,xQ,dM,uj]
def iJ (v0:(Int×Int×Int×Int)) (v1:Int):Option Int:=
 ob (bK v0) fun x36=>
 bif !x36 then
 some ((-1))
 else
 ob (dH 0 0 (IntKind.i64.wrap (v0.1 - 1))) fun x37=>
 bif !x37 then
 some ((-1))
 else
 bif IntKind.u64.wrap v0.2.2.1 !=0 then
 some (IntKind.i64.wrap (6+IntKind.i64.wrap (v1.tmod (IntKind.u64.wrap v0.2.2.1))))
 else
 none
theorem AJ (k:Nat) (v0_0 v0_1 v0_2 v0_3 v1:Int):xC (k+12) none 203 [.agg [.lit (.int .i64 v0_0),.lit (.int .i64 v0_1),.lit (.int .i64 v0_2),.lit (.int .i64 v0_3)],.lit (.int .u64 v1)]=ob (iJ (v0_0,v0_1,v0_2,v0_3) v1) fun r=>some ((.lit (.int .i64 r)),[]):=by
 rw [aH]
 unfold iJ
 simp -implicitDefEqProofs only [TS,P9,pb,fp,aa4,X7,abt,T0,↓syP,syA,syD,simprocAttr,syE,ag,af,ae,syW,xQ,iX,bG]
def mA (v0:(Int×Int×Int×Int)) (v1:Int):Option Int:=
 ob (bK v0) fun x42=>
 bif !x42 then
 some ((-1))
 else
 ob (dH 0 0 (IntKind.i64.wrap (v0.1 - 1))) fun x43=>
 bif !x43 then
 some ((-1))
 else
 bif IntKind.u64.wrap v0.2.2.1 !=0 then
 some (IntKind.i64.wrap (IntKind.i64.wrap (6+v0.2.2.1)+IntKind.i64.wrap (v1.tmod (IntKind.u64.wrap v0.2.2.1))))
 else
 none
theorem AA (k:Nat) (v0_0 v0_1 v0_2 v0_3 v1:Int):xC (k+12) none 205 [.agg [.lit (.int .i64 v0_0),.lit (.int .i64 v0_1),.lit (.int .i64 v0_2),.lit (.int .i64 v0_3)],.lit (.int .u64 v1)]=ob (mA (v0_0,v0_1,v0_2,v0_3) v1) fun r=>some ((.lit (.int .i64 r)),[]):=by
 rw [aH]
 unfold mA
 simp -implicitDefEqProofs only [TS,P9,pb,fp,aaU,VW,acg,Vz,↓syP,syA,syD,simprocAttr,syE,ag,af,ae,syW,xQ,iX,bG]
def nd (v0:(Int×Int×Int×Int)) (v1:(List Int)) (v2:(Int×Int×Int×Int×Int×Int×Int)):Option ((List Int)×(Int×Int×Int×Int×Int×Int×Int)):=
 ob (aQ 8 v1) fun xU=>
 ob (kX v0 v1 v2 3) fun xw=>
 bif !xw then
 some (xU,v2)
 else
 bif decide (0≤v2.2.1∧v2.2.1.toNat<5) then
 bif v2.2.1.toNat==0 then
 ob (aD xU 5) fun xj=>
 some (xU,(v2.1,1,v2.2.2.1,v2.2.2.2.1,xj,v2.2.2.2.2.2))
 else
 bif v2.2.1.toNat==1 then
 ob (iJ v0 v2.2.2.2.2.1) fun xP=>
 ob (aD xU xP) fun xN=>
 bif IntKind.u64.wrap v0.2.2.1 !=0 then
 bif xN==IntKind.u64.wrap (IntKind.u64.wrap (v2.2.2.2.2.1.tdiv (IntKind.u64.wrap v0.2.2.1))*2) then
 some (xU,(v2.1,2,v2.2.2.1,v2.2.2.2.1,v2.2.2.2.2.1,xN,v2.2.2.2.2.2.2))
 else
 bif IntKind.u64.wrap v0.2.2.1 !=0 then
 ob (dE xN (IntKind.u64.wrap (IntKind.u64.wrap (v2.2.2.2.2.1.tdiv (IntKind.u64.wrap v0.2.2.1))*2))) fun x64=>
 bif decide (x64<0) then
 ob (aV (v2.1,v2.2.1,v2.2.2.1,v2.2.2.2.1,v2.2.2.2.2.1,xN,v2.2.2.2.2.2.2) 2 v2.2.2.2.1) fun xc=>
 some (xU,(xc.1,0,xc.2.2))
 else
 some (xU,(v2.1,0,v2.2.2.1,v2.2.2.2.1,v2.2.2.2.2.1,xN,v2.2.2.2.2.2.2))
 else
 none
 else
 none
 else
 bif v2.2.1.toNat==2 then
 ob (ee xU 5 v2.2.2.2.2.1 (IntKind.u64.wrap (v2.2.2.2.2.1+1))) fun x66=>
 bif x66.2 then
 some (x66.1,(v2.1,3,v2.2.2))
 else
 some (x66.1,(v2.1,0,v2.2.2))
 else
 bif v2.2.1.toNat==3 then
 ob (mA v0 v2.2.2.2.2.1) fun x67=>
 ob (bH xU x67 v2.2.2.2.1) fun x68=>
 some (x68,(v2.1,4,v2.2.2))
 else
 bif v2.2.1.toNat==4 then
 ob (iJ v0 v2.2.2.2.2.1) fun x69=>
 bif IntKind.u64.wrap v0.2.2.1 !=0 then
 ob (bH xU x69 (IntKind.u64.wrap (IntKind.u64.wrap (IntKind.u64.wrap (v2.2.2.2.2.1.tdiv (IntKind.u64.wrap v0.2.2.1))*2)+1))) fun x70=>
 ob (aV v2 1 v2.2.2.2.1) fun x71=>
 some (x70,(x71.1,0,x71.2.2))
 else
 none
 else
 none
 else
 none
theorem F5 (k:Nat) (v0_0 v0_1 v0_2 v0_3:Int) (v1:List Int) (v2_0 v2_1 v2_2 v2_3 v2_4 v2_5 v2_6:Int):xC (k+24) none 167 [.agg [.lit (.int .i64 v0_0),.lit (.int .i64 v0_1),.lit (.int .i64 v0_2),.lit (.int .i64 v0_3)],.ro (List.map (aF .u64) v1),.agg [.lit (.int .i64 v2_0),.lit (.int .i64 v2_1),.lit (.int .i64 v2_2),.lit (.int .u64 v2_3),.lit (.int .u64 v2_4),.lit (.int .u64 v2_5),.lit (.int .i64 v2_6)]]=ob (nd (v0_0,v0_1,v0_2,v0_3) v1 (v2_0,v2_1,v2_2,v2_3,v2_4,v2_5,v2_6)) fun r=>some ((.tup [.ro (List.map (aF .u64) r.1),.agg [.lit (.int .i64 r.2.1),.lit (.int .i64 r.2.2.1),.lit (.int .i64 r.2.2.2.1),.lit (.int .u64 r.2.2.2.2.1),.lit (.int .u64 r.2.2.2.2.2.1),.lit (.int .u64 r.2.2.2.2.2.2.1),.lit (.int .i64 r.2.2.2.2.2.2.2)]]),[]):=by
 rw [aH]
 unfold nd
 simp -implicitDefEqProofs only [Zg,WQ,aaf,Vl,acT,Yl,acj,Up,abJ,UF,abE,Uu,acY,Xl,Y1,Vy,↓syP,syA,syD,simprocAttr,syE,ag,af,ae,syW,xQ,bO,dN,ga,eE,eN,ul,AJ,AA]
def lh (v0:(Int×Int×Int×Int)) (v1:Int):Option Int:=
 bif IntKind.u64.wrap v0.2.2.1 !=0 then
 some (IntKind.u64.wrap (IntKind.u64.wrap (IntKind.u64.wrap (v1.tdiv (IntKind.u64.wrap v0.2.2.1))*2)+1))
 else
 none
theorem Gk (k:Nat) (v0_0 v0_1 v0_2 v0_3 v1:Int):xC (k+1) none 204 [.agg [.lit (.int .i64 v0_0),.lit (.int .i64 v0_1),.lit (.int .i64 v0_2),.lit (.int .i64 v0_3)],.lit (.int .u64 v1)]=ob (lh (v0_0,v0_1,v0_2,v0_3) v1) fun r=>some ((.lit (.int .u64 r)),[]):=by
 rw [aH]
 unfold lh
 simp -implicitDefEqProofs only [acS,WT,↓syP,syA,syD,simprocAttr,syE,ag,af,ae,syW,xQ]
def nc (v0:(Int×Int×Int×Int)) (v1:(List Int)) (v2:(Int×Int×Int×Int×Int×Int×Int)):Option ((List Int)×(Int×Int×Int×Int×Int×Int×Int)):=
 ob (aQ 8 v1) fun xL=>
 ob (kX v0 v1 v2 4) fun xb=>
 bif !xb then
 some (xL,v2)
 else
 bif v2.2.1==0 then
 ob (aD xL 4) fun x111=>
 some (xL,(v2.1,1,v2.2.2.1,v2.2.2.2.1,x111,v2.2.2.2.2.2))
 else
 bif v2.2.1==1 then
 ob (iJ v0 v2.2.2.2.2.1) fun x112=>
 ob (aD xL x112) fun xp=>
 ob (lh v0 v2.2.2.2.2.1) fun x114=>
 ob (dE xp x114) fun x115=>
 bif x115==0 then
 some (xL,(v2.1,2,v2.2.2.1,v2.2.2.2.1,v2.2.2.2.2.1,xp,v2.2.2.2.2.2.2))
 else
 bif decide (x115<0) then
 ob (aV (v2.1,0,v2.2.2.1,v2.2.2.2.1,v2.2.2.2.2.1,xp,v2.2.2.2.2.2.2) 3 0) fun x116=>
 some (xL,x116)
 else
 some (xL,(v2.1,0,v2.2.2.1,v2.2.2.2.1,v2.2.2.2.2.1,xp,v2.2.2.2.2.2.2))
 else
 bif v2.2.1==2 then
 ob (ee xL 4 v2.2.2.2.2.1 (IntKind.u64.wrap (v2.2.2.2.2.1+1))) fun x117=>
 bif x117.2 then
 some (x117.1,(v2.1,3,v2.2.2))
 else
 some (x117.1,(v2.1,0,v2.2.2))
 else
 bif v2.2.1==3 then
 ob (mA v0 v2.2.2.2.2.1) fun x118=>
 ob (aD xL x118) fun x119=>
 some (xL,(v2.1,4,v2.2.2.1,x119,v2.2.2.2.2))
 else
 ob (iJ v0 v2.2.2.2.2.1) fun x120=>
 ob (lh v0 v2.2.2.2.2.1) fun x121=>
 ob (bH xL x120 (IntKind.u64.wrap (x121+1))) fun x122=>
 ob (aV v2 1 v2.2.2.2.1) fun x123=>
 some (x122,x123)
theorem Gm (k:Nat) (v0_0 v0_1 v0_2 v0_3:Int) (v1:List Int) (v2_0 v2_1 v2_2 v2_3 v2_4 v2_5 v2_6:Int):xC (k+13) none 168 [.agg [.lit (.int .i64 v0_0),.lit (.int .i64 v0_1),.lit (.int .i64 v0_2),.lit (.int .i64 v0_3)],.ro (List.map (aF .u64) v1),.agg [.lit (.int .i64 v2_0),.lit (.int .i64 v2_1),.lit (.int .i64 v2_2),.lit (.int .u64 v2_3),.lit (.int .u64 v2_4),.lit (.int .u64 v2_5),.lit (.int .i64 v2_6)]]=ob (nc (v0_0,v0_1,v0_2,v0_3) v1 (v2_0,v2_1,v2_2,v2_3,v2_4,v2_5,v2_6)) fun r=>some ((.tup [.ro (List.map (aF .u64) r.1),.agg [.lit (.int .i64 r.2.1),.lit (.int .i64 r.2.2.1),.lit (.int .i64 r.2.2.2.1),.lit (.int .u64 r.2.2.2.2.1),.lit (.int .u64 r.2.2.2.2.2.1),.lit (.int .u64 r.2.2.2.2.2.2.1),.lit (.int .i64 r.2.2.2.2.2.2.2)]]),[]):=by
 rw [aH]
 unfold nc
 simp -implicitDefEqProofs only [aap,WS,Is,pS,↓syP,syA,syD,simprocAttr,syE,ag,af,ae,syW,xQ,bO,dN,ga,eE,eN,ul,AJ,AA,Gk]
def bD (v0:(Int×Int×Int×Int)) (v1:(List Int)) (v2:(Int×Int×Int×Int×Int×Int×Int)):Option ((List Int)×(Int×Int×Int×Int×Int×Int×Int)):=
 bif v2.1==3 then
 ob (nd v0 v1 v2) fun x142=>
 some x142
 else
 bif v2.1==4 then
 ob (nc v0 v1 v2) fun x143=>
 some x143
 else
 ob (aQ 8 v1) fun x144=>
 some (x144,v2)
theorem mL (k:Nat) (v0_0 v0_1 v0_2 v0_3:Int) (v1:List Int) (v2_0 v2_1 v2_2 v2_3 v2_4 v2_5 v2_6:Int):xC (k+26) none 135 [.agg [.lit (.int .i64 v0_0),.lit (.int .i64 v0_1),.lit (.int .i64 v0_2),.lit (.int .i64 v0_3)],.ro (List.map (aF .u64) v1),.agg [.lit (.int .i64 v2_0),.lit (.int .i64 v2_1),.lit (.int .i64 v2_2),.lit (.int .u64 v2_3),.lit (.int .u64 v2_4),.lit (.int .u64 v2_5),.lit (.int .i64 v2_6)]]=ob (bD (v0_0,v0_1,v0_2,v0_3) v1 (v2_0,v2_1,v2_2,v2_3,v2_4,v2_5,v2_6)) fun r=>some ((.tup [.ro (List.map (aF .u64) r.1),.agg [.lit (.int .i64 r.2.1),.lit (.int .i64 r.2.2.1),.lit (.int .i64 r.2.2.2.1),.lit (.int .u64 r.2.2.2.2.1),.lit (.int .u64 r.2.2.2.2.2.1),.lit (.int .u64 r.2.2.2.2.2.2.1),.lit (.int .i64 r.2.2.2.2.2.2.2)]]),[]):=by
 rw [aH]
 unfold bD
 simp -implicitDefEqProofs only [abc,XP,↓syP,syA,syD,simprocAttr,syE,ag,af,ae,syW,xQ,F5,Gm]
end Go.Ab
set_option maxRecDepth 100000
set_option linter.unusedVariables false
set_option linter.unusedSimpArgs false
namespace Go.Ab
open Go.Proofs
def gf (k:Nat) (v0:(Int×Int×Int×Int)) (v1:Tyt) (v2:(List Int)) (v3:Int) (v4:Tyw):Option Bool:=
 ob (bK v0) fun x5=>
 bif x5 then
 ob (cO v0) fun x6=>
 bif (↑v2.length:Int)==x6 then
 ob (cF (k+4) v1) fun x7=>
 bif x7 then
 bif decide (0≤v3) then
 bif decide (v3<v0.1) then
 bif decide (0≤v4.1) then
 bif decide (v4.1<16) then
 ob (eF (k+3) v1 v4.2.1) fun x8=>
 some x8
 else
 some false
 else
 some false
 else
 some false
 else
 some false
 else
 some false
 else
 some false
 else
 some false
theorem uc (k:Nat) (v0_0 v0_1 v0_2 v0_3:Int) (v1:Tyt) (v2:List Int) (v3 v4_0:Int) (v4_1:Tye) (v4_2_0 v4_2_1 v4_2_2 v4_2_3 v4_2_4 v4_2_5 v4_2_6 v4_3 v4_4:Int):xC (k+24) none 95 [.agg [.lit (.int .i64 v0_0),.lit (.int .i64 v0_1),.lit (.int .i64 v0_2),.lit (.int .i64 v0_3)],.ro (List.map an v1),.ro (List.map (aF .u64) v2),.lit (.int .i64 v3),.agg [.lit (.int .i64 v4_0),.ro (List.map aS v4_1),.lit (.int .i64 v4_2_0),.lit (.int .i64 v4_2_1),.lit (.int .i64 v4_2_2),.lit (.int .u64 v4_2_3),.lit (.int .u64 v4_2_4),.lit (.int .u64 v4_2_5),.lit (.int .i64 v4_2_6),.lit (.int .i64 v4_3),.lit (.int .i64 v4_4)]]=ob (gf k (v0_0,v0_1,v0_2,v0_3) v1 v2 v3 (v4_0,v4_1,(v4_2_0,v4_2_1,v4_2_2,v4_2_3,v4_2_4,v4_2_5,v4_2_6),v4_3,v4_4)) fun r=>some ((.lit (.bool r)),[]):=by
 rw [aH]
 unfold gf
 simp -implicitDefEqProofs only [ad3,ac6,Oo,Pd,N3,OW,Ol,Oa,O8,uC,↓syP,syA,syD,simprocAttr,syE,ag,af,ae,syW,xQ,cD,bG,dY,lL]
def bl (k:Nat) (v0:(List Int)) (v1:Int)  : Nat→Int→Option Int
 | 0,_=>none
 | n+1,sV=>
 bif decide (sV<(↑v0.length:Int)) then
 ob (idx v0 sV) fun x22=>
 bif v1==x22 then
 some (sV)
 else
 bl k v0 v1  n (IntKind.i64.wrap (sV+(1:Int)))
 else
 some ((-1:Int))
theorem io (k:Nat) (v0:List Int) (v1:Int):∀ (n:Nat) (sV:Int) ⦃j18:V⦄,rt none (itX (xX (xS k) 61 0 k false) Et (0) (ap (xX (xS k) 61 0 k false) (am (xS k).P Tryz.f61) EY) n ⟨[.ro (List.map (aF IntKind.i64) v0),.lit (.int .i64 v1),uu,uu,.lit (.int .i64 (0:Int)),j18,.ro (List.map (aF IntKind.i64) v0),.lit (.int .i64 (↑v0.length:Int)),.lit (.int .i64 sV),.junk,.junk,.junk,.junk,.junk,.junk,.junk,.junk,.junk,.junk],[]⟩)=ob (bl k v0 v1  n sV) fun r=>some ((.lit (.int .i64 r)),[]):=by
 intro n
 induction n with
 | zero=>intros;rfl
 | succ n ih=>
  intro sV j18
  rw [bl]
  simp -implicitDefEqProofs only [ac8,Zi,acP,IN,m7,↓syP,syA,syD,simprocAttr,syE,ag,af,ae,syW,xQ,N8,ih]
def cR (k:Nat) (v0:(List Int)) (v1:Int):Option Int:=
 bl k v0 v1 k 0
theorem fg (k:Nat) (v0:List Int) (v1:Int):xC (k+1) none 61 [.ro (List.map (aF .i64) v0),.lit (.int .i64 v1)]=ob (cR k v0 v1) fun r=>some ((.lit (.int .i64 r)),[]):=by
 rw [aH]
 unfold cR
 simp -implicitDefEqProofs only [ac8,Zi,acP,IN,m7,↓syP,syA,syD,simprocAttr,syE,ag,af,ae,syW,xQ,io k v0 v1]
def eX (v0:(Int×Int×Int×Int×Int×Int×Int)):Option Bool:=
 bif v0.1==5 then
 ob (aE v0) fun x30=>
 bif !x30 then
 some (v0.2.1==3)
 else
 some false
 else
 some false
theorem uY (k:Nat) (v0_0 v0_1 v0_2 v0_3 v0_4 v0_5 v0_6:Int):xC (k+2) none 69 [.agg [.lit (.int .i64 v0_0),.lit (.int .i64 v0_1),.lit (.int .i64 v0_2),.lit (.int .u64 v0_3),.lit (.int .u64 v0_4),.lit (.int .u64 v0_5),.lit (.int .i64 v0_6)]]=ob (eX (v0_0,v0_1,v0_2,v0_3,v0_4,v0_5,v0_6)) fun r=>some ((.lit (.bool r)),[]):=by
 rw [aH]
 unfold eX
 simp -implicitDefEqProofs only [ael,adk,N6,Oj,uy,↓syP,syA,syD,simprocAttr,syE,ag,af,ae,syW,xQ,dM]
def eU (v0:Tyw):Option Bool:=
 bif v0.1==8 then
 ob (eX v0.2.2.1) fun xq=>
 some xq
 else
 some false
theorem wE (k:Nat) (v0_0:Int) (v0_1:Tye) (v0_2_0 v0_2_1 v0_2_2 v0_2_3 v0_2_4 v0_2_5 v0_2_6 v0_3 v0_4:Int):xC (k+3) none 31 [.agg [.lit (.int .i64 v0_0),.ro (List.map aS v0_1),.lit (.int .i64 v0_2_0),.lit (.int .i64 v0_2_1),.lit (.int .i64 v0_2_2),.lit (.int .u64 v0_2_3),.lit (.int .u64 v0_2_4),.lit (.int .u64 v0_2_5),.lit (.int .i64 v0_2_6),.lit (.int .i64 v0_3),.lit (.int .i64 v0_4)]]=ob (eU (v0_0,v0_1,(v0_2_0,v0_2_1,v0_2_2,v0_2_3,v0_2_4,v0_2_5,v0_2_6),v0_3,v0_4)) fun r=>some ((.lit (.bool r)),[]):=by
 rw [aH]
 unfold eU
 simp -implicitDefEqProofs only [adO,adb,OE,uF,↓syP,syA,syD,simprocAttr,syE,ag,af,ae,syW,xQ,uY]
def lj (v0:Int):Option Tyw:=
 ob (aG 1 v0 0) fun x36=>
 some (0,[],x36,0,0)
theorem m8 (k:Nat) (v0:Int):xC (k+2) none 60 [.lit (.int .i64 v0)]=ob (lj v0) fun r=>some ((.agg [.lit (.int .i64 r.1),.ro (List.map aS r.2.1),.lit (.int .i64 r.2.2.1.1),.lit (.int .i64 r.2.2.1.2.1),.lit (.int .i64 r.2.2.1.2.2.1),.lit (.int .u64 r.2.2.1.2.2.2.1),.lit (.int .u64 r.2.2.1.2.2.2.2.1),.lit (.int .u64 r.2.2.1.2.2.2.2.2.1),.lit (.int .i64 r.2.2.1.2.2.2.2.2.2),.lit (.int .i64 r.2.2.2.1),.lit (.int .i64 r.2.2.2.2)]),[]):=by
 rw [aH]
 unfold lj
 simp -implicitDefEqProofs only [aey,adG,↓syP,syA,syD,simprocAttr,syE,ag,af,ae,syW,xQ,iS]
 all_goals simp -implicitDefEqProofs only [List.map_nil]
end Go.Ab
set_option maxRecDepth 100000
set_option linter.unusedVariables false
set_option linter.unusedSimpArgs false
namespace Go.Ab
open Go.Proofs
def gP (k:Nat) (v0:(Int×Int×Int×Int)) (v1:Tyt) (v2:(List Int)) (v3:Tys):Option Bool:=
 ob (bK v0) fun x6=>
 bif x6 then
 ob (cO v0) fun x7=>
 bif (↑v2.length:Int)==x7 then
 ob (cF (k+4) v1) fun x8=>
 bif x8 then
 bif decide (0≤v3.1) then
 bif decide (v3.1<6) then
 bif decide (0<(↑v3.2.1.length:Int)) then
 ob (idx v3.2.1 0) fun x9=>
 bif decide (0≤x9) then
 ob (idx v3.2.1 0) fun x10=>
 some (decide (x10<(↑v1.length:Int)))
 else
 some false
 else
 some false
 else
 some false
 else
 some false
 else
 some false
 else
 some false
 else
 some false
theorem oo (k:Nat) (v0_0 v0_1 v0_2 v0_3:Int) (v1:Tyt) (v2:List Int) (v3_0:Int) (v3_1:List Int) (v3_2_0 v3_2_1 v3_2_2 v3_2_3 v3_2_4 v3_2_5 v3_2_6:Int):xC (k+24) none 85 [.agg [.lit (.int .i64 v0_0),.lit (.int .i64 v0_1),.lit (.int .i64 v0_2),.lit (.int .i64 v0_3)],.ro (List.map an v1),.ro (List.map (aF .u64) v2),.agg [.lit (.int .i64 v3_0),.ro (List.map (aF .i64) v3_1),.lit (.int .i64 v3_2_0),.lit (.int .i64 v3_2_1),.lit (.int .i64 v3_2_2),.lit (.int .u64 v3_2_3),.lit (.int .u64 v3_2_4),.lit (.int .u64 v3_2_5),.lit (.int .i64 v3_2_6)]]=ob (gP k (v0_0,v0_1,v0_2,v0_3) v1 v2 (v3_0,v3_1,(v3_2_0,v3_2_1,v3_2_2,v3_2_3,v3_2_4,v3_2_5,v3_2_6))) fun r=>some ((.lit (.bool r)),[]):=by
 rw [aH]
 unfold gP
 simp -implicitDefEqProofs only [aec,adH,Ph,Pi,OV,Oy,Of,O2,Oh,uf,↓syP,syA,syD,simprocAttr,syE,ag,af,ae,syW,xQ,cD,bG,dY]
def i7 (k : Nat) (v0 : (Int × Int × Int × Int)) (v1 : (List (Int × List Int))) (v2 : (List Int)) (v3 : Int) (v4 : (Int × List Int × Int × Int × Int × Int × Int × Int × Int)) : Option ((List Int) × (Int × List Int × Int × Int × Int × Int × Int × Int × Int) × (List (Int × Int × Int))) :=
 ob (aQ 8 v2) fun xT =>
 ob (aQ 8 v4.2.1) fun xE =>
 ob (gP (k + 15) v0 v1 v2 v4) fun x40 =>
 bif !x40 then
 some (xT,(v4.1,xE,v4.2.2),[])
 else
 ob (idx xE 0) fun xe =>
 bif v4.1 == 0 then
 ob (aD xT 3) fun x42 =>
 bif x42 != 0 then
 bif room 1 24 then
 bif decide (1 ≤ (↑xE.length : Int)) then
 some (xT,(0,(List.drop (Int.toNat 1) xE),(0,0,0,0,0,0,0)),([(1,xe,v3)]))
 else
 none
 else
 none
 else
 some (xT,(1,xE,v4.2.2),[])
 else
 bif v4.1 == 1 then
 ob (d9 xT 0 1) fun x43 =>
 ob (aG 3 v3 (IntKind.u64.wrap xe)) fun x44 =>
 some (x43.1,(2,xE,x44),[])
 else
 bif v4.1 == 2 then
 bif v4.2.2.1 == 3 then
 ob (bD v0 xT v4.2.2) fun xi =>
 ob (aE xi.2) fun xr =>
 bif !xr then
 some (xi.1,(v4.1,xE,xi.2),[])
 else
 bif xi.2.2.2.2.2.2.2 != 2 then
 bif room 1 24 then
 some (xi.1,(3,xE,xi.2),([(0,xe,v3)]))
 else
 none
 else
 some (xi.1,(5,xE,xi.2),[])
 else
 bif v4.2.2.1 == 4 then
 ob (bD v0 xT v4.2.2) fun xh =>
 ob (aE xh.2) fun x48 =>
 bif !x48 then
 some (xh.1,(v4.1,xE,xh.2),[])
 else
 bif xh.2.2.2.2.2.2.2 != 2 then
 bif room 1 24 then
 some (xh.1,(3,xE,xh.2),([(0,xe,v3)]))
 else
 none
 else
 some (xh.1,(5,xE,xh.2),[])
 else
 ob (cE (k + 20) v0 xT v4.2.2) fun xn =>
 ob (aE xn.2) fun x50 =>
 bif !x50 then
 some (xn.1,(v4.1,xE,xn.2),[])
 else
 bif xn.2.2.2.2.2.2.2 != 2 then
 bif room 1 24 then
 some (xn.1,(3,xE,xn.2),([(0,xe,v3)]))
 else
 none
 else
 some (xn.1,(5,xE,xn.2),[])
 else
 bif v4.1 == 3 then
 ob (aD xT 1) fun x51 =>
 bif x51 != 0 then
 bif decide (1 ≤ (↑xE.length : Int)) then
 some (xT,(0,(List.drop (Int.toNat 1) xE),(0,0,0,0,0,0,0)),[])
 else
 none
 else
 ob (aG 6 v3 0) fun x52 =>
 some (xT,(4,xE,x52),[])
 else
 bif v4.1 == 4 then
 bif v4.2.2.1 == 3 then
 ob (bD v0 xT v4.2.2) fun x53 =>
 ob (aE x53.2) fun xV =>
 bif xV then
 bif decide (1 ≤ (↑xE.length : Int)) then
 some (x53.1,(0,(List.drop (Int.toNat 1) xE),(0,0,0,0,0,0,0)),[])
 else
 none
 else
 some (x53.1,(v4.1,xE,x53.2),[])
 else
 bif v4.2.2.1 == 4 then
 ob (bD v0 xT v4.2.2) fun x55 =>
 ob (aE x55.2) fun x56 =>
 bif x56 then
 bif decide (1 ≤ (↑xE.length : Int)) then
 some (x55.1,(0,(List.drop (Int.toNat 1) xE),(0,0,0,0,0,0,0)),[])
 else
 none
 else
 some (x55.1,(v4.1,xE,x55.2),[])
 else
 ob (cE (k + 20) v0 xT v4.2.2) fun xo =>
 ob (aE xo.2) fun x58 =>
 bif x58 then
 bif decide (1 ≤ (↑xE.length : Int)) then
 some (xo.1,(0,(List.drop (Int.toNat 1) xE),(0,0,0,0,0,0,0)),[])
 else
 none
 else
 some (xo.1,(v4.1,xE,xo.2),[])
 else
 bif v4.1 == 5 then
 ob (d9 xT 0 18446744073709551615) fun xU =>
 bif room 1 24 then
 bif xU.2 == 1 then
 bif room 2 24 then
 bif decide (1 ≤ (↑xE.length : Int)) then
 some (xU.1,(0,(List.drop (Int.toNat 1) xE),(0,0,0,0,0,0,0)),([(1,xe,v3),(5,0,v3)]))
 else
 none
 else
 none
 else
 bif decide (1 ≤ (↑xE.length : Int)) then
 some (xU.1,(0,(List.drop (Int.toNat 1) xE),(0,0,0,0,0,0,0)),([(1,xe,v3)]))
 else
 none
 else
 none
 else
 none
theorem wb (k : Nat) (v0_0 v0_1 v0_2 v0_3 : Int) (v1 : List (Int × List Int)) (v2 : List Int) (v3 v4_0 : Int) (v4_1 : List Int) (v4_2_0 v4_2_1 v4_2_2 v4_2_3 v4_2_4 v4_2_5 v4_2_6 : Int) : xC (k + 40) none 86 [.agg [.lit (.int .i64 v0_0),.lit (.int .i64 v0_1),.lit (.int .i64 v0_2),.lit (.int .i64 v0_3)],.ro (List.map an v1),.ro (List.map (aF .u64) v2),.lit (.int .i64 v3),.agg [.lit (.int .i64 v4_0),.ro (List.map (aF .i64) v4_1),.lit (.int .i64 v4_2_0),.lit (.int .i64 v4_2_1),.lit (.int .i64 v4_2_2),.lit (.int .u64 v4_2_3),.lit (.int .u64 v4_2_4),.lit (.int .u64 v4_2_5),.lit (.int .i64 v4_2_6)]] = ob (i7 k (v0_0,v0_1,v0_2,v0_3) v1 v2 v3 (v4_0,v4_1,(v4_2_0,v4_2_1,v4_2_2,v4_2_3,v4_2_4,v4_2_5,v4_2_6))) fun r => some ((.tup [.ro (List.map (aF .u64) r.1),.agg [.lit (.int .i64 r.2.1.1),.ro (List.map (aF .i64) r.2.1.2.1),.lit (.int .i64 r.2.1.2.2.1),.lit (.int .i64 r.2.1.2.2.2.1),.lit (.int .i64 r.2.1.2.2.2.2.1),.lit (.int .u64 r.2.1.2.2.2.2.2.1),.lit (.int .u64 r.2.1.2.2.2.2.2.2.1),.lit (.int .u64 r.2.1.2.2.2.2.2.2.2.1),.lit (.int .i64 r.2.1.2.2.2.2.2.2.2.2)],.ro (List.map aS r.2.2)]),[]) := by
  rw [aH]
  unfold i7
  simp -implicitDefEqProofs only [aeC,ac5,Y4,Yc,aaF,U2,Y9,Yp,Jn,I0,pn,oZ,acC,W6,aa7,XT,YZ,V6,acU,Wb,aba,VZ,acx,VR,↓syP,syA,syD,simprocAttr,syE,ag,af,ae,syW,xQ,bO,ux,iS,dM,ol,mL,oo]
  all_goals simp -implicitDefEqProofs only [List.map_nil]
def eT (v0:Tys):Option Bool:=
 some (v0.1 !=0)
theorem wy (k:Nat) (v0_0:Int) (v0_1:List Int) (v0_2_0 v0_2_1 v0_2_2 v0_2_3 v0_2_4 v0_2_5 v0_2_6:Int):xC (k+1) none 28 [.agg [.lit (.int .i64 v0_0),.ro (List.map (aF .i64) v0_1),.lit (.int .i64 v0_2_0),.lit (.int .i64 v0_2_1),.lit (.int .i64 v0_2_2),.lit (.int .u64 v0_2_3),.lit (.int .u64 v0_2_4),.lit (.int .u64 v0_2_5),.lit (.int .i64 v0_2_6)]]=ob (eT (v0_0,v0_1,(v0_2_0,v0_2_1,v0_2_2,v0_2_3,v0_2_4,v0_2_5,v0_2_6))) fun r=>some ((.lit (.bool r)),[]):=by
 rw [aH]
 unfold eT
 simp -implicitDefEqProofs only [aer,adD,↓syP,syA,syD,simprocAttr,syE,ag,af,ae,syW,xQ]
def fE (v0:(List Int)):Option Tys:=
 ob (aQ 8 v0) fun x86=>
 some (0,x86,(0,0,0,0,0,0,0))
theorem kT (k:Nat) (v0:List Int):xC (k+2) none 63 [.ro (List.map (aF .i64) v0)]=ob (fE v0) fun r=>some ((.agg [.lit (.int .i64 r.1),.ro (List.map (aF .i64) r.2.1),.lit (.int .i64 r.2.2.1),.lit (.int .i64 r.2.2.2.1),.lit (.int .i64 r.2.2.2.2.1),.lit (.int .u64 r.2.2.2.2.2.1),.lit (.int .u64 r.2.2.2.2.2.2.1),.lit (.int .u64 r.2.2.2.2.2.2.2.1),.lit (.int .i64 r.2.2.2.2.2.2.2.2)]),[]):=by
 rw [aH]
 unfold fE
 simp -implicitDefEqProofs only [ad7,adx,↓syP,syA,syD,simprocAttr,syE,ag,af,ae,syW,xQ]
end Go.Ab
set_option maxRecDepth 100000
set_option linter.unusedVariables false
set_option linter.unusedSimpArgs false
namespace Go.Ab
open Go.Proofs
def wd {β:Type} (k:Nat) (c:Int×Int×Int×Int) (m:List Int) (f:Int×Int×Int×Int×Int×Int×Int) (K:List Int×(Int×Int×Int×Int×Int×Int×Int)→Option β):Option β:=
 (bif f.1==0 then (bif f.1==0 then ob (fG (k+31) c m f) K else (bif f.1==3 then (bif f.1==3 then ob (bD c m f) K else ob (cE (k+40) c m f) K) else (bif f.1==4 then ob (bD c m f) K else ob (cE (k+40) c m f) K))) else (bif f.1==1 then (bif f.1==1 then ob (fG (k+31) c m f) K else (bif f.1==3 then (bif f.1==3 then ob (bD c m f) K else ob (cE (k+40) c m f) K) else (bif f.1==4 then ob (bD c m f) K else ob (cE (k+40) c m f) K))) else (bif f.1==2 then ob (fG (k+31) c m f) K else (bif f.1==3 then (bif f.1==3 then ob (bD c m f) K else ob (cE (k+40) c m f) K) else (bif f.1==4 then ob (bD c m f) K else ob (cE (k+40) c m f) K)))))
def mj (k : Nat) (v0 : (Int × Int × Int × Int)) (v1 : (List (Int × List Int))) (v2 : (List Int)) (v3 : Int) (v4 : (Int × List (Int × Int × Int) × (Int × Int × Int × Int × Int × Int × Int) × Int × Int)) (v5 : Int) : Option ((List Int) × (Int × List (Int × Int × Int) × (Int × Int × Int × Int × Int × Int × Int) × Int × Int) × (List (Int × Int × Int))) :=
 ob (aQ 8 v2) fun xD =>
 ob (aQ 24 v4.2.1) fun xB =>
 ob (gf (k + 35) v0 v1 v2 v3 v4) fun x472 =>
 bif !x472 then
 some (xD,(v4.1,xB,v4.2.2),[])
 else
 bif v4.1 == 0 then
 wd k v0 xD v4.2.2.1 fun xf =>
 ob (aE xf.2) fun x474 =>
 bif !x474 then
 some (xf.1,(v4.1,xB,xf.2,v4.2.2.2),[])
 else
 bif xf.2.2.2.2.2.2.2 != 1 then
 some (xf.1,(1,xB,(0,0,0,0,0,0,0),v4.2.2.2),[])
 else
 ob (eg (k + 36) v1 xB (IntKind.i64.wrap xf.2.2.2.2.1)) fun x475 =>
 bif room 1 24 then
 some (xf.1,(9,x475,(0,0,0,0,0,0,0),v4.2.2.2),([(2,IntKind.i64.wrap xf.2.2.2.2.1,v3)]))
 else
 none
 else
 bif v4.1 == 1 then
 ob (d9 xD 1 1) fun x518 =>
 ob (aG 4 v3 0) fun x519 =>
 some (x518.1,(2,xB,x519,v0.2.2.2,v4.2.2.2.2),[])
 else
 bif v4.1 == 2 then
 ob (fW v5 v3 v0.1) fun x520 =>
 wd k v0 xD v4.2.2.1 fun xW =>
 ob (aE xW.2) fun x522 =>
 bif !x522 then
 some (xW.1,(v4.1,xB,xW.2,v4.2.2.2),[])
 else
 bif xW.2.2.2.2.2.2.2 == 1 then
 some (xW.1,(4,xB,xW.2,v4.2.2.2),[])
 else
 bif v4.1 == 2 then
 bif decide (0 ≤ x520) then
 ob (aG 2 x520 0) fun x523 =>
 some (xW.1,(3,xB,x523,v4.2.2.2),[])
 else
 bif decide (v4.2.2.2.1 ≤ 0) then
 ob (aG 5 v3 0) fun x524 =>
 some (xW.1,(5,xB,x524,v4.2.2.2),[])
 else
 ob (aG 4 v3 0) fun x525 =>
 some (xW.1,(2,xB,x525,(IntKind.i64.wrap (v4.2.2.2.1 - 1)),v4.2.2.2.2),[])
 else
 bif decide (v4.2.2.2.1 ≤ 0) then
 ob (aG 5 v3 0) fun x526 =>
 some (xW.1,(5,xB,x526,v4.2.2.2),[])
 else
 ob (aG 4 v3 0) fun x527 =>
 some (xW.1,(2,xB,x527,(IntKind.i64.wrap (v4.2.2.2.1 - 1)),v4.2.2.2.2),[])
 else
 bif v4.1 == 3 then
 ob (fW v5 v3 v0.1) fun x626 =>
 wd k v0 xD v4.2.2.1 fun xZ =>
 ob (aE xZ.2) fun x628 =>
 bif !x628 then
 some (xZ.1,(v4.1,xB,xZ.2,v4.2.2.2),[])
 else
 bif xZ.2.2.2.2.2.2.2 == 1 then
 some (xZ.1,(4,xB,xZ.2,v4.2.2.2),[])
 else
 bif v4.1 == 2 then
 bif decide (0 ≤ x626) then
 ob (aG 2 x626 0) fun x629 =>
 some (xZ.1,(3,xB,x629,v4.2.2.2),[])
 else
 bif decide (v4.2.2.2.1 ≤ 0) then
 ob (aG 5 v3 0) fun x630 =>
 some (xZ.1,(5,xB,x630,v4.2.2.2),[])
 else
 ob (aG 4 v3 0) fun x631 =>
 some (xZ.1,(2,xB,x631,(IntKind.i64.wrap (v4.2.2.2.1 - 1)),v4.2.2.2.2),[])
 else
 bif decide (v4.2.2.2.1 ≤ 0) then
 ob (aG 5 v3 0) fun x632 =>
 some (xZ.1,(5,xB,x632,v4.2.2.2),[])
 else
 ob (aG 4 v3 0) fun x633 =>
 some (xZ.1,(2,xB,x633,(IntKind.i64.wrap (v4.2.2.2.1 - 1)),v4.2.2.2.2),[])
 else
 bif v4.1 == 4 then
 ob (d9 xD 1 18446744073709551615) fun x732 =>
 bif x732.2 == 1 then
 ob (aG 6 v3 0) fun x733 =>
 ob (eg (k + 36) v1 xB (IntKind.i64.wrap v4.2.2.1.2.2.2.1)) fun x734 =>
 bif room 1 24 then
 some (x732.1,(14,x734,x733,v4.2.2.2),([(2,IntKind.i64.wrap v4.2.2.1.2.2.2.1,v3)]))
 else
 none
 else
 ob (eg (k + 36) v1 xB (IntKind.i64.wrap v4.2.2.1.2.2.2.1)) fun x735 =>
 bif room 1 24 then
 some (x732.1,(9,x735,(0,0,0,0,0,0,0),v4.2.2.2),([(2,IntKind.i64.wrap v4.2.2.1.2.2.2.1,v3)]))
 else
 none
 else
 bif v4.1 == 5 then
 wd k v0 xD v4.2.2.1 fun x736 =>
 ob (aE x736.2) fun x737 =>
 some (x736.1,(6,xB,x736.2,v4.2.2.2),[])
 else
 bif v4.1 == 6 then
 ob (d9 xD 1 18446744073709551615) fun x766 =>
 some (x766.1,(7,xB,v4.2.2.1,v4.2.2.2.1,0),[])
 else
 bif v4.1 == 7 then
 bif decide (v4.2.2.2.2 < 0) then
 some (xD,(8,xB,(v4.2.2.1.1,v4.2.2.1.2.1,v4.2.2.1.2.2.1,0,v4.2.2.1.2.2.2.2),v4.2.2.2.1,0),[])
 else
 bif decide (IntKind.i64.wrap (2 + IntKind.i64.wrap (2 * v0.1)) ≤ v4.2.2.2.2) then
 some (xD,(8,xB,(v4.2.2.1.1,v4.2.2.1.2.1,v4.2.2.1.2.2.1,0,v4.2.2.1.2.2.2.2),v4.2.2.2.1,0),[])
 else
 bif v4.2.2.2.2 == 0 then
 ob (aD xD 4) fun x767 =>
 bif IntKind.i64.wrap (v4.2.2.2.2 + 1) == IntKind.i64.wrap (2 + IntKind.i64.wrap (2 * v0.1)) then
 some (xD,(8,xB,(v4.2.2.1.1,v4.2.2.1.2.1,v4.2.2.1.2.2.1,0,v4.2.2.1.2.2.2.2),v4.2.2.2.1,0),[])
 else
 some (xD,(v4.1,xB,(v4.2.2.1.1,v4.2.2.1.2.1,v4.2.2.1.2.2.1,x767,v4.2.2.1.2.2.2.2),v4.2.2.2.1,(IntKind.i64.wrap (v4.2.2.2.2 + 1))),[])
 else
 bif v4.2.2.2.2 == 1 then
 ob (aD xD 5) fun x768 =>
 bif x768 != v4.2.2.1.2.2.2.1 then
 some (xD,(1,xB,(0,0,0,0,0,0,0),v4.2.2.2),[])
 else
 bif IntKind.i64.wrap (v4.2.2.2.2 + 1) == IntKind.i64.wrap (2 + IntKind.i64.wrap (2 * v0.1)) then
 some (xD,(8,xB,(v4.2.2.1.1,v4.2.2.1.2.1,v4.2.2.1.2.2.1,0,v4.2.2.1.2.2.2.2),v4.2.2.2.1,0),[])
 else
 some (xD,(v4.1,xB,v4.2.2.1,v4.2.2.2.1,(IntKind.i64.wrap (v4.2.2.2.2 + 1))),[])
 else
 bif v4.2.2.2.2.tmod 2 == 0 then
 ob (eV v0 (IntKind.i64.wrap ((IntKind.i64.wrap (v4.2.2.2.2 - 2)).tdiv 2))) fun x769 =>
 ob (aD xD x769) fun x770 =>
 bif IntKind.i64.wrap (v4.2.2.2.2 + 1) == IntKind.i64.wrap (2 + IntKind.i64.wrap (2 * v0.1)) then
 some (xD,(8,xB,(v4.2.2.1.1,v4.2.2.1.2.1,v4.2.2.1.2.2.1,0,v4.2.2.1.2.2.2.2),v4.2.2.2.1,0),[])
 else
 some (xD,(v4.1,xB,(v4.2.2.1.1,v4.2.2.1.2.1,v4.2.2.1.2.2.1,x770,v4.2.2.1.2.2.2.2),v4.2.2.2.1,(IntKind.i64.wrap (v4.2.2.2.2 + 1))),[])
 else
 ob (cC v0 (IntKind.i64.wrap ((IntKind.i64.wrap (v4.2.2.2.2 - 2)).tdiv 2))) fun x771 =>
 ob (aD xD x771) fun x772 =>
 ob (dE x772 v4.2.2.1.2.2.2.1) fun x773 =>
 bif decide (0 < x773) then
 some (xD,(1,xB,(0,0,0,0,0,0,0),v4.2.2.2),[])
 else
 bif IntKind.i64.wrap (v4.2.2.2.2 + 1) == IntKind.i64.wrap (2 + IntKind.i64.wrap (2 * v0.1)) then
 some (xD,(8,xB,(v4.2.2.1.1,v4.2.2.1.2.1,v4.2.2.1.2.2.1,0,v4.2.2.1.2.2.2.2),v4.2.2.2.1,0),[])
 else
 some (xD,(v4.1,xB,v4.2.2.1,v4.2.2.2.1,(IntKind.i64.wrap (v4.2.2.2.2 + 1))),[])
 else
 bif v4.1 == 8 then
 wd k v0 xD v4.2.2.1 fun x774 =>
 ob (aE x774.2) fun x775 =>
 bif x775 then
 some (x774.1,(1,xB,(0,0,0,0,0,0,0),v4.2.2.2),[])
 else
 some (x774.1,(v4.1,xB,x774.2,v4.2.2.2),[])
 else
 bif v4.1 == 9 then
 ob (eM (k + 37) v1 xB) fun x804 =>
 bif x804.1 == 1 then
 ob (gi (k + 36) v1 xB) fun x805 =>
 some (xD,(v4.1,x805,v4.2.2),[])
 else
 bif x804.1 == 2 then
 some (xD,(10,xB,v4.2.2),[])
 else
 bif x804.1 == 3 then
 some (xD,(15,xB,v4.2.2),[])
 else
 ob (aG 1 v3 0) fun x806 =>
 some (xD,(0,xB,x806,v4.2.2.2),[])
 else
 bif v4.1 == 10 then
 ob (eM (k + 37) v1 xB) fun x807 =>
 bif x807.1 != 2 then
 some (xD,(9,xB,(0,0,0,0,0,0,0),v4.2.2.2),[])
 else
 ob (d9 xD 0 1) fun x808 =>
 bif room 1 24 then
 ob (gi (k + 36) v1 xB) fun x809 =>
 ob (aG 0 v3 (IntKind.u64.wrap x807.2)) fun x810 =>
 some (x808.1,(11,x809,x810,v4.2.2.2),([(3,x807.2,v3)]))
 else
 none
 else
 bif v4.1 == 11 then
 wd k v0 xD v4.2.2.1 fun xm =>
 ob (aE xm.2) fun x812 =>
 bif !x812 then
 some (xm.1,(v4.1,xB,xm.2,v4.2.2.2),[])
 else
 bif xm.2.2.2.2.2.2.2 == 2 then
 ob (aG 3 v3 xm.2.2.2.2.1) fun x813 =>
 some (xm.1,(12,xB,x813,v4.2.2.2),[])
 else
 some (xm.1,(13,xB,(0,0,0,0,0,0,0),v4.2.2.2),[])
 else
 bif v4.1 == 12 then
 wd k v0 xD v4.2.2.1 fun xg =>
 ob (aE xg.2) fun x857 =>
 bif !x857 then
 some (xg.1,(v4.1,xB,xg.2,v4.2.2.2),[])
 else
 bif xg.2.2.2.2.2.2.2 == 2 then
 ob (eg (k + 36) v1 xB (IntKind.i64.wrap xg.2.2.2.2.1)) fun x858 =>
 bif room 1 24 then
 some (xg.1,(9,x858,(0,0,0,0,0,0,0),v4.2.2.2),([(2,IntKind.i64.wrap xg.2.2.2.2.1,v3)]))
 else
 none
 else
 some (xg.1,(13,xB,(0,0,0,0,0,0,0),v4.2.2.2),[])
 else
 bif v4.1 == 13 then
 ob (aD xD 1) fun x901 =>
 bif x901 == 0 then
 ob (aG 6 v3 0) fun x902 =>
 some (xD,(14,xB,x902,v4.2.2.2),[])
 else
 some (xD,(9,xB,(0,0,0,0,0,0,0),v4.2.2.2),[])
 else
 bif v4.1 == 14 then
 wd k v0 xD v4.2.2.1 fun x903 =>
 ob (aE x903.2) fun x904 =>
 bif x904 then
 some (x903.1,(9,xB,(0,0,0,0,0,0,0),v4.2.2.2),[])
 else
 some (x903.1,(v4.1,xB,x903.2,v4.2.2.2),[])
 else
 bif v4.1 == 15 then
 ob (eM (k + 37) v1 xB) fun xx =>
 bif xx.1 != 3 then
 some (xD,(9,xB,(0,0,0,0,0,0,0),v4.2.2.2),[])
 else
 ob (d9 xD 0 18446744073709551615) fun xy =>
 bif room 1 24 then
 bif xy.2 == 1 then
 bif room 2 24 then
 ob (gi (k + 36) v1 xB) fun x935 =>
 bif (↑x935.length : Int) == 0 then
 ob (aG 1 v3 0) fun x936 =>
 some (xy.1,(0,x935,x936,v4.2.2.2),([(4,xx.2,v3),(5,0,v3)]))
 else
 some (xy.1,(9,x935,(0,0,0,0,0,0,0),v4.2.2.2),([(4,xx.2,v3),(5,0,v3)]))
 else
 none
 else
 ob (gi (k + 36) v1 xB) fun x937 =>
 bif (↑x937.length : Int) == 0 then
 ob (aG 1 v3 0) fun x938 =>
 some (xy.1,(0,x937,x938,v4.2.2.2),([(4,xx.2,v3)]))
 else
 some (xy.1,(9,x937,(0,0,0,0,0,0,0),v4.2.2.2),([(4,xx.2,v3)]))
 else
 none
 else
 none
theorem Dy (k : Nat) (v0_0 v0_1 v0_2 v0_3 : Int) (v1 : List (Int × List Int)) (v2 : List Int) (v3 v4_0 : Int) (v4_1 : List (Int × Int × Int)) (v4_2_0 v4_2_1 v4_2_2 v4_2_3 v4_2_4 v4_2_5 v4_2_6 v4_3 v4_4 v5 : Int) : xC (k + 60) none 83 [.agg [.lit (.int .i64 v0_0),.lit (.int .i64 v0_1),.lit (.int .i64 v0_2),.lit (.int .i64 v0_3)],.ro (List.map an v1),.ro (List.map (aF .u64) v2),.lit (.int .i64 v3),.agg [.lit (.int .i64 v4_0),.ro (List.map aS v4_1),.lit (.int .i64 v4_2_0),.lit (.int .i64 v4_2_1),.lit (.int .i64 v4_2_2),.lit (.int .u64 v4_2_3),.lit (.int .u64 v4_2_4),.lit (.int .u64 v4_2_5),.lit (.int .i64 v4_2_6),.lit (.int .i64 v4_3),.lit (.int .i64 v4_4)],.lit (.int .u64 v5)] = ob (mj k (v0_0,v0_1,v0_2,v0_3) v1 v2 v3 (v4_0,v4_1,(v4_2_0,v4_2_1,v4_2_2,v4_2_3,v4_2_4,v4_2_5,v4_2_6),v4_3,v4_4) v5) fun r => some ((.tup [.ro (List.map (aF .u64) r.1),.agg [.lit (.int .i64 r.2.1.1),.ro (List.map aS r.2.1.2.1),.lit (.int .i64 r.2.1.2.2.1.1),.lit (.int .i64 r.2.1.2.2.1.2.1),.lit (.int .i64 r.2.1.2.2.1.2.2.1),.lit (.int .u64 r.2.1.2.2.1.2.2.2.1),.lit (.int .u64 r.2.1.2.2.1.2.2.2.2.1),.lit (.int .u64 r.2.1.2.2.1.2.2.2.2.2.1),.lit (.int .i64 r.2.1.2.2.1.2.2.2.2.2.2),.lit (.int .i64 r.2.1.2.2.2.1),.lit (.int .i64 r.2.1.2.2.2.2)],.ro (List.map aS r.2.2)]),[]) := by
  rw [aH]
  unfold mj wd
  simp (maxSteps := 2000000) -implicitDefEqProofs only [aef,ade,ZU,Xp,abU,VB,acZ,Vj,JZ,pF,acf,UC,Ii,pM,aaL,Xg,abP,Ya,acv,X9,Jp,JN,pK,pW,ZZ,UM,Zp,XY,abI,WE,aaG,X4,ZE,U0,Zo,UY,Z2,Xz,aad,V1,I7,oO,acR,X1,HY,G7,rk,o6,ab8,VO,aau,VV,ab6,Uz,Zl,Vq,acV,Vs,↓syP,syA,syD,simprocAttr,syE,ag,af,ae,syW,xQ,bO,ux,iS,dM,gw,dT,eN,wW,ol,mL,BX,nY,FO,uW,uc]
  all_goals simp -implicitDefEqProofs only [List.map_nil]
end Go.Ab
