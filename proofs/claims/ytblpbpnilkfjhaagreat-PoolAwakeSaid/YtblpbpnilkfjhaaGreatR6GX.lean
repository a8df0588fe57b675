import Derived.Test.YtblpbpnilkfjhaaGreatR6Run
import Derived.Test.YtblpbpnilkfjhaaGreatR6Facts
import Derived.Test.YtblpbpnilkfjhaaGreatR6Man
import Derived.Test.YtblpbpnilkfjhaaGreatR6BY
import Derived.Test.YtblpbpnilkfjhaaGreatR6BX
import Derived.Test.YtblpbpnilkfjhaaGreatR6BZ
set_option linter.unusedVariables false
set_option linter.unusedSimpArgs false
set_option maxRecDepth 100000
set_option linter.unusedVariables false
set_option linter.unusedSimpArgs false
namespace Go.Ab
open Go.Proofs
def bA (k:Nat) (v0:Tyt)  : Nat→Int→Option Bool
 | 0,_=>none
 | n+1,s3=>
 bif decide (s3<(↑v0.length:Int)) then
 bif decide (s3≤(40:Int)) then
 ob (idx v0 s3) fun x6=>
 bif decide ((40:Int)<(↑x6.2.length:Int)) then
 some (false)
 else
 bA k v0  n (IntKind.i64.wrap (s3+(1:Int)))
 else
 some (decide ((↑v0.length:Int)≤(40:Int)))
 else
 some (decide ((↑v0.length:Int)≤(40:Int)))
theorem kD (k:Nat) (v0:Tyt):∀ (n:Nat) (s3:Int),rt none (itX (xX (xS k) 21 0 k false) ri (0) (av (xX (xS k) 21 0 k false) (aB (xS k).P Tryz.f21) G8) n ⟨[.ro (List.map ap v0),uu,.lit (.bool false),.lit (.int .i64 s3),.junk,.junk,.junk,.junk,.junk,.junk,.junk,.junk,.junk,.junk,.junk,.junk,.junk,.junk,.junk,.junk,.junk,uu,uu,uu],[]⟩)=ob (bA k v0  n s3) fun r=>some ((.lit (.bool r)),[]):=by
 intro n
 induction n with
 | zero=>intros;rfl
 | succ n ih=>
  intro s3
  rw [bA]
  simp -implicitDefEqProofs only [aih,agu,ad8,MH,J3,pG,pB,↓syP,syA,syD,simprocAttr,syE,ah,ag,af,syW,xQ,TK,ih]
def dk (k:Nat) (v0:Tyt):Option Bool:=
 bA k v0 k 0
theorem ko (k:Nat) (v0:Tyt):xC (k+1) none 21 [.ro (List.map ap v0)]=ob (dk k v0) fun r=>some ((.lit (.bool r)),[]):=by
 rw [aK]
 unfold dk
 simp -implicitDefEqProofs only [aih,agu,ad8,MH,J3,pG,pB,↓syP,syA,syD,simprocAttr,syE,ah,ag,af,syW,xQ,kD k v0]
def fh (v0:(Int×List Int)):Option Bool:=
 bif decide (v0.1<0) then
 some true
 else
 some (decide (20<v0.1))
theorem w7 (k:Nat) (v0_0:Int) (v0_1:List Int):xC (k+1) none 99 [.agg [.lit (.int .i64 v0_0),.ro (List.map (aN .i64) v0_1)]]=ob (fh (v0_0,v0_1)) fun r=>some ((.lit (.bool r)),[]):=by
 rw [aK]
 unfold fh
 simp -implicitDefEqProofs only [ad6,Y7,EI,lm,↓syP,syA,syD,simprocAttr,syE,ah,ag,af,syW,xQ]
def aC (k:Nat) (v0:Tyt)  : Nat→Int→Option Int
 | 0,_=>none
 | n+1,sT=>
 bif decide (sT<(↑v0.length:Int)) then
 ob (idx v0 sT) fun xz=>
 ob (fh (xz.1,xz.2)) fun x18=>
 bif x18 then
 some (sT)
 else
 aC k v0  n (IntKind.i64.wrap (sT+(1:Int)))
 else
 some ((-1:Int))
theorem dC (k:Nat) (v0:Tyt):∀ (n:Nat) (sT:Int) ⦃j11:V⦄,rt none (itX (xX (xS (k+8)) 147 0 (k+8) false) Ck (0) (av (xX (xS (k+8)) 147 0 (k+8) false) (aB (xS (k+8)).P Tryz.f147) Ci) n ⟨[.ro (List.map ap v0),.fn (Fn.func (99:FuncId)) [] [],uu,uu,.lit (.int .i64 (0:Int)),j11,.ro (List.map ap v0),.lit (.int .i64 (↑v0.length:Int)),.lit (.int .i64 sT),.junk,.junk,.junk,.junk,.junk,.junk,.junk,.junk,.junk,.junk],[]⟩)=ob (aC k v0  n sT) fun r=>some ((.lit (.int .i64 r)),[]):=by
 intro n
 induction n with
 | zero=>intros;rfl
 | succ n ih=>
  intro sT j11
  rw [aC]
  simp -implicitDefEqProofs only [Jd,GH,Ff,nO,fw,↓syP,syA,syD,simprocAttr,syE,ah,ag,af,syW,xQ,w7,MB,ih]
def a9 (k:Nat) (v0:Tyt):Option Int:=
 aC k v0 (k+8) 0
theorem eG (k:Nat) (v0:Tyt):xC (k+9) none 147 [.ro (List.map ap v0),.fn (Fn.func (99:FuncId)) [] []]=ob (a9 k v0) fun r=>some ((.lit (.int .i64 r)),[]):=by
 rw [aK]
 unfold a9
 simp -implicitDefEqProofs only [Jd,GH,Ff,nO,fw,↓syP,syA,syD,simprocAttr,syE,ah,ag,af,syW,xQ,dC k v0]
def aM (k:Nat) (v0:Tyt):Option Bool:=
 ob (a9 (k+8) v0) fun x20=>
 some (decide (0≤x20))
theorem bh (k:Nat) (v0:Tyt):xC (k+18) none 98 [.ro (List.map ap v0),.fn (Fn.func (99:FuncId)) [] []]=ob (aM k v0) fun r=>some ((.lit (.bool r)),[]):=by
 rw [aK]
 unfold aM
 simp -implicitDefEqProofs only [adY,abR,Jd,GH,Ff,nO,fw,↓syP,syA,syD,simprocAttr,syE,ah,ag,af,syW,xQ,eG]
def cT (k:Nat) (v0:Tyt) (o0:Int→List Bool→Option Bool):Nat→List Int→Int→Int→List Bool→Int→Option Bool
 | 0,_,_,_,_,_=>none
 | n+1,sO,sY,sW,sU,sP=>
 bif decide (sW<sY) then
 ob (idx sO sW) fun xP=>
 bif decide (xP≤sP) then
 some (false)
 else
 bif decide ((↑v0.length:Int)≤xP) then
 some (false)
 else
 bif decide ((0:Int)≤xP∧xP.toNat<v0.length) then
 ob (sU[xP.toNat]?) fun xN=>
 bif xN then
 some (false)
 else
 bif decide ((0:Int)≤xP∧xP.toNat<v0.length) then
 ob (sU[xP.toNat]?) fun x64=>
 cT k v0 o0 n (sO) (sY) (IntKind.i64.wrap (sW+(1:Int))) (sU.set xP.toNat true) (sP)
 else
 none
 else
 none
 else
 o0 (IntKind.i64.wrap (sP+(1:Int))) (sU)
theorem oI (k:Nat) (v0:Tyt) (n23:Nat) (o0:Int→List Bool→Option Bool) (ho0:∀ (sF:Int) (sI:List Bool) ⦃sM:Bool⦄ ⦃j40 j41 j50:V⦄,rt none (bq (itX (xX (xS (k+17)) 148 0 (k+17) false) iO (7) (av (xX (xS (k+17)) 148 0 (k+17) false) (aB (xS (k+17)).P Tryz.f148) lU) n23 ⟨[.yld 6,.ptr 5 0 0 0,uu,j40,j41,uu,j50,.ro (List.map ap v0),.lit (.int .i64 (↑v0.length:Int)),.lit (.int .i64 sF),.junk,.junk,.junk,.junk,.junk,.junk,.junk,.junk,.junk,.junk,.junk,.junk,.junk,.junk,.junk,.junk,.junk,.junk],[.box [.ro (List.map ap v0)],.box [.lit (.bool false)],.rows 1 (List.map mq sI) 0 true,.rows 0 [] 0 true,.box [.own 2 0 v0.length],.box [.ro (List.map ap v0)],(.loop ⟨LoopState.ready,none,56,[.ro (List.map ap v0),.ptr 0 0 0 0,.ptr 1 0 0 0,.ptr 4 0 0 0,uu,uu,.ro (List.map ap v0),.lit (.int .i64 (↑v0.length:Int)),.lit (.bool (decide ((30:Int)<(↑v0.length:Int)))),.lit (.bool false),.ro (List.map ap v0),.lit (.bool sM),.lit (.bool sM),.ro (List.map ap v0),.lit (.int .i64 (↑v0.length:Int)),.own 2 0 v0.length,.ro (List.map ap v0),.fn (Fn.func (148:FuncId)) [] [.ptr 5 0 0 0],uu,uu,uu,uu,uu,uu,uu,uu,uu,uu,uu,uu,uu,uu,uu,uu,uu,uu,uu,uu],[(18:Tmp),(19:Tmp)],D4,CI⟩)]⟩) (rfK (av (xX (xS (k+18)) 56 0 (k+18) false) (aB (xS (k+18)).P Tryz.f56) Ar) [.ro (List.map ap v0),.ptr 0 0 0 0,.ptr 1 0 0 0,.ptr 4 0 0 0,uu,uu,.ro (List.map ap v0),.lit (.int .i64 (↑v0.length:Int)),.lit (.bool (decide ((30:Int)<(↑v0.length:Int)))),.lit (.bool false),.ro (List.map ap v0),.lit (.bool sM),.lit (.bool sM),.ro (List.map ap v0),.lit (.int .i64 (↑v0.length:Int)),.own 2 0 v0.length,.ro (List.map ap v0),.fn (Fn.func (148:FuncId)) [] [.ptr 5 0 0 0],uu,uu,uu,uu,uu,uu,uu,uu,uu,uu,uu,uu,uu,uu,uu,uu,uu,uu,uu,uu] (6)))=ob (o0 sF sI) fun r=>some ((.lit (.bool r)),[])):∀ (n:Nat) (sO:List Int) (sY sW:Int) (sU:List Bool) (sP:Int) ⦃sd:Int⦄ ⦃sb sf:Bool⦄ ⦃j37:V⦄,rt none (bq (itX (xX (xS (k+17)) 148 0 (k+17) false) wM (9) (av (xX (xS (k+17)) 148 0 (k+17) false) (dM (xX (xS (k+17)) 148 0 (k+17) false) iO 7 (av (xX (xS (k+17)) 148 0 (k+17) false) (aB (xS (k+17)).P Tryz.f148) lU) n23) we) n ⟨[.yld 6,.ptr 5 0 0 0,uu,.lit (.int .i64 sP),.ptr 8 0 0 0,uu,j37,.ro (List.map ap v0),.lit (.int .i64 (↑v0.length:Int)),.lit (.int .i64 sP),.lit (.bool sf),.lit (.int .i64 sP),.rp [.lit (.int .i64 sd),.ro (List.map (aN IntKind.i64) sO)],.agg [.lit (.int .i64 sd),.ro (List.map (aN IntKind.i64) sO)],.ptr 8 0 0 1,.ro (List.map (aN IntKind.i64) sO),.lit (.int .i64 sY),.lit (.int .i64 sW),.junk,.junk,.junk,.junk,.junk,.junk,.junk,.junk,.junk,.junk],[.box [.ro (List.map ap v0)],.box [.lit (.bool false)],.rows 1 (List.map mq sU) 0 true,.rows 0 [] 0 true,.box [.own 2 0 v0.length],.box [.ro (List.map ap v0)],(.loop ⟨LoopState.ready,none,56,[.ro (List.map ap v0),.ptr 0 0 0 0,.ptr 1 0 0 0,.ptr 4 0 0 0,uu,uu,.ro (List.map ap v0),.lit (.int .i64 (↑v0.length:Int)),.lit (.bool (decide ((30:Int)<(↑v0.length:Int)))),.lit (.bool false),.ro (List.map ap v0),.lit (.bool sb),.lit (.bool sb),.ro (List.map ap v0),.lit (.int .i64 (↑v0.length:Int)),.own 2 0 v0.length,.ro (List.map ap v0),.fn (Fn.func (148:FuncId)) [] [.ptr 5 0 0 0],uu,uu,uu,uu,uu,uu,uu,uu,uu,uu,uu,uu,uu,uu,uu,uu,uu,uu,uu,uu],[(18:Tmp),(19:Tmp)],D4,CI⟩),.rows 0 [] 0 true,.box [.lit (.int .i64 sd),.ro (List.map (aN IntKind.i64) sO)]]⟩) (rfK (av (xX (xS (k+18)) 56 0 (k+18) false) (aB (xS (k+18)).P Tryz.f56) Ar) [.ro (List.map ap v0),.ptr 0 0 0 0,.ptr 1 0 0 0,.ptr 4 0 0 0,uu,uu,.ro (List.map ap v0),.lit (.int .i64 (↑v0.length:Int)),.lit (.bool (decide ((30:Int)<(↑v0.length:Int)))),.lit (.bool false),.ro (List.map ap v0),.lit (.bool sb),.lit (.bool sb),.ro (List.map ap v0),.lit (.int .i64 (↑v0.length:Int)),.own 2 0 v0.length,.ro (List.map ap v0),.fn (Fn.func (148:FuncId)) [] [.ptr 5 0 0 0],uu,uu,uu,uu,uu,uu,uu,uu,uu,uu,uu,uu,uu,uu,uu,uu,uu,uu,uu,uu] (6)))=ob (cT k v0 o0 n sO sY sW sU sP) fun r=>some ((.lit (.bool r)),[]):=by
 intro n
 induction n with
 | zero=>intros;rfl
 | succ n ih=>
  intro sO sY sW sU sP sd sb sf j37
  rw [cT]
  simp -implicitDefEqProofs only [afd,adV,adZ,Hl,Hf,eh,ed,GR,H6,m7,mR,mY,uw,adY,abR,ad6,Y7,EI,lm,JC,E5,aK (g:=100),Jd,GH,Ff,nO,fw,IS,FY,GI,nI,nC,fA,fx,↓syP,syA,syD,simprocAttr,syE,ah,ag,af,syW,xQ,bh,FU,ih,ho0]
def bT (k:Nat) (v0:Tyt)  : Nat→Int→List Bool→Option Bool
 | 0,_,_=>none
 | n+1,sF,sI=>
 bif decide (sF<(↑v0.length:Int)) then
 ob (idx v0 sF) fun x58=>
 cT k v0 (fun sF sI=>bT k v0  n sF sI) (k+17) (x58.2) ((↑x58.2.length:Int)) ((0:Int)) (sI) (sF)
 else
 some (true)
theorem oO (k:Nat) (v0:Tyt):∀ (n:Nat) (sF:Int) (sI:List Bool) ⦃sM:Bool⦄ ⦃j40 j41 j50:V⦄,rt none (bq (itX (xX (xS (k+17)) 148 0 (k+17) false) iO (7) (av (xX (xS (k+17)) 148 0 (k+17) false) (aB (xS (k+17)).P Tryz.f148) lU) n ⟨[.yld 6,.ptr 5 0 0 0,uu,j40,j41,uu,j50,.ro (List.map ap v0),.lit (.int .i64 (↑v0.length:Int)),.lit (.int .i64 sF),.junk,.junk,.junk,.junk,.junk,.junk,.junk,.junk,.junk,.junk,.junk,.junk,.junk,.junk,.junk,.junk,.junk,.junk],[.box [.ro (List.map ap v0)],.box [.lit (.bool false)],.rows 1 (List.map mq sI) 0 true,.rows 0 [] 0 true,.box [.own 2 0 v0.length],.box [.ro (List.map ap v0)],(.loop ⟨LoopState.ready,none,56,[.ro (List.map ap v0),.ptr 0 0 0 0,.ptr 1 0 0 0,.ptr 4 0 0 0,uu,uu,.ro (List.map ap v0),.lit (.int .i64 (↑v0.length:Int)),.lit (.bool (decide ((30:Int)<(↑v0.length:Int)))),.lit (.bool false),.ro (List.map ap v0),.lit (.bool sM),.lit (.bool sM),.ro (List.map ap v0),.lit (.int .i64 (↑v0.length:Int)),.own 2 0 v0.length,.ro (List.map ap v0),.fn (Fn.func (148:FuncId)) [] [.ptr 5 0 0 0],uu,uu,uu,uu,uu,uu,uu,uu,uu,uu,uu,uu,uu,uu,uu,uu,uu,uu,uu,uu],[(18:Tmp),(19:Tmp)],D4,CI⟩)]⟩) (rfK (av (xX (xS (k+18)) 56 0 (k+18) false) (aB (xS (k+18)).P Tryz.f56) Ar) [.ro (List.map ap v0),.ptr 0 0 0 0,.ptr 1 0 0 0,.ptr 4 0 0 0,uu,uu,.ro (List.map ap v0),.lit (.int .i64 (↑v0.length:Int)),.lit (.bool (decide ((30:Int)<(↑v0.length:Int)))),.lit (.bool false),.ro (List.map ap v0),.lit (.bool sM),.lit (.bool sM),.ro (List.map ap v0),.lit (.int .i64 (↑v0.length:Int)),.own 2 0 v0.length,.ro (List.map ap v0),.fn (Fn.func (148:FuncId)) [] [.ptr 5 0 0 0],uu,uu,uu,uu,uu,uu,uu,uu,uu,uu,uu,uu,uu,uu,uu,uu,uu,uu,uu,uu] (6)))=ob (bT k v0  n sF sI) fun r=>some ((.lit (.bool r)),[]):=by
 intro n
 induction n with
 | zero=>intros;rfl
 | succ n ih=>
  intro sF sI sM j40 j41 j50
  rw [bT]
  simp -implicitDefEqProofs only [afd,adV,adZ,Hl,Hf,eh,ed,GR,H6,m7,mR,mY,uw,adY,abR,ad6,Y7,EI,lm,JC,E5,aK (g:=100),Jd,GH,Ff,nO,fw,IS,FY,GI,nI,nC,fA,fx,↓syP,syA,syD,simprocAttr,syE,ah,ag,af,syW,xQ,bh,FM,ih,oI k v0 _ (fun sF sI=>bT k v0  n sF sI) ih]
def cQ (k:Nat) (v0:Tyt):Option Bool:=
 bif decide (30<(↑v0.length:Int)) then
 some false
 else
 ob (aM k v0) fun xc=>
 bif xc then
 some false
 else
 bif decide (0≤(↑v0.length:Int)∧(↑v0.length:Int)≤9223372036854775807∧(↑v0.length:Int)*1≤70368744177664) then
 bT k v0 (k+17) 0 (List.replicate v0.length false)
 else
 none
theorem cN (k:Nat) (v0:Tyt):xC (k+19) none 56 [.ro (List.map ap v0)]=ob (cQ k v0) fun r=>some ((.lit (.bool r)),[]):=by
 rw [aK]
 unfold cQ
 simp -implicitDefEqProofs only [afd,adV,adZ,Hl,Hf,eh,ed,GR,H6,m7,mR,mY,uw,adY,abR,ad6,Y7,EI,lm,JC,E5,aK (g:=100),Jd,GH,Ff,nO,fw,IS,FY,GI,nI,nC,fA,fx,↓syP,syA,syD,simprocAttr,syE,ah,ag,af,syW,xQ,bh,oO k v0]
def bW (k:Nat) (v0:Tyt) (v1:Int) (o0:Int→Option Int):Nat→List Int→Int→Int→Int→Option Int
 | 0,_,_,_,_=>none
 | n+1,sG,sE,sC,sH=>
 bif decide (sC<sE) then
 ob (idx sG sC) fun x137=>
 bif x137==v1 then
 some (sH)
 else
 bW k v0 v1 o0 n (sG) (sE) (IntKind.i64.wrap (sC+(1:Int))) (sH)
 else
 o0 (IntKind.i64.wrap (sH+(1:Int)))
theorem mH (k:Nat) (v0:Tyt) (v1:Int) (n108:Nat) (o0:Int→Option Int) (ho0:∀ (sD:Int) ⦃sR:Bool⦄ ⦃j122 j123 j130:V⦄,rt none (bq (itX (xX (xS (k+18)) 148 0 (k+18) false) iO (4) (av (xX (xS (k+18)) 148 0 (k+18) false) (aB (xS (k+18)).P Tryz.f148) lU) n108 ⟨[.yld 3,.ptr 2 0 0 0,uu,j122,j123,uu,j130,.ro (List.map ap v0),.lit (.int .i64 (↑v0.length:Int)),.lit (.int .i64 sD),.junk,.junk,.junk,.junk,.junk,.junk,.junk,.junk,.junk,.junk,.junk,.junk,.junk,.junk,.junk,.junk,.junk,.junk],[.box [.lit (.int .i64 v1)],.box [.lit (.int .i64 (0:Int))],.box [.ro (List.map ap v0)],(.loop ⟨LoopState.ready,none,101,[.ro (List.map ap v0),.lit (.int .i64 v1),uu,.ptr 0 0 0 0,.ptr 1 0 0 0,uu,uu,.ro (List.map ap v0),.lit (.bool sR),.ro (List.map ap v0),.fn (Fn.func (148:FuncId)) [] [.ptr 2 0 0 0],uu,uu,uu,uu,uu,uu],[(11:Tmp),(12:Tmp)],rW,rQ⟩)]⟩) (rfK (av (xX (xS (k+19)) 101 0 (k+19) false) (aB (xS (k+19)).P Tryz.f101) oV) [.ro (List.map ap v0),.lit (.int .i64 v1),uu,.ptr 0 0 0 0,.ptr 1 0 0 0,uu,uu,.ro (List.map ap v0),.lit (.bool sR),.ro (List.map ap v0),.fn (Fn.func (148:FuncId)) [] [.ptr 2 0 0 0],uu,uu,uu,uu,uu,uu] (3)))=ob (o0 sD) fun r=>some ((.lit (.int .i64 r)),[])):∀ (n:Nat) (sG:List Int) (sE sC sH:Int) ⦃sa:Int⦄ ⦃sc se:Bool⦄ ⦃j120:V⦄,rt none (bq (itX (xX (xS (k+18)) 148 0 (k+18) false) wM (6) (av (xX (xS (k+18)) 148 0 (k+18) false) (dM (xX (xS (k+18)) 148 0 (k+18) false) iO 4 (av (xX (xS (k+18)) 148 0 (k+18) false) (aB (xS (k+18)).P Tryz.f148) lU) n108) we) n ⟨[.yld 3,.ptr 2 0 0 0,uu,.lit (.int .i64 sH),.ptr 5 0 0 0,uu,j120,.ro (List.map ap v0),.lit (.int .i64 (↑v0.length:Int)),.lit (.int .i64 sH),.lit (.bool se),.lit (.int .i64 sH),.rp [.lit (.int .i64 sa),.ro (List.map (aN IntKind.i64) sG)],.agg [.lit (.int .i64 sa),.ro (List.map (aN IntKind.i64) sG)],.ptr 5 0 0 1,.ro (List.map (aN IntKind.i64) sG),.lit (.int .i64 sE),.lit (.int .i64 sC),.junk,.junk,.junk,.junk,.junk,.junk,.junk,.junk,.junk,.junk],[.box [.lit (.int .i64 v1)],.box [.lit (.int .i64 (0:Int))],.box [.ro (List.map ap v0)],(.loop ⟨LoopState.ready,none,101,[.ro (List.map ap v0),.lit (.int .i64 v1),uu,.ptr 0 0 0 0,.ptr 1 0 0 0,uu,uu,.ro (List.map ap v0),.lit (.bool sc),.ro (List.map ap v0),.fn (Fn.func (148:FuncId)) [] [.ptr 2 0 0 0],uu,uu,uu,uu,uu,uu],[(11:Tmp),(12:Tmp)],rW,rQ⟩),.rows 0 [] 0 true,.box [.lit (.int .i64 sa),.ro (List.map (aN IntKind.i64) sG)]]⟩) (rfK (av (xX (xS (k+19)) 101 0 (k+19) false) (aB (xS (k+19)).P Tryz.f101) oV) [.ro (List.map ap v0),.lit (.int .i64 v1),uu,.ptr 0 0 0 0,.ptr 1 0 0 0,uu,uu,.ro (List.map ap v0),.lit (.bool sc),.ro (List.map ap v0),.fn (Fn.func (148:FuncId)) [] [.ptr 2 0 0 0],uu,uu,uu,uu,uu,uu] (3)))=ob (bW k v0 v1 o0 n sG sE sC sH) fun r=>some ((.lit (.int .i64 r)),[]):=by
 intro n
 induction n with
 | zero=>intros;rfl
 | succ n ih=>
  intro sG sE sC sH sa sc se j120
  rw [bW]
  simp -implicitDefEqProofs only [JC,E5,aK (g:=100),Wu,PQ,P4,Bd,dO,dS,lT,pE,IS,FY,GI,nI,nC,fA,fx,↓syP,syA,syD,simprocAttr,syE,ah,ag,af,syW,xQ,cN,FU,ih,ho0]
def bD (k:Nat) (v0:Tyt) (v1:Int)  : Nat→Int→Option Int
 | 0,_=>none
 | n+1,sD=>
 bif decide (sD<(↑v0.length:Int)) then
 ob (idx v0 sD) fun x135=>
 bW k v0 v1 (fun sD=>bD k v0 v1  n sD) (k+18) (x135.2) ((↑x135.2.length:Int)) ((0:Int)) (sD)
 else
 some ((-1:Int))
theorem mm (k:Nat) (v0:Tyt) (v1:Int):∀ (n:Nat) (sD:Int) ⦃sR:Bool⦄ ⦃j122 j123 j130:V⦄,rt none (bq (itX (xX (xS (k+18)) 148 0 (k+18) false) iO (4) (av (xX (xS (k+18)) 148 0 (k+18) false) (aB (xS (k+18)).P Tryz.f148) lU) n ⟨[.yld 3,.ptr 2 0 0 0,uu,j122,j123,uu,j130,.ro (List.map ap v0),.lit (.int .i64 (↑v0.length:Int)),.lit (.int .i64 sD),.junk,.junk,.junk,.junk,.junk,.junk,.junk,.junk,.junk,.junk,.junk,.junk,.junk,.junk,.junk,.junk,.junk,.junk],[.box [.lit (.int .i64 v1)],.box [.lit (.int .i64 (0:Int))],.box [.ro (List.map ap v0)],(.loop ⟨LoopState.ready,none,101,[.ro (List.map ap v0),.lit (.int .i64 v1),uu,.ptr 0 0 0 0,.ptr 1 0 0 0,uu,uu,.ro (List.map ap v0),.lit (.bool sR),.ro (List.map ap v0),.fn (Fn.func (148:FuncId)) [] [.ptr 2 0 0 0],uu,uu,uu,uu,uu,uu],[(11:Tmp),(12:Tmp)],rW,rQ⟩)]⟩) (rfK (av (xX (xS (k+19)) 101 0 (k+19) false) (aB (xS (k+19)).P Tryz.f101) oV) [.ro (List.map ap v0),.lit (.int .i64 v1),uu,.ptr 0 0 0 0,.ptr 1 0 0 0,uu,uu,.ro (List.map ap v0),.lit (.bool sR),.ro (List.map ap v0),.fn (Fn.func (148:FuncId)) [] [.ptr 2 0 0 0],uu,uu,uu,uu,uu,uu] (3)))=ob (bD k v0 v1  n sD) fun r=>some ((.lit (.int .i64 r)),[]):=by
 intro n
 induction n with
 | zero=>intros;rfl
 | succ n ih=>
  intro sD sR j122 j123 j130
  rw [bD]
  simp -implicitDefEqProofs only [JC,E5,aK (g:=100),Wu,PQ,P4,Bd,dO,dS,lT,pE,IS,FY,GI,nI,nC,fA,fx,↓syP,syA,syD,simprocAttr,syE,ah,ag,af,syW,xQ,cN,FM,ih,mH k v0 v1 _ (fun sD=>bD k v0 v1  n sD) ih]
def eE (k:Nat) (v0:Tyt) (v1:Int):Option Int:=
 ob (cQ k v0) fun x138=>
 bif x138 then
 bD k v0 v1 (k+18) 0
 else
 some ((-1))
theorem u5 (k:Nat) (v0:Tyt) (v1:Int):xC (k+20) none 101 [.ro (List.map ap v0),.lit (.int .i64 v1)]=ob (eE k v0 v1) fun r=>some ((.lit (.int .i64 r)),[]):=by
 rw [aK]
 unfold eE
 simp -implicitDefEqProofs only [JC,E5,aK (g:=100),Wu,PQ,P4,Bd,dO,dS,lT,pE,IS,FY,GI,nI,nC,fA,fx,↓syP,syA,syD,simprocAttr,syE,ah,ag,af,syW,xQ,cN,mm k v0 v1]
end Go.Ab
set_option maxRecDepth 100000
set_option linter.unusedVariables false
set_option linter.unusedSimpArgs false
namespace Go.Ab
open Go.Proofs
def en (v0:Int) (v1:Int) (v2:Int):Option Bool:=
 bif decide (v1≤v0) then
 some (decide (v0≤v2))
 else
 some false
theorem lL (k:Nat) (v0 v1 v2:Int):xC (k+1) none 93 [.lit (.int .i64 v0),.lit (.int .i64 v1),.lit (.int .i64 v2)]=ob (en v0 v1 v2) fun r=>some ((.lit (.bool r)),[]):=by
 rw [aK]
 unfold en
 simp -implicitDefEqProofs only [ajs,aiv,Tk,AN,↓syP,syA,syD,simprocAttr,syE,ah,ag,af,syW,xQ]
def bM (v0:(Int×Int×Int×Int)):Option Bool:=
 ob (en v0.1 1 8) fun x5=>
 bif x5 then
 ob (en v0.2.1 1 16) fun x6=>
 bif x6 then
 bif rJ IntKind.i64 v0.2.1 (IntKind.i64.wrap (v0.2.1 - 1))==0 then
 ob (en v0.2.2.1 1 16) fun x7=>
 bif x7 then
 ob (en v0.2.2.2 0 4) fun x8=>
 some x8
 else
 some false
 else
 some false
 else
 some false
 else
 some false
theorem bL (k:Nat) (v0_0 v0_1 v0_2 v0_3:Int):xC (k+2) none 50 [.agg [.lit (.int .i64 v0_0),.lit (.int .i64 v0_1),.lit (.int .i64 v0_2),.lit (.int .i64 v0_3)]]=ob (bM (v0_0,v0_1,v0_2,v0_3)) fun r=>some ((.lit (.bool r)),[]):=by
 rw [aK]
 unfold bM
 simp -implicitDefEqProofs only [aiQ,ah6,Si,S7,Tu,SA,AA,↓syP,syA,syD,simprocAttr,syE,ah,ag,af,syW,xQ,lL]
def eO (v0:(Int×Int×Int×Int)) (v1:Int):Option Int:=
 some (IntKind.i64.wrap (IntKind.i64.wrap (6+IntKind.i64.wrap (2*v0.2.2.1))+IntKind.i64.wrap (v1*IntKind.i64.wrap (3+v0.2.1))))
theorem lB (k:Nat) (v0_0 v0_1 v0_2 v0_3 v1:Int):xC (k+1) none 72 [.agg [.lit (.int .i64 v0_0),.lit (.int .i64 v0_1),.lit (.int .i64 v0_2),.lit (.int .i64 v0_3)],.lit (.int .i64 v1)]=ob (eO (v0_0,v0_1,v0_2,v0_3) v1) fun r=>some ((.lit (.int .i64 r)),[]):=by
 rw [aK]
 unfold eO
 simp -implicitDefEqProofs only [ajv,aic,↓syP,syA,syD,simprocAttr,syE,ah,ag,af,syW,xQ]
def dd (v0:(Int×Int×Int×Int)):Option Int:=
 ob (bM v0) fun x16=>
 bif !x16 then
 some 0
 else
 ob (eO v0 v0.1) fun xz=>
 some xz
theorem eP (k:Nat) (v0_0 v0_1 v0_2 v0_3:Int):xC (k+3) none 103 [.agg [.lit (.int .i64 v0_0),.lit (.int .i64 v0_1),.lit (.int .i64 v0_2),.lit (.int .i64 v0_3)]]=ob (dd (v0_0,v0_1,v0_2,v0_3)) fun r=>some ((.lit (.int .i64 r)),[]):=by
 rw [aK]
 unfold dd
 simp -implicitDefEqProofs only [aeR,aap,↓syP,syA,syD,simprocAttr,syE,ah,ag,af,syW,xQ,bL,lB]
def gP (v0:(List Int)) (v1:Int):Option Bool:=
 bif decide (0≤v1) then
 some (decide (v1<(↑v0.length:Int)))
 else
 some false
theorem ou (k:Nat) (v0:List Int) (v1:Int):xC (k+1) none 66 [.ro (List.map (aN .u64) v0),.lit (.int .i64 v1)]=ob (gP v0 v1) fun r=>some ((.lit (.bool r)),[]):=by
 rw [aK]
 unfold gP
 simp -implicitDefEqProofs only [aja,ais,S4,AR,↓syP,syA,syD,simprocAttr,syE,ah,ag,af,syW,xQ]
def aE (v0:(List Int)) (v1:Int):Option Int:=
 ob (gP v0 v1) fun x22=>
 bif !x22 then
 some 0
 else
 ob (idx v0 v1) fun x23=>
 some x23
theorem cf (k:Nat) (v0:List Int) (v1:Int):xC (k+2) none 27 [.ro (List.map (aN .u64) v0),.lit (.int .i64 v1)]=ob (aE v0 v1) fun r=>some ((.lit (.int .u64 r)),[]):=by
 rw [aK]
 unfold aE
 simp -implicitDefEqProofs only [aiS,aiH,↓syP,syA,syD,simprocAttr,syE,ah,ag,af,syW,xQ,ou]
def bv (v0:(List Int)) (v1:Int) (v2:Int):Option (List Int):=
 ob (aO 8 v0) fun xd=>
 ob (gP v0 v1) fun xu=>
 bif !xu then
 some xd
 else
 ob (idx v0 v1) fun xq=>
 bif decide (0≤v1∧v1.toNat<xd.length) then
 ob (xd[v1.toNat]?) fun x34=>
 ob (idx v0 v1) fun x35=>
 some (xd.set v1.toNat v2)
 else
 none
theorem er (k:Nat) (v0:List Int) (v1 v2:Int):xC (k+11) none 88 [.ro (List.map (aN .u64) v0),.lit (.int .i64 v1),.lit (.int .u64 v2)]=ob (bv v0 v1 v2) fun r=>some ((.ro (List.map (aN .u64) r)),[]):=by
 rw [aK]
 unfold bv
 simp -implicitDefEqProofs only [ajf,aiC,UI,O3,ae6,adu,↓syP,syA,syD,simprocAttr,syE,ah,ag,af,syW,xQ,ou]
def de (v0:(List Int)) (v1:Int) (v2:Int):Option ((List Int)×Int):=
 ob (aO 8 v0) fun xr=>
 ob (gP v0 v1) fun xh=>
 bif !xh then
 some (xr,0)
 else
 ob (idx v0 v1) fun x48=>
 bif decide (0≤v1∧v1.toNat<xr.length) then
 ob (xr[v1.toNat]?) fun xn=>
 ob (idx v0 v1) fun x50=>
 some ((xr.set v1.toNat (IntKind.u64.wrap (x48+v2))),x50)
 else
 none
theorem As (k:Nat) (v0:List Int) (v1 v2:Int):xC (k+11) none 138 [.ro (List.map (aN .u64) v0),.lit (.int .i64 v1),.lit (.int .u64 v2)]=ob (de v0 v1 v2) fun r=>some ((.tup [.ro (List.map (aN .u64) r.1),.lit (.int .u64 r.2)]),[]):=by
 rw [aK]
 unfold de
 simp -implicitDefEqProofs only [aer,aaH,UI,O3,afH,abH,↓syP,syA,syD,simprocAttr,syE,ah,ag,af,syW,xQ,ou]
def dh (v0 : (List Int)) (v1 : Int) (v2 : Int) (v3 : Int) : Option ((List Int) × Bool) :=
 ob (aO 8 v0) fun xN =>
 ob (gP v0 v1) fun x64 =>
 bif !x64 then
 some (xN,false)
 else
 ob (idx v0 v1) fun xc =>
 bif xc != v2 then
 bif decide (0 ≤ v1 ∧ v1.toNat < xN.length) then
 ob (xN[v1.toNat]?) fun x66 =>
 ob (idx v0 v1) fun x67 =>
 some ((xN.set v1.toNat xc),false)
 else
 none
 else
 bif decide (0 ≤ v1 ∧ v1.toNat < xN.length) then
 ob (xN[v1.toNat]?) fun x68 =>
 ob (idx v0 v1) fun x69 =>
 some ((xN.set v1.toNat v3),true)
 else
 none
theorem ix (k:Nat) (v0:List Int) (v1 v2 v3:Int):xC (k+11) none 191 [.ro (List.map (aN .u64) v0),.lit (.int .i64 v1),.lit (.int .u64 v2),.lit (.int .u64 v3)]=ob (dh v0 v1 v2 v3) fun r=>some ((.tup [.ro (List.map (aN .u64) r.1),.lit (.bool r.2)]),[]):=by
 rw [aK]
 unfold dh
 simp -implicitDefEqProofs only [UI,O3,aed,aaL,afp,Y8,↓syP,syA,syD,simprocAttr,syE,ah,ag,af,syW,xQ,ou]
def aF (v0:Int) (v1:Int) (v2:Int):Option (Int×Int×Int×Int×Int×Int×Int):=
 some (v0,0,v1,v2,0,0,0)
theorem lR (k:Nat) (v0 v1 v2:Int):xC (k+1) none 104 [.lit (.int .i64 v0),.lit (.int .i64 v1),.lit (.int .u64 v2)]=ob (aF v0 v1 v2) fun r=>some ((.agg [.lit (.int .i64 r.1),.lit (.int .i64 r.2.1),.lit (.int .i64 r.2.2.1),.lit (.int .u64 r.2.2.2.1),.lit (.int .u64 r.2.2.2.2.1),.lit (.int .u64 r.2.2.2.2.2.1),.lit (.int .i64 r.2.2.2.2.2.2)]),[]):=by
 rw [aK]
 unfold aF
 simp -implicitDefEqProofs only [agQ,abK,↓syP,syA,syD,simprocAttr,syE,ah,ag,af,syW,xQ]
def aG (v0:(Int×Int×Int×Int×Int×Int×Int)):Option Bool:=
 some (v0.2.2.2.2.2.2 !=0)
theorem ew (k:Nat) (v0_0 v0_1 v0_2 v0_3 v0_4 v0_5 v0_6:Int):xC (k+1) none 110 [.agg [.lit (.int .i64 v0_0),.lit (.int .i64 v0_1),.lit (.int .i64 v0_2),.lit (.int .u64 v0_3),.lit (.int .u64 v0_4),.lit (.int .u64 v0_5),.lit (.int .i64 v0_6)]]=ob (aG (v0_0,v0_1,v0_2,v0_3,v0_4,v0_5,v0_6)) fun r=>some ((.lit (.bool r)),[]):=by
 rw [aK]
 unfold aG
 simp -implicitDefEqProofs only [afX,abY,↓syP,syA,syD,simprocAttr,syE,ah,ag,af,syW,xQ]
def aX (v0:(Int×Int×Int×Int×Int×Int×Int)) (v1:Int) (v2:Int):Option (Int×Int×Int×Int×Int×Int×Int):=
 some (v0.1,0,v0.2.2.1,v2,0,0,v1)
theorem fD (k:Nat) (v0_0 v0_1 v0_2 v0_3 v0_4 v0_5 v0_6 v1 v2:Int):xC (k+1) none 193 [.agg [.lit (.int .i64 v0_0),.lit (.int .i64 v0_1),.lit (.int .i64 v0_2),.lit (.int .u64 v0_3),.lit (.int .u64 v0_4),.lit (.int .u64 v0_5),.lit (.int .i64 v0_6)],.lit (.int .i64 v1),.lit (.int .u64 v2)]=ob (aX (v0_0,v0_1,v0_2,v0_3,v0_4,v0_5,v0_6) v1 v2) fun r=>some ((.agg [.lit (.int .i64 r.1),.lit (.int .i64 r.2.1),.lit (.int .i64 r.2.2.1),.lit (.int .u64 r.2.2.2.1),.lit (.int .u64 r.2.2.2.2.1),.lit (.int .u64 r.2.2.2.2.2.1),.lit (.int .i64 r.2.2.2.2.2.2)]),[]):=by
 rw [aK]
 unfold aX
 simp -implicitDefEqProofs only [agT,acP,↓syP,syA,syD,simprocAttr,syE,ah,ag,af,syW,xQ]
def lE (v0:Int) (v1:Int):Option Int:=
 bif decide (v1<0) then
 some v0
 else
 bif decide (16≤v1) then
 some v0
 else
 bif decide (0≤v1) then
 some (orI IntKind.u64 v0 (PV IntKind.u64 1 v1))
 else
 none
theorem JU (k:Nat) (v0 v1:Int):xC (k+1) none 214 [.lit (.int .u64 v0),.lit (.int .i64 v1)]=ob (lE v0 v1) fun r=>some ((.lit (.int .u64 r)),[]):=by
 rw [aK]
 unfold lE
 simp -implicitDefEqProofs only [agR,aaW,Kv,uV,↓syP,syA,syD,simprocAttr,syE,ah,ag,af,syW,xQ]
def dK (v0:Int):Option Int:=
 some (Sr IntKind.u64 v0 16)
theorem ms (k:Nat) (v0:Int):xC (k+1) none 213 [.lit (.int .u64 v0)]=ob (dK v0) fun r=>some ((.lit (.int .u64 r)),[]):=by
 rw [aK]
 unfold dK
 simp -implicitDefEqProofs only [aho,acm,↓syP,syA,syD,simprocAttr,syE,ah,ag,af,syW,xQ]
def eR (v0:(Int×Int×Int×Int)) (v1:Int):Option Int:=
 ob (bM v0) fun x80=>
 bif !x80 then
 some ((-1))
 else
 ob (en v1 0 (IntKind.i64.wrap (v0.1 - 1))) fun x81=>
 bif !x81 then
 some ((-1))
 else
 ob (eO v0 v1) fun x82=>
 some (IntKind.i64.wrap (x82+2))
theorem pm (k:Nat) (v0_0 v0_1 v0_2 v0_3 v1:Int):xC (k+12) none 32 [.agg [.lit (.int .i64 v0_0),.lit (.int .i64 v0_1),.lit (.int .i64 v0_2),.lit (.int .i64 v0_3)],.lit (.int .i64 v1)]=ob (eR (v0_0,v0_1,v0_2,v0_3) v1) fun r=>some ((.lit (.int .i64 r)),[]):=by
 rw [aK]
 unfold eR
 simp -implicitDefEqProofs only [aiX,aiu,YI,T4,ux,gz,aiV,aib,↓syP,syA,syD,simprocAttr,syE,ah,ag,af,syW,xQ,lL,bL,lB]
def cU (v0:Int):Option Int:=
 some (rJ IntKind.u64 v0 65535)
theorem nJ (k:Nat) (v0:Int):xC (k+1) none 192 [.lit (.int .u64 v0)]=ob (cU v0) fun r=>some ((.lit (.int .u64 r)),[]):=by
 rw [aK]
 unfold cU
 simp -implicitDefEqProofs only [ah0,aag,↓syP,syA,syD,simprocAttr,syE,ah,ag,af,syW,xQ]
def f8 (v0:(Int×Int×Int×Int)) (v1:Int):Option Int:=
 ob (bM v0) fun x89=>
 bif !x89 then
 some ((-1))
 else
 ob (en v1 0 (IntKind.i64.wrap (v0.1 - 1))) fun x90=>
 bif !x90 then
 some ((-1))
 else
 ob (eO v0 v1) fun x91=>
 some x91
theorem i5 (k:Nat) (v0_0 v0_1 v0_2 v0_3 v1:Int):xC (k+12) none 107 [.agg [.lit (.int .i64 v0_0),.lit (.int .i64 v0_1),.lit (.int .i64 v0_2),.lit (.int .i64 v0_3)],.lit (.int .i64 v1)]=ob (f8 (v0_0,v0_1,v0_2,v0_3) v1) fun r=>some ((.lit (.int .i64 r)),[]):=by
 rw [aK]
 unfold f8
 simp -implicitDefEqProofs only [YI,T4,ux,gz,aef,aax,ahy,adv,↓syP,syA,syD,simprocAttr,syE,ah,ag,af,syW,xQ,lL,bL,lB]
def cO (v0:(Int×Int×Int×Int)) (v1:Int):Option Int:=
 ob (bM v0) fun x98=>
 bif !x98 then
 some ((-1))
 else
 ob (en v1 0 (IntKind.i64.wrap (v0.1 - 1))) fun x99=>
 bif !x99 then
 some ((-1))
 else
 ob (eO v0 v1) fun x100=>
 some (IntKind.i64.wrap (x100+1))
theorem eL (k:Nat) (v0_0 v0_1 v0_2 v0_3 v1:Int):xC (k+12) none 108 [.agg [.lit (.int .i64 v0_0),.lit (.int .i64 v0_1),.lit (.int .i64 v0_2),.lit (.int .i64 v0_3)],.lit (.int .i64 v1)]=ob (cO (v0_0,v0_1,v0_2,v0_3) v1) fun r=>some ((.lit (.int .i64 r)),[]):=by
 rw [aK]
 unfold cO
 simp -implicitDefEqProofs only [YI,T4,ux,gz,aeK,YV,afL,adl,↓syP,syA,syD,simprocAttr,syE,ah,ag,af,syW,xQ,lL,bL,lB]
def eW (v0:(Int×Int×Int×Int)) (v1:Int) (v2:Int):Option Int:=
 ob (bM v0) fun x107=>
 bif !x107 then
 some ((-1))
 else
 ob (en v1 0 (IntKind.i64.wrap (v0.1 - 1))) fun x108=>
 bif !x108 then
 some ((-1))
 else
 ob (eO v0 v1) fun xL=>
 some (IntKind.i64.wrap (IntKind.i64.wrap (xL+3)+IntKind.i64.wrap (rJ IntKind.u64 v2 (IntKind.u64.wrap (IntKind.i64.wrap (v0.2.1 - 1))))))
theorem m8 (k:Nat) (v0_0 v0_1 v0_2 v0_3 v1 v2:Int):xC (k+12) none 109 [.agg [.lit (.int .i64 v0_0),.lit (.int .i64 v0_1),.lit (.int .i64 v0_2),.lit (.int .i64 v0_3)],.lit (.int .i64 v1),.lit (.int .u64 v2)]=ob (eW (v0_0,v0_1,v0_2,v0_3) v1 v2) fun r=>some ((.lit (.int .i64 r)),[]):=by
 rw [aK]
 unfold eW
 simp -implicitDefEqProofs only [YI,T4,ux,gz,aei,Y1,aeO,aaj,↓syP,syA,syD,simprocAttr,syE,ah,ag,af,syW,xQ,lL,bL,lB]
def dz (v0:Int) (v1:Int):Option Int:=
 some (IntKind.i64.wrap (IntKind.u64.wrap (v0 - v1)))
theorem fI (k:Nat) (v0 v1:Int):xC (k+1) none 106 [.lit (.int .u64 v0),.lit (.int .u64 v1)]=ob (dz v0 v1) fun r=>some ((.lit (.int .i64 r)),[]):=by
 rw [aK]
 unfold dz
 simp -implicitDefEqProofs only [ahl,abu,↓syP,syA,syD,simprocAttr,syE,ah,ag,af,syW,xQ]
def eD (k:Nat) (v0:(Int×Int×Int×Int))  : Nat→Int→List Int→Int→Nat→Option (List Int)
 | 0,_,_,_,_=>none
 | n+1,sE,sK,sS,sC=>
 bif decide (sS<sE) then
 ck (sC==1||sC==0) (
 bif room (sK++[(0:Int)]).length 8 then
 eD k v0  n (sE) (sK++[(0:Int)]) (IntKind.i64.wrap (sS+(1:Int))) (1)
 else
 none)
 else
 some (sK)
theorem mM (k:Nat) (v0_0 v0_1 v0_2 v0_3:Int):∀ (n:Nat) (sE:Int) (sK:List Int) (sS:Int) (sC:Nat) ⦃sA:Nat⦄,rt none (itX (xX (xS (k+3)) 59 0 (k+3) false) Ib (3) (av (xX (xS (k+3)) 59 0 (k+3) false) (aB (xS (k+3)).P Tryz.f59) H7) n ⟨[.agg [.lit (.int .i64 v0_0),.lit (.int .i64 v0_1),.lit (.int .i64 v0_2),.lit (.int .i64 v0_3)],.ptr 0 0 0 0,.own 1 0 0,.own 2 sA sK.length,.agg [.lit (.int .i64 v0_0),.lit (.int .i64 v0_1),.lit (.int .i64 v0_2),.lit (.int .i64 v0_3)],.lit (.int .i64 sE),.lit (.int .i64 sS),.junk,.junk,.junk,.junk,.junk,uu],[.box [.lit (.int .i64 v0_0),.lit (.int .i64 v0_1),.lit (.int .i64 v0_2),.lit (.int .i64 v0_3)],.rows 0 [] 0 true,.rows sC (List.map (aN IntKind.u64) sK) sA true]⟩)=ob (eD k (v0_0,v0_1,v0_2,v0_3)  n sE sK sS sC) fun r=>some ((.ro (List.map (aN .u64) r)),[]):=by
 intro n
 induction n with
 | zero=>intros;rfl
 | succ n ih=>
  intro sE sK sS sC sA
  rw [eD]
  simp -implicitDefEqProofs only [aiL,ahE,agC,Lc,oX,↓syP,syA,syD,simprocAttr,syE,ah,ag,af,syW,xQ,eP,To,ih]
def kK (k:Nat) (v0:(Int×Int×Int×Int)):Option (List Int):=
 ob (dd v0) fun x123=>
 eD k v0 (k+3) x123 ([]) 0 0
theorem oM (k:Nat) (v0_0 v0_1 v0_2 v0_3:Int):xC (k+4) none 59 [.agg [.lit (.int .i64 v0_0),.lit (.int .i64 v0_1),.lit (.int .i64 v0_2),.lit (.int .i64 v0_3)]]=ob (kK k (v0_0,v0_1,v0_2,v0_3)) fun r=>some ((.ro (List.map (aN .u64) r)),[]):=by
 rw [aK]
 unfold kK
 have hl0:=fun (x124:Int)=>mM k v0_0 v0_1 v0_2 v0_3 (k+3) (x124) ([]) ((0:Int)) (0)
 try simp -implicitDefEqProofs only [List.map_nil,List.length_nil] at hl0
 simp -implicitDefEqProofs only [aiL,ahE,agC,Lc,oX,↓syP,syA,syD,simprocAttr,syE,ah,ag,af,syW,xQ,eP,mM k v0_0 v0_1 v0_2 v0_3,hl0]
def dr (v0:Int) (v1:Int):Option Bool:=
 bif decide (0≤v0) then
 some (decide (v0<v1))
 else
 some false
theorem rc (k:Nat) (v0 v1:Int):xC (k+1) none 81 [.lit (.int .i64 v0),.lit (.int .i64 v1)]=ob (dr v0 v1) fun r=>some ((.lit (.bool r)),[]):=by
 rw [aK]
 unfold dr
 simp -implicitDefEqProofs only [ajo,aio,SN,AL,↓syP,syA,syD,simprocAttr,syE,ah,ag,af,syW,xQ]
def eU (v0 : Int) (v1 : Int) (v2 : Int) : Option Int :=
 bif decide (v2 < 2) then
 some ((-1))
 else
 ob (dr v1 v2) fun x126 =>
 bif !x126 then
 some ((-1))
 else
 bif IntKind.u64.wrap (IntKind.u64.wrap v2 - 1) != 0 then
 bif IntKind.u64.wrap v2 != 0 then
 some (IntKind.i64.wrap ((IntKind.u64.wrap (IntKind.u64.wrap (IntKind.u64.wrap v1 + 1) + v0.tmod (IntKind.u64.wrap (IntKind.u64.wrap v2 - 1)))).tmod (IntKind.u64.wrap v2)))
 else
 none
 else
 none
theorem Cf (k:Nat) (v0 v1 v2:Int):xC (k+2) none 161 [.lit (.int .u64 v0),.lit (.int .i64 v1),.lit (.int .i64 v2)]=ob (eU v0 v1 v2) fun r=>some ((.lit (.int .i64 r)),[]):=by
 rw [aK]
 unfold eU
 simp -implicitDefEqProofs only [afv,abj,K0,uU,↓syP,syA,syD,simprocAttr,syE,ah,ag,af,syW,xQ,rc]
def eC (v0:(Int×Int×Int×Int)) (v1:(List Int)) (v2:(Int×Int×Int×Int×Int×Int×Int)) (v3:Int) (v4:Int):Option Bool:=
 ob (bM v0) fun x132=>
 bif x132 then
 ob (dd v0) fun x133=>
 bif (↑v1.length:Int)==x133 then
 ob (aG v2) fun x134=>
 bif !x134 then
 bif decide (0≤v2.2.2.1) then
 bif decide (v2.2.2.1<v0.1) then
 bif v2.1==v3 then
 bif decide (0≤v2.2.1) then
 some (decide (v2.2.1<v4))
 else
 some false
 else
 some false
 else
 some false
 else
 some false
 else
 some false
 else
 some false
 else
 some false
theorem iK (k:Nat) (v0_0 v0_1 v0_2 v0_3:Int) (v1:List Int) (v2_0 v2_1 v2_2 v2_3 v2_4 v2_5 v2_6 v3 v4:Int):xC (k+4) none 188 [.agg [.lit (.int .i64 v0_0),.lit (.int .i64 v0_1),.lit (.int .i64 v0_2),.lit (.int .i64 v0_3)],.ro (List.map (aN .u64) v1),.agg [.lit (.int .i64 v2_0),.lit (.int .i64 v2_1),.lit (.int .i64 v2_2),.lit (.int .u64 v2_3),.lit (.int .u64 v2_4),.lit (.int .u64 v2_5),.lit (.int .i64 v2_6)],.lit (.int .i64 v3),.lit (.int .i64 v4)]=ob (eC (v0_0,v0_1,v0_2,v0_3) v1 (v2_0,v2_1,v2_2,v2_3,v2_4,v2_5,v2_6) v3 v4) fun r=>some ((.lit (.bool r)),[]):=by
 rw [aK]
 unfold eC
 simp -implicitDefEqProofs only [ae7,ZC,KE,NT,Lh,L1,KX,Mu,Lx,uy,↓syP,syA,syD,simprocAttr,syE,ah,ag,af,syW,xQ,bL,eP,ew]
def iN (v0 : (Int × Int × Int × Int)) (v1 : (List Int)) (v2 : (Int × Int × Int × Int × Int × Int × Int)) : Option ((List Int) × (Int × Int × Int × Int × Int × Int × Int)) :=
 ob (aO 8 v1) fun xO =>
 ob (eC v0 v1 v2 5 5) fun x153 =>
 bif x153 then
 bif decide (0 ≤ v2.2.1 ∧ v2.2.1.toNat < 5) then
 bif v2.2.1.toNat == 0 then
 ob (aE xO 2) fun xk =>
 some (xO,(v2.1,1,v2.2.2.1,v2.2.2.2.1,xk,v2.2.2.2.2.2))
 else
 bif v2.2.1.toNat == 1 then
 ob (aE xO 2) fun xv =>
 ob (dK xv) fun xI =>
 ob (dK v2.2.2.2.2.1) fun x157 =>
 bif xI != x157 then
 ob (aX (v2.1,2,v2.2.2.1,v2.2.2.2.1,v2.2.2.2.2.1,xv,v2.2.2.2.2.2.2) 4 0) fun x158 =>
 some (xO,x158)
 else
 some (xO,(v2.1,2,v2.2.2.1,v2.2.2.2.1,v2.2.2.2.2.1,xv,v2.2.2.2.2.2.2))
 else
 bif v2.2.1.toNat == 2 then
 ob (lE v2.2.2.2.2.2.1 v2.2.2.1) fun x159 =>
 ob (dh xO 2 v2.2.2.2.2.2.1 x159) fun xl =>
 bif xl.2 then
 some (xl.1,(v2.1,3,v2.2.2))
 else
 some (xl.1,(v2.1,1,v2.2.2))
 else
 bif v2.2.1.toNat == 3 then
 ob (eR v0 v2.2.2.1) fun x161 =>
 ob (aE xO x161) fun xa =>
 bif xa != 0 then
 some (xO,(v2.1,4,v2.2.2.1,v2.2.2.2.1,v2.2.2.2.2.1,xa,v2.2.2.2.2.2.2))
 else
 some (xO,(v2.1,v2.2.1,v2.2.2.1,v2.2.2.2.1,v2.2.2.2.2.1,xa,v2.2.2.2.2.2.2))
 else
 bif v2.2.1.toNat == 4 then
 ob (eR v0 v2.2.2.1) fun xJ =>
 ob (bv xO xJ 0) fun x164 =>
 ob (aX v2 1 0) fun xK =>
 some (x164,xK)
 else
 none
 else
 none
 else
 some (xO,v2)
theorem Gy (k:Nat) (v0_0 v0_1 v0_2 v0_3:Int) (v1:List Int) (v2_0 v2_1 v2_2 v2_3 v2_4 v2_5 v2_6:Int):xC (k+14) none 165 [.agg [.lit (.int .i64 v0_0),.lit (.int .i64 v0_1),.lit (.int .i64 v0_2),.lit (.int .i64 v0_3)],.ro (List.map (aN .u64) v1),.agg [.lit (.int .i64 v2_0),.lit (.int .i64 v2_1),.lit (.int .i64 v2_2),.lit (.int .u64 v2_3),.lit (.int .u64 v2_4),.lit (.int .u64 v2_5),.lit (.int .i64 v2_6)]]=ob (iN (v0_0,v0_1,v0_2,v0_3) v1 (v2_0,v2_1,v2_2,v2_3,v2_4,v2_5,v2_6)) fun r=>some ((.tup [.ro (List.map (aN .u64) r.1),.agg [.lit (.int .i64 r.2.1),.lit (.int .i64 r.2.2.1),.lit (.int .i64 r.2.2.2.1),.lit (.int .u64 r.2.2.2.2.1),.lit (.int .u64 r.2.2.2.2.2.1),.lit (.int .u64 r.2.2.2.2.2.2.1),.lit (.int .i64 r.2.2.2.2.2.2.2)]]),[]):=by
 rw [aK]
 unfold iN
 simp -implicitDefEqProofs only [afJ,abU,LF,uz,afB,aaP,ah1,aan,af3,abM,agP,acw,aet,abi,↓syP,syA,syD,simprocAttr,syE,ah,ag,af,syW,xQ,cf,er,ix,fD,JU,ms,pm,iK]
end Go.Ab
set_option maxRecDepth 100000
set_option linter.unusedVariables false
set_option linter.unusedSimpArgs false
namespace Go.Ab
open Go.Proofs
def iD (v0:(Int×Int×Int×Int)) (v1:(List Int)) (v2:(Int×Int×Int×Int×Int×Int×Int)):Option Bool:=
 bif v2.1==6 then
 ob (bM v0) fun x8=>
 bif x8 then
 ob (dd v0) fun x9=>
 bif (↑v1.length:Int)==x9 then
 ob (aG v2) fun x10=>
 bif !x10 then
 bif decide (0≤v2.2.1) then
 some (decide (v2.2.1≤2))
 else
 some false
 else
 some false
 else
 some false
 else
 some false
 else
 bif v2.1==7 then
 ob (bM v0) fun x11=>
 bif x11 then
 ob (dd v0) fun x12=>
 bif (↑v1.length:Int)==x12 then
 ob (aG v2) fun x13=>
 bif !x13 then
 bif decide (0≤v2.2.1) then
 some (decide (v2.2.1≤2))
 else
 some false
 else
 some false
 else
 some false
 else
 some false
 else
 some false
theorem GL (k:Nat) (v0_0 v0_1 v0_2 v0_3:Int) (v1:List Int) (v2_0 v2_1 v2_2 v2_3 v2_4 v2_5 v2_6:Int):xC (k+15) none 189 [.agg [.lit (.int .i64 v0_0),.lit (.int .i64 v0_1),.lit (.int .i64 v0_2),.lit (.int .i64 v0_3)],.ro (List.map (aN .u64) v1),.agg [.lit (.int .i64 v2_0),.lit (.int .i64 v2_1),.lit (.int .i64 v2_2),.lit (.int .u64 v2_3),.lit (.int .u64 v2_4),.lit (.int .u64 v2_5),.lit (.int .i64 v2_6)]]=ob (iD (v0_0,v0_1,v0_2,v0_3) v1 (v2_0,v2_1,v2_2,v2_3,v2_4,v2_5,v2_6)) fun r=>some ((.lit (.bool r)),[]):=by
 rw [aK]
 unfold iD
 simp -implicitDefEqProofs only [ag5,aab,NR,Le,Mm,Ku,KP,uS,abr,Ys,aK (g:=190),Uj,PZ,Ye,OF,↓syP,syA,syD,simprocAttr,syE,ah,ag,af,syW,xQ,bL,eP,ew]
def gu (v0:Int) (v1:Int):Option Int:=
 some (orI IntKind.u64 (PV IntKind.u64 v0 16) (rJ IntKind.u64 v1 65535))
theorem uo (k:Nat) (v0 v1:Int):xC (k+1) none 233 [.lit (.int .u64 v0),.lit (.int .u64 v1)]=ob (gu v0 v1) fun r=>some ((.lit (.int .u64 r)),[]):=by
 rw [aK]
 unfold gu
 simp -implicitDefEqProofs only [agU,adt,↓syP,syA,syD,simprocAttr,syE,ah,ag,af,syW,xQ]
def cB (k:Nat) (v0:Int)  : Nat→Int→Option Int
 | 0,_=>none
 | n+1,sQ=>
 bif decide (sQ<(16:Int)) then
 bif decide ((0:Int)≤sQ) then
 bif rJ IntKind.u64 (Sr IntKind.u64 v0 sQ) (1:Int)==(1:Int) then
 some (sQ)
 else
 cB k v0  n (IntKind.i64.wrap (sQ+(1:Int)))
 else
 none
 else
 some ((-1:Int))
theorem nq (k:Nat) (v0:Int):∀ (n:Nat) (sQ:Int) ⦃j26:V⦄,rt none (bq (itX (xX (xS (k+9)) 234 0 (k+9) false) mE (3) (av (xX (xS (k+9)) 234 0 (k+9) false) (aB (xS (k+9)).P Tryz.f234) B6) n ⟨[.yld 2,.ptr 1 0 0 0,uu,j26,.lit (.int .i64 sQ),.junk,.junk,.junk,.junk,.junk,.junk,.junk,.junk,.junk,.junk,.junk,.junk,.junk,.junk],[.box [.lit (.int .i64 (0:Int))],.box [.lit (.int .u64 v0)],(.loop ⟨LoopState.ready,none,195,[.lit (.int .u64 v0),uu,.ptr 0 0 0 0,uu,.lit (.int .u64 v0),.fn (Fn.func (234:FuncId)) [] [.ptr 1 0 0 0],uu,uu],[(6:Tmp)],Gk,GC⟩)]⟩) (rfK (av (xX (xS (k+10)) 195 0 (k+10) false) (aB (xS (k+10)).P Tryz.f195) Bs) [.lit (.int .u64 v0),uu,.ptr 0 0 0 0,uu,.lit (.int .u64 v0),.fn (Fn.func (234:FuncId)) [] [.ptr 1 0 0 0],uu,uu] (2)))=ob (cB k v0  n sQ) fun r=>some ((.lit (.int .i64 r)),[]):=by
 intro n
 induction n with
 | zero=>intros;rfl
 | succ n ih=>
  intro sQ j26
  rw [cB]
  simp -implicitDefEqProofs only [abh,UM,T1,Gw,iZ,iH,nV,AU,ab4,Xu,aK (g:=220),acR,VC,Yr,Gb,Gd,nF,nP,↓syP,syA,syD,simprocAttr,syE,ah,ag,af,syW,xQ,LK,ih]
def fW (k:Nat) (v0:Int):Option Int:=
 cB k v0 (k+9) 0
theorem oo (k:Nat) (v0:Int):xC (k+11) none 195 [.lit (.int .u64 v0)]=ob (fW k v0) fun r=>some ((.lit (.int .i64 r)),[]):=by
 rw [aK]
 unfold fW
 simp -implicitDefEqProofs only [abh,UM,T1,Gw,iZ,iH,nV,AU,ab4,Xu,aK (g:=220),acR,VC,Yr,Gb,Gd,nF,nP,↓syP,syA,syD,simprocAttr,syE,ah,ag,af,syW,xQ,nq k v0]
def iY (k:Nat) (v0:Int):Option (Int×Int):=
 ob (cU v0) fun xu=>
 ob (dK v0) fun xq=>
 ob (gu (IntKind.u64.wrap (xq+1)) (rJ IntKind.u64 xu (IntKind.u64.wrap (xu - 1)))) fun x34=>
 ob (fW k xu) fun x35=>
 some (x34,x35)
theorem Gr (k:Nat) (v0:Int):xC (k+12) none 216 [.lit (.int .u64 v0)]=ob (iY k v0) fun r=>some ((.tup [.lit (.int .u64 r.1),.lit (.int .i64 r.2)]),[]):=by
 rw [aK]
 unfold iY
 simp -implicitDefEqProofs only [afZ,acF,↓syP,syA,syD,simprocAttr,syE,ah,ag,af,syW,xQ,ms,nJ,uo,oo]
def fi (k:Nat) (v0:Int):Option (Int×Int):=
 ob (iY k v0) fun xe=>
 some (xe.1,(IntKind.u64.wrap (bif decide (xe.2<0) then 0 else xe.2)))
theorem w6 (k:Nat) (v0:Int):xC (k+13) none 215 [.lit (.int .u64 v0)]=ob (fi k v0) fun r=>some ((.tup [.lit (.int .u64 r.1),.lit (.int .u64 r.2)]),[]):=by
 rw [aK]
 unfold fi
 simp -implicitDefEqProofs only [Uj,PZ,↓syP,syA,syD,simprocAttr,syE,ah,ag,af,syW,xQ,Gr]
def iI (v0:Int):Option Int:=
 ob (dK v0) fun xi=>
 ob (gu (IntKind.u64.wrap (xi+1)) 0) fun xr=>
 some xr
theorem FN (k:Nat) (v0:Int):xC (k+2) none 218 [.lit (.int .u64 v0)]=ob (iI v0) fun r=>some ((.lit (.int .u64 r)),[]):=by
 rw [aK]
 unfold iI
 simp -implicitDefEqProofs only [af4,ab3,↓syP,syA,syD,simprocAttr,syE,ah,ag,af,syW,xQ,ms,uo]
def fg (v0:Int):Option (Int×Int):=
 ob (iI v0) fun x51=>
 ob (cU v0) fun x52=>
 some (x51,x52)
theorem wR (k:Nat) (v0:Int):xC (k+3) none 217 [.lit (.int .u64 v0)]=ob (fg v0) fun r=>some ((.tup [.lit (.int .u64 r.1),.lit (.int .u64 r.2)]),[]):=by
 rw [aK]
 unfold fg
 simp -implicitDefEqProofs only [Ye,OF,↓syP,syA,syD,simprocAttr,syE,ah,ag,af,syW,xQ,nJ,FN]
def ea (k:Nat) (v0:(Int×Int×Int×Int)) (v1:(List Int)) (v2:(List Int))  : Nat→List Int→Int→Option (List Int)
 | 0,_,_=>none
 | n+1,sZ,sX=>
 bif decide (sX<(↑v2.length:Int)) then
 ob (idx v2 sX) fun x68=>
 ob (eR (v0.1,v0.2.1,v0.2.2.1,v0.2.2.2) x68) fun x69=>
 ob (bv sZ x69 (1:Int)) fun x70=>
 ea k v0 v1 v2  n (x70) (IntKind.i64.wrap (sX+(1:Int)))
 else
 some (sZ)
theorem oT (k:Nat) (v0_0 v0_1 v0_2 v0_3:Int) (v1 v2:List Int):∀ (n:Nat) (sZ:List Int) (sX:Int) ⦃j60:V⦄,rt none (itX (xX (xS (k+12)) 194 0 (k+12) false) BO (2) (av (xX (xS (k+12)) 194 0 (k+12) false) (aB (xS (k+12)).P Tryz.f194) BI) n ⟨[.agg [.lit (.int .i64 v0_0),.lit (.int .i64 v0_1),.lit (.int .i64 v0_2),.lit (.int .i64 v0_3)],.ro (List.map (aN IntKind.u64) sZ),.ro (List.map (aN IntKind.i64) v2),.ptr 0 0 0 0,uu,uu,.own 1 0 0,uu,j60,.ro (List.map (aN IntKind.i64) v2),.lit (.int .i64 (↑v2.length:Int)),.lit (.int .i64 sX),.junk,.junk,.junk,.junk,.junk,.junk,.junk,.junk,.junk,uu],[.box [.lit (.int .i64 v0_0),.lit (.int .i64 v0_1),.lit (.int .i64 v0_2),.lit (.int .i64 v0_3)],.rows 0 [] 0 true]⟩)=ob (ea k (v0_0,v0_1,v0_2,v0_3) v1 v2  n sZ sX) fun r=>some ((.ro (List.map (aN .u64) r)),[]):=by
 intro n
 induction n with
 | zero=>intros;rfl
 | succ n ih=>
  intro sZ sX j60
  rw [ea]
  simp -implicitDefEqProofs only [aba,UA,Vj,Gh,nK,↓syP,syA,syD,simprocAttr,syE,ah,ag,af,syW,xQ,er,pm,Nm,ih]
def fu (k:Nat) (v0:(Int×Int×Int×Int)) (v1:(List Int)) (v2:(List Int)):Option (List Int):=
 ea k v0 v1 v2 (k+12) v1 0
theorem Ge (k:Nat) (v0_0 v0_1 v0_2 v0_3:Int) (v1 v2:List Int):xC (k+13) none 194 [.agg [.lit (.int .i64 v0_0),.lit (.int .i64 v0_1),.lit (.int .i64 v0_2),.lit (.int .i64 v0_3)],.ro (List.map (aN .u64) v1),.ro (List.map (aN .i64) v2)]=ob (fu k (v0_0,v0_1,v0_2,v0_3) v1 v2) fun r=>some ((.ro (List.map (aN .u64) r)),[]):=by
 rw [aK]
 unfold fu
 simp -implicitDefEqProofs only [aba,UA,Vj,Gh,nK,↓syP,syA,syD,simprocAttr,syE,ah,ag,af,syW,xQ,oT k v0_0 v0_1 v0_2 v0_3 v1 v2]
def gm (k:Nat) (v0:(Int×Int×Int×Int)) (v1:(List Int)) (v2:(Int×Int×Int×Int×Int×Int×Int)):Option ((List Int)×(Int×Int×Int×Int×Int×Int×Int)):=
 ob (aO 8 v1) fun xs=>
 ob (iD v0 v1 v2) fun x94=>
 bif !x94 then
 some (xs,v2)
 else
 bif v2.2.1==0 then
 ob (aE xs 2) fun x95=>
 some (xs,(v2.1,1,v2.2.2.1,v2.2.2.2.1,x95,v2.2.2.2.2.2))
 else
 bif v2.2.1==1 then
 bif v2.1==6 then
 ob (fi (k+2) v2.2.2.2.2.1) fun x96=>
 ob (dh xs 2 v2.2.2.2.2.1 x96.1) fun x97=>
 bif !x97.2 then
 some (x97.1,(v2.1,0,v2.2.2))
 else
 ob (cU v2.2.2.2.2.1) fun x98=>
 bif x98==0 then
 ob (aX (v2.1,0,v2.2.2) 3 0) fun x99=>
 some (x97.1,x99)
 else
 some (x97.1,(v2.1,2,v2.2.2.1,v2.2.2.2.1,v2.2.2.2.2.1,x96.2,v2.2.2.2.2.2.2))
 else
 bif v2.1==7 then
 ob (fg v2.2.2.2.2.1) fun x100=>
 ob (dh xs 2 v2.2.2.2.2.1 x100.1) fun x101=>
 bif !x101.2 then
 some (x101.1,(v2.1,0,v2.2.2))
 else
 ob (cU v2.2.2.2.2.1) fun x102=>
 bif x102==0 then
 ob (aX (v2.1,0,v2.2.2) 3 0) fun x103=>
 some (x101.1,x103)
 else
 some (x101.1,(v2.1,2,v2.2.2.1,v2.2.2.2.1,v2.2.2.2.2.1,x100.2,v2.2.2.2.2.2.2))
 else
 none
 else
 bif v2.1==6 then
 bif decide (v2.2.2.2.2.2.1<8) then
 ob (fu (k+2) v0 xs [IntKind.i64.wrap v2.2.2.2.2.2.1]) fun x104=>
 ob (aX v2 1 v2.2.2.2.2.2.1) fun x105=>
 some (x104,x105)
 else
 ob (fu (k+2) v0 xs [(-1)]) fun x106=>
 ob (aX v2 1 v2.2.2.2.2.2.1) fun x107=>
 some (x106,x107)
 else
 ob (fW (k+4) v2.2.2.2.2.2.1) fun x108=>
 ob (fu (k+2) v0 xs [x108]) fun xL=>
 ob (cU v2.2.2.2.2.2.1) fun xb=>
 bif rJ IntKind.u64 xb (IntKind.u64.wrap (xb - 1))==0 then
 ob (cU v2.2.2.2.2.1) fun x111=>
 ob (aX (v2.1,v2.2.1,v2.2.2.1,v2.2.2.2.1,v2.2.2.2.2.1,xb,v2.2.2.2.2.2.2) 1 x111) fun x112=>
 some (xL,x112)
 else
 bif xb==0 then
 ob (cU v2.2.2.2.2.1) fun xp=>
 ob (aX (v2.1,v2.2.1,v2.2.2.1,v2.2.2.2.1,v2.2.2.2.2.1,xb,v2.2.2.2.2.2.2) 1 xp) fun x114=>
 some (xL,x114)
 else
 some (xL,(v2.1,v2.2.1,v2.2.2.1,v2.2.2.2.1,v2.2.2.2.2.1,(rJ IntKind.u64 xb (IntKind.u64.wrap (xb - 1))),v2.2.2.2.2.2.2))
theorem E9 (k:Nat) (v0_0 v0_1 v0_2 v0_3:Int) (v1:List Int) (v2_0 v2_1 v2_2 v2_3 v2_4 v2_5 v2_6:Int):xC (k+16) none 166 [.agg [.lit (.int .i64 v0_0),.lit (.int .i64 v0_1),.lit (.int .i64 v0_2),.lit (.int .i64 v0_3)],.ro (List.map (aN .u64) v1),.agg [.lit (.int .i64 v2_0),.lit (.int .i64 v2_1),.lit (.int .i64 v2_2),.lit (.int .u64 v2_3),.lit (.int .u64 v2_4),.lit (.int .u64 v2_5),.lit (.int .i64 v2_6)]]=ob (gm k (v0_0,v0_1,v0_2,v0_3) v1 (v2_0,v2_1,v2_2,v2_3,v2_4,v2_5,v2_6)) fun r=>some ((.tup [.ro (List.map (aN .u64) r.1),.agg [.lit (.int .i64 r.2.1),.lit (.int .i64 r.2.2.1),.lit (.int .i64 r.2.2.2.1),.lit (.int .u64 r.2.2.2.2.1),.lit (.int .u64 r.2.2.2.2.2.1),.lit (.int .u64 r.2.2.2.2.2.2.1),.lit (.int .i64 r.2.2.2.2.2.2.2)]]),[]):=by
 rw [aK]
 unfold gm
 simp -implicitDefEqProofs only [agX,aa6,L4,Nl,K7,rV,wb,wz,abr,Ys,aK (g:=190),Uj,PZ,Ye,OF,↓syP,syA,syD,simprocAttr,syE,ah,ag,af,syW,xQ,cf,ix,fD,nJ,GL,oo,w6,wR,Ge]
end Go.Ab
set_option maxRecDepth 100000
set_option linter.unusedVariables false
set_option linter.unusedSimpArgs false
namespace Go.Ab
open Go.Proofs
def iG (v0:(Int×Int×Int×Int)) (v1:(List Int)) (v2:(Int×Int×Int×Int×Int×Int×Int)):Option ((List Int)×(Int×Int×Int×Int×Int×Int×Int)):=
 ob (aO 8 v1) fun xt=>
 ob (eC v0 v1 v2 0 4) fun x15=>
 bif x15 then
 bif v2.2.1==0 then
 ob (cO v0 v2.2.2.1) fun x16=>
 ob (aE xt x16) fun xz=>
 some (xt,(v2.1,1,v2.2.2.1,v2.2.2.2.1,xz,v2.2.2.2.2.2))
 else
 bif v2.2.1==1 then
 ob (f8 v0 v2.2.2.1) fun x18=>
 ob (aE xt x18) fun x19=>
 bif decide (IntKind.u64.wrap v0.2.1≤IntKind.u64.wrap (v2.2.2.2.2.1 - x19)) then
 ob (aX (v2.1,2,v2.2.2.1,v2.2.2.2.1,v2.2.2.2.2.1,x19,v2.2.2.2.2.2.2) 2 v2.2.2.2.1) fun x20=>
 some (xt,x20)
 else
 some (xt,(v2.1,2,v2.2.2.1,v2.2.2.2.1,v2.2.2.2.2.1,x19,v2.2.2.2.2.2.2))
 else
 bif v2.2.1==2 then
 ob (eW v0 v2.2.2.1 v2.2.2.2.2.1) fun x21=>
 ob (bv xt x21 v2.2.2.2.1) fun x22=>
 some (x22,(v2.1,3,v2.2.2))
 else
 bif v2.2.1==3 then
 ob (cO v0 v2.2.2.1) fun x23=>
 ob (bv xt x23 (IntKind.u64.wrap (v2.2.2.2.2.1+1))) fun x24=>
 ob (aX v2 1 v2.2.2.2.1) fun x25=>
 some (x24,x25)
 else
 none
 else
 some (xt,v2)
theorem FC (k:Nat) (v0_0 v0_1 v0_2 v0_3:Int) (v1:List Int) (v2_0 v2_1 v2_2 v2_3 v2_4 v2_5 v2_6:Int):xC (k+24) none 207 [.agg [.lit (.int .i64 v0_0),.lit (.int .i64 v0_1),.lit (.int .i64 v0_2),.lit (.int .i64 v0_3)],.ro (List.map (aN .u64) v1),.agg [.lit (.int .i64 v2_0),.lit (.int .i64 v2_1),.lit (.int .i64 v2_2),.lit (.int .u64 v2_3),.lit (.int .u64 v2_4),.lit (.int .u64 v2_5),.lit (.int .i64 v2_6)]]=ob (iG (v0_0,v0_1,v0_2,v0_3) v1 (v2_0,v2_1,v2_2,v2_3,v2_4,v2_5,v2_6)) fun r=>some ((.tup [.ro (List.map (aN .u64) r.1),.agg [.lit (.int .i64 r.2.1),.lit (.int .i64 r.2.2.1),.lit (.int .i64 r.2.2.2.1),.lit (.int .u64 r.2.2.2.2.1),.lit (.int .u64 r.2.2.2.2.2.1),.lit (.int .u64 r.2.2.2.2.2.2.1),.lit (.int .i64 r.2.2.2.2.2.2.2)]]),[]):=by
 rw [aK]
 unfold iG
 simp -implicitDefEqProofs only [agL,Zl,NV,r8,agn,Z4,ahw,Zz,aeX,adg,ad7,YT,↓syP,syA,syD,simprocAttr,syE,ah,ag,af,syW,xQ,cf,er,fD,i5,eL,m8,iK]
def lC (v0:(Int×Int×Int×Int)) (v1:(List Int)) (v2:(Int×Int×Int×Int×Int×Int×Int)):Option ((List Int)×(Int×Int×Int×Int×Int×Int×Int)):=
 ob (aO 8 v1) fun xV=>
 ob (eC v0 v1 v2 1 7) fun x55=>
 bif !x55 then
 some (xV,v2)
 else
 ob (f8 v0 v2.2.2.1) fun x56=>
 ob (cO v0 v2.2.2.1) fun xo=>
 bif v2.2.1==0 then
 ob (aE xV xo) fun x58=>
 some (xV,(v2.1,(IntKind.i64.wrap (v2.2.1+1)),v2.2.2.1,v2.2.2.2.1,(IntKind.u64.wrap (x58 - 1)),v2.2.2.2.2.2))
 else
 bif v2.2.1==1 then
 ob (bv xV xo v2.2.2.2.2.1) fun xU=>
 some (xU,(v2.1,(IntKind.i64.wrap (v2.2.1+1)),v2.2.2))
 else
 bif v2.2.1==2 then
 ob (aE xV x56) fun xw=>
 ob (dz v2.2.2.2.2.1 xw) fun xj=>
 bif decide (xj<0) then
 some (xV,(v2.1,6,v2.2.2.1,v2.2.2.2.1,v2.2.2.2.2.1,xw,v2.2.2.2.2.2.2))
 else
 some (xV,(v2.1,(IntKind.i64.wrap (v2.2.1+1)),v2.2.2.1,v2.2.2.2.1,v2.2.2.2.2.1,xw,v2.2.2.2.2.2.2))
 else
 bif v2.2.1==3 then
 ob (eW v0 v2.2.2.1 v2.2.2.2.2.1) fun xP=>
 ob (aE xV xP) fun xN=>
 bif v2.2.2.2.2.1 !=v2.2.2.2.2.2.1 then
 ob (aX (v2.1,v2.2.1,v2.2.2.1,xN,v2.2.2.2.2) 1 xN) fun x64=>
 some (xV,x64)
 else
 some (xV,(v2.1,(IntKind.i64.wrap (v2.2.1+1)),v2.2.2.1,xN,v2.2.2.2.2))
 else
 bif v2.2.1==4 then
 ob (dh xV x56 v2.2.2.2.2.2.1 (IntKind.u64.wrap (v2.2.2.2.2.2.1+1))) fun xc=>
 bif !xc.2 then
 some (xc.1,(v2.1,6,v2.2.2))
 else
 some (xc.1,(v2.1,(IntKind.i64.wrap (v2.2.1+1)),v2.2.2))
 else
 bif v2.2.1==5 then
 ob (bv xV xo (IntKind.u64.wrap (v2.2.2.2.2.1+1))) fun x66=>
 ob (aX v2 1 v2.2.2.2.1) fun x67=>
 some (x66,x67)
 else
 ob (bv xV xo (IntKind.u64.wrap (v2.2.2.2.2.1+1))) fun x68=>
 ob (aX v2 3 0) fun x69=>
 some (x68,x69)
theorem I9 (k:Nat) (v0_0 v0_1 v0_2 v0_3:Int) (v1:List Int) (v2_0 v2_1 v2_2 v2_3 v2_4 v2_5 v2_6:Int):xC (k+24) none 208 [.agg [.lit (.int .i64 v0_0),.lit (.int .i64 v0_1),.lit (.int .i64 v0_2),.lit (.int .i64 v0_3)],.ro (List.map (aN .u64) v1),.agg [.lit (.int .i64 v2_0),.lit (.int .i64 v2_1),.lit (.int .i64 v2_2),.lit (.int .u64 v2_3),.lit (.int .u64 v2_4),.lit (.int .u64 v2_5),.lit (.int .i64 v2_6)]]=ob (lC (v0_0,v0_1,v0_2,v0_3) v1 (v2_0,v2_1,v2_2,v2_3,v2_4,v2_5,v2_6)) fun r=>some ((.tup [.ro (List.map (aN .u64) r.1),.agg [.lit (.int .i64 r.2.1),.lit (.int .i64 r.2.2.1),.lit (.int .i64 r.2.2.2.1),.lit (.int .u64 r.2.2.2.2.1),.lit (.int .u64 r.2.2.2.2.2.1),.lit (.int .u64 r.2.2.2.2.2.2.1),.lit (.int .i64 r.2.2.2.2.2.2.2)]]),[]):=by
 rw [aK]
 unfold lC
 simp -implicitDefEqProofs only [aht,aaX,agW,Z7,↓syP,syA,syD,simprocAttr,syE,ah,ag,af,syW,xQ,cf,er,ix,fD,i5,eL,m8,fI,iK]
def ao (k : Nat) (v0 : (Int × Int × Int × Int)) (v1 : (List Int)) (v2 : (Int × Int × Int × Int × Int × Int × Int))  : Nat → List Int → Int → Int → Int → Option ((List Int) × (Int × Int × Int × Int × Int × Int × Int))
 | 0,_,_,_,_ => none
 | n + 1,sB,sL,sN,sA =>
 bif decide (sA < (4 : Int)) then
 bif decide ((0 : Int) ≤ sA ∧ sA.toNat < (4 : Nat)) then
 bif sA.toNat == (0 : Nat) then
 bif sA != v2.2.1 then
 ao k v0 v1 v2  n (sB) (sL) (sN) (IntKind.i64.wrap (sA + (1 : Int)))
 else
 ob (aE sB sL) fun xO =>
 ob (aG (v2.1,v2.2.1,v2.2.2.1,v2.2.2.2.1,v2.2.2.2.2.1,xO,v2.2.2.2.2.2.2)) fun x153 =>
 bif !x153 then
 some ((sB),((v2.1),(IntKind.i64.wrap (v2.2.1 + (1 : Int))),(v2.2.2.1),(v2.2.2.2.1),(v2.2.2.2.2.1),(xO),(v2.2.2.2.2.2.2)))
 else
 some ((sB),((v2.1),(v2.2.1),(v2.2.2.1),(v2.2.2.2.1),(v2.2.2.2.2.1),(xO),(v2.2.2.2.2.2.2)))
 else
 bif sA.toNat == (1 : Nat) then
 bif sA != v2.2.1 then
 ao k v0 v1 v2  n (sB) (sL) (sN) (IntKind.i64.wrap (sA + (1 : Int)))
 else
 ob (aE sB sN) fun xk =>
 ob (dz xk v2.2.2.2.2.2.1) fun xv =>
 bif decide (xv ≤ (0 : Int)) then
 ob (aX (v2.1,v2.2.1,v2.2.2.1,v2.2.2.2.1,xk,v2.2.2.2.2.2.1,v2.2.2.2.2.2.2) (3 : Int) (0 : Int)) fun xI =>
 ob (aG (xI.1,xI.2.1,xI.2.2.1,xI.2.2.2.1,xI.2.2.2.2.1,xI.2.2.2.2.2.1,xI.2.2.2.2.2.2)) fun x157 =>
 bif !x157 then
 some ((sB),((xI.1),(IntKind.i64.wrap (xI.2.1 + (1 : Int))),(xI.2.2.1),(xI.2.2.2.1),(xI.2.2.2.2.1),(xI.2.2.2.2.2.1),(xI.2.2.2.2.2.2)))
 else
 some ((sB),((xI.1),(xI.2.1),(xI.2.2.1),(xI.2.2.2.1),(xI.2.2.2.2.1),(xI.2.2.2.2.2.1),(xI.2.2.2.2.2.2)))
 else
 ob (aG (v2.1,v2.2.1,v2.2.2.1,v2.2.2.2.1,xk,v2.2.2.2.2.2.1,v2.2.2.2.2.2.2)) fun x158 =>
 bif !x158 then
 some ((sB),((v2.1),(IntKind.i64.wrap (v2.2.1 + (1 : Int))),(v2.2.2.1),(v2.2.2.2.1),(xk),(v2.2.2.2.2.2.1),(v2.2.2.2.2.2.2)))
 else
 some ((sB),((v2.1),(v2.2.1),(v2.2.2.1),(v2.2.2.2.1),(xk),(v2.2.2.2.2.2.1),(v2.2.2.2.2.2.2)))
 else
 bif sA.toNat == (2 : Nat) then
 bif sA != v2.2.1 then
 ao k v0 v1 v2  n (sB) (sL) (sN) (IntKind.i64.wrap (sA + (1 : Int)))
 else
 ob (eW (v0.1,v0.2.1,v0.2.2.1,v0.2.2.2) v2.2.2.1 v2.2.2.2.2.2.1) fun x159 =>
 ob (aE sB x159) fun xl =>
 ob (aG (v2.1,v2.2.1,v2.2.2.1,xl,v2.2.2.2.2.1,v2.2.2.2.2.2.1,v2.2.2.2.2.2.2)) fun x161 =>
 bif !x161 then
 some ((sB),((v2.1),(IntKind.i64.wrap (v2.2.1 + (1 : Int))),(v2.2.2.1),(xl),(v2.2.2.2.2.1),(v2.2.2.2.2.2.1),(v2.2.2.2.2.2.2)))
 else
 some ((sB),((v2.1),(v2.2.1),(v2.2.2.1),(xl),(v2.2.2.2.2.1),(v2.2.2.2.2.2.1),(v2.2.2.2.2.2.2)))
 else
 bif sA.toNat == (3 : Nat) then
 bif sA != v2.2.1 then
 ao k v0 v1 v2  n (sB) (sL) (sN) (IntKind.i64.wrap (sA + (1 : Int)))
 else
 ob (dh sB sL v2.2.2.2.2.2.1 (IntKind.u64.wrap (v2.2.2.2.2.2.1 + (1 : Int)))) fun xa =>
 bif xa.2 then
 ob (aX (v2.1,v2.2.1,v2.2.2.1,v2.2.2.2.1,v2.2.2.2.2.1,v2.2.2.2.2.2.1,v2.2.2.2.2.2.2) (1 : Int) v2.2.2.2.1) fun xJ =>
 ob (aG (xJ.1,xJ.2.1,xJ.2.2.1,xJ.2.2.2.1,xJ.2.2.2.2.1,xJ.2.2.2.2.2.1,xJ.2.2.2.2.2.2)) fun x164 =>
 bif !x164 then
 some ((xa.1),((xJ.1),(IntKind.i64.wrap (xJ.2.1 + (1 : Int))),(xJ.2.2.1),(xJ.2.2.2.1),(xJ.2.2.2.2.1),(xJ.2.2.2.2.2.1),(xJ.2.2.2.2.2.2)))
 else
 some ((xa.1),((xJ.1),(xJ.2.1),(xJ.2.2.1),(xJ.2.2.2.1),(xJ.2.2.2.2.1),(xJ.2.2.2.2.2.1),(xJ.2.2.2.2.2.2)))
 else
 ob (aX (v2.1,v2.2.1,v2.2.2.1,v2.2.2.2.1,v2.2.2.2.2.1,v2.2.2.2.2.2.1,v2.2.2.2.2.2.2) (4 : Int) (0 : Int)) fun xK =>
 ob (aG (xK.1,xK.2.1,xK.2.2.1,xK.2.2.2.1,xK.2.2.2.2.1,xK.2.2.2.2.2.1,xK.2.2.2.2.2.2)) fun x166 =>
 bif !x166 then
 some ((xa.1),((xK.1),(IntKind.i64.wrap (xK.2.1 + (1 : Int))),(xK.2.2.1),(xK.2.2.2.1),(xK.2.2.2.2.1),(xK.2.2.2.2.2.1),(xK.2.2.2.2.2.2)))
 else
 some ((xa.1),((xK.1),(xK.2.1),(xK.2.2.1),(xK.2.2.2.1),(xK.2.2.2.2.1),(xK.2.2.2.2.2.1),(xK.2.2.2.2.2.2)))
 else
 none
 else
 none
 else
 some ((sB),((v2.1),(v2.2.1),(v2.2.2.1),(v2.2.2.2.1),(v2.2.2.2.2.1),(v2.2.2.2.2.2.1),(v2.2.2.2.2.2.2)))
theorem oe (k:Nat) (v0_0 v0_1 v0_2 v0_3:Int) (v1:List Int) (v2_0 v2_1 v2_2 v2_3 v2_4 v2_5 v2_6:Int):∀ (n:Nat) (sB:List Int) (sL sN sA:Int) ⦃sg sh:Bool⦄ ⦃j115 j116:V⦄,rt none (itX (xX (xS (k+23)) 209 0 (k+23) false) Bu (9) (av (xX (xS (k+23)) 209 0 (k+23) false) (aB (xS (k+23)).P Tryz.f209) Be) n ⟨[.agg [.lit (.int .i64 v0_0),.lit (.int .i64 v0_1),.lit (.int .i64 v0_2),.lit (.int .i64 v0_3)],.ro (List.map (aN IntKind.u64) v1),.agg [.lit (.int .i64 v2_0),.lit (.int .i64 v2_1),.lit (.int .i64 v2_2),.lit (.int .u64 v2_3),.lit (.int .u64 v2_4),.lit (.int .u64 v2_5),.lit (.int .i64 v2_6)],.ptr 0 0 0 0,uu,.ptr 1 0 0 0,.own 2 0 0,.ptr 3 0 0 0,.ptr 5 0 0 0,.ptr 6 0 0 0,.ptr 7 0 0 0,.own 8 0 4,j115,j116,.ro (List.map (aN IntKind.u64) v1),.ro (List.map (aN IntKind.u64) sB),.agg [.lit (.int .i64 v0_0),.lit (.int .i64 v0_1),.lit (.int .i64 v0_2),.lit (.int .i64 v0_3)],.ro (List.map (aN IntKind.u64) v1),.agg [.lit (.int .i64 v2_0),.lit (.int .i64 v2_1),.lit (.int .i64 v2_2),.lit (.int .u64 v2_3),.lit (.int .u64 v2_4),.lit (.int .u64 v2_5),.lit (.int .i64 v2_6)],.lit (.bool sg),.lit (.bool sh),uu,uu,.agg [.lit (.int .i64 v0_0),.lit (.int .i64 v0_1),.lit (.int .i64 v0_2),.lit (.int .i64 v0_3)],.ptr 1 0 0 2,.lit (.int .i64 v2_2),.lit (.int .i64 sL),.agg [.lit (.int .i64 v0_0),.lit (.int .i64 v0_1),.lit (.int .i64 v0_2),.lit (.int .i64 v0_3)],.ptr 1 0 0 2,.lit (.int .i64 v2_2),.lit (.int .i64 sN),.fn (Fn.func (229:FuncId)) [] [.ptr 5 0 0 0,.ptr 6 0 0 0,.ptr 1 0 0 0],.fn (Fn.func (230:FuncId)) [] [.ptr 5 0 0 0,.ptr 7 0 0 0,.ptr 1 0 0 0],.fn (Fn.func (231:FuncId)) [] [.ptr 5 0 0 0,.ptr 0 0 0 0,.ptr 1 0 0 0],.fn (Fn.func (232:FuncId)) [] [.ptr 5 0 0 0,.ptr 6 0 0 0,.ptr 1 0 0 0],.own 8 0 4,.own 8 0 4,.lit (.int .i64 (4:Int)),.lit (.int .i64 sA),.junk,.junk,.junk,.junk,.junk,.junk,.junk,.junk,.junk,.junk,.junk,.junk,.junk,.junk,.junk,.junk,.junk,.junk,uu,uu],[.box [.lit (.int .i64 v0_0),.lit (.int .i64 v0_1),.lit (.int .i64 v0_2),.lit (.int .i64 v0_3)],.box [.lit (.int .i64 v2_0),.lit (.int .i64 v2_1),.lit (.int .i64 v2_2),.lit (.int .u64 v2_3),.lit (.int .u64 v2_4),.lit (.int .u64 v2_5),.lit (.int .i64 v2_6)],.rows 0 [] 0 true,.box [.lit (.int .i64 (0:Int)),.lit (.int .i64 (0:Int)),.lit (.int .i64 (0:Int)),.lit (.int .u64 (0:Int)),.lit (.int .u64 (0:Int)),.lit (.int .u64 (0:Int)),.lit (.int .i64 (0:Int))],.rows 0 [] 0 true,.box [.ro (List.map (aN IntKind.u64) sB)],.box [.lit (.int .i64 sL)],.box [.lit (.int .i64 sN)],.rows 1 [[.fn (Fn.func (229:FuncId)) [] [.ptr 5 0 0 0,.ptr 6 0 0 0,.ptr 1 0 0 0]],[.fn (Fn.func (230:FuncId)) [] [.ptr 5 0 0 0,.ptr 7 0 0 0,.ptr 1 0 0 0]],[.fn (Fn.func (231:FuncId)) [] [.ptr 5 0 0 0,.ptr 0 0 0 0,.ptr 1 0 0 0]],[.fn (Fn.func (232:FuncId)) [] [.ptr 5 0 0 0,.ptr 6 0 0 0,.ptr 1 0 0 0]]] 0 true]⟩)=ob (ao k (v0_0,v0_1,v0_2,v0_3) v1 (v2_0,v2_1,v2_2,v2_3,v2_4,v2_5,v2_6)  n sB sL sN sA) fun r=>some ((.tup [.ro (List.map (aN .u64) r.1),.agg [.lit (.int .i64 r.2.1),.lit (.int .i64 r.2.2.1),.lit (.int .i64 r.2.2.2.1),.lit (.int .u64 r.2.2.2.2.1),.lit (.int .u64 r.2.2.2.2.2.1),.lit (.int .u64 r.2.2.2.2.2.2.1),.lit (.int .i64 r.2.2.2.2.2.2.2)]]),[]):=by
 intro n
 induction n with
 | zero=>intros;rfl
 | succ n ih=>
  intro sB sL sN sA sg sh j115 j116
  rw [ao]
  simp -implicitDefEqProofs only [ZM,U0,Wz,FS,nv,Y2,Xb,acZ,Ut,ab7,Vq,adk,V5,↓syP,syA,syD,simprocAttr,syE,ah,ag,af,syW,xQ,cf,ix,ew,fD,i5,eL,m8,fI,iK,Mq,ih]
def gJ (k:Nat) (v0:(Int×Int×Int×Int)) (v1:(List Int)) (v2:(Int×Int×Int×Int×Int×Int×Int)):Option ((List Int)×(Int×Int×Int×Int×Int×Int×Int)):=
 ob (aO 8 v1) fun x167=>
 ob (eC v0 v1 v2 2 4) fun x168=>
 bif !x168 then
 some (x167,v2)
 else
 ob (f8 v0 v2.2.2.1) fun x169=>
 ob (cO v0 v2.2.2.1) fun x170=>
 ao k v0 v1 v2 (k+23) x167 x169 x170 0
theorem EH (k:Nat) (v0_0 v0_1 v0_2 v0_3:Int) (v1:List Int) (v2_0 v2_1 v2_2 v2_3 v2_4 v2_5 v2_6:Int):xC (k+24) none 209 [.agg [.lit (.int .i64 v0_0),.lit (.int .i64 v0_1),.lit (.int .i64 v0_2),.lit (.int .i64 v0_3)],.ro (List.map (aN .u64) v1),.agg [.lit (.int .i64 v2_0),.lit (.int .i64 v2_1),.lit (.int .i64 v2_2),.lit (.int .u64 v2_3),.lit (.int .u64 v2_4),.lit (.int .u64 v2_5),.lit (.int .i64 v2_6)]]=ob (gJ k (v0_0,v0_1,v0_2,v0_3) v1 (v2_0,v2_1,v2_2,v2_3,v2_4,v2_5,v2_6)) fun r=>some ((.tup [.ro (List.map (aN .u64) r.1),.agg [.lit (.int .i64 r.2.1),.lit (.int .i64 r.2.2.1),.lit (.int .i64 r.2.2.2.1),.lit (.int .u64 r.2.2.2.2.1),.lit (.int .u64 r.2.2.2.2.2.1),.lit (.int .u64 r.2.2.2.2.2.2.1),.lit (.int .i64 r.2.2.2.2.2.2.2)]]),[]):=by
 rw [aK]
 unfold gJ
 simp -implicitDefEqProofs only [ZM,U0,Wz,FS,nv,Y2,Xb,acZ,Ut,ab7,Vq,adk,V5,↓syP,syA,syD,simprocAttr,syE,ah,ag,af,syW,xQ,i5,eL,iK,oe k v0_0 v0_1 v0_2 v0_3 v1 v2_0 v2_1 v2_2 v2_3 v2_4 v2_5 v2_6]
def eF (k:Nat) (v0:(Int×Int×Int×Int)) (v1:(List Int)) (v2:(Int×Int×Int×Int×Int×Int×Int)):Option ((List Int)×(Int×Int×Int×Int×Int×Int×Int)):=
 bif v2.1==0 then
 ob (iG v0 v1 v2) fun x179=>
 some x179
 else
 bif v2.1==1 then
 ob (lC v0 v1 v2) fun x180=>
 some x180
 else
 bif v2.1==2 then
 ob (gJ (k+1) v0 v1 v2) fun x181=>
 some x181
 else
 ob (aO 8 v1) fun x182=>
 some (x182,v2)
theorem CJ (k:Nat) (v0_0 v0_1 v0_2 v0_3:Int) (v1:List Int) (v2_0 v2_1 v2_2 v2_3 v2_4 v2_5 v2_6:Int):xC (k+26) none 180 [.agg [.lit (.int .i64 v0_0),.lit (.int .i64 v0_1),.lit (.int .i64 v0_2),.lit (.int .i64 v0_3)],.ro (List.map (aN .u64) v1),.agg [.lit (.int .i64 v2_0),.lit (.int .i64 v2_1),.lit (.int .i64 v2_2),.lit (.int .u64 v2_3),.lit (.int .u64 v2_4),.lit (.int .u64 v2_5),.lit (.int .i64 v2_6)]]=ob (eF k (v0_0,v0_1,v0_2,v0_3) v1 (v2_0,v2_1,v2_2,v2_3,v2_4,v2_5,v2_6)) fun r=>some ((.tup [.ro (List.map (aN .u64) r.1),.agg [.lit (.int .i64 r.2.1),.lit (.int .i64 r.2.2.1),.lit (.int .i64 r.2.2.2.1),.lit (.int .u64 r.2.2.2.2.1),.lit (.int .u64 r.2.2.2.2.2.1),.lit (.int .u64 r.2.2.2.2.2.2.1),.lit (.int .i64 r.2.2.2.2.2.2.2)]]),[]):=by
 rw [aK]
 unfold eF
 simp -implicitDefEqProofs only [ahS,acr,↓syP,syA,syD,simprocAttr,syE,ah,ag,af,syW,xQ,FC,I9,EH]
end Go.Ab
set_option maxRecDepth 100000
set_option linter.unusedVariables false
set_option linter.unusedSimpArgs false
namespace Go.Ab
open Go.Proofs
def fH (v0:Int) (v1:Int):Option Bool:=
 bif decide (0≤v0) then
 some (decide (v0≤v1))
 else
 some false
theorem AH (k:Nat) (v0 v1:Int):xC (k+1) none 172 [.lit (.int .i64 v0),.lit (.int .i64 v1)]=ob (fH v0 v1) fun r=>some ((.lit (.bool r)),[]):=by
 rw [aK]
 unfold fH
 simp -implicitDefEqProofs only [agj,YX,LC,ww,↓syP,syA,syD,simprocAttr,syE,ah,ag,af,syW,xQ]
def bN (k:Nat)   : Nat→Tye→Int→Tyt→Int→Option Int
 | 0,_,_,_,_=>none
 | n+1,s3,s4,s5,sJ=>
 bif decide (sJ<s4) then
 ob (idx s3 sJ) fun xd=>
 ob (fH xd.1 (IntKind.i64.wrap ((↑s5.length:Int) - (1:Int)))) fun xu=>
 bif !xu then
 some (sJ)
 else
 ob (idx s5 xd.1) fun xq=>
 ob (fH xd.2.1 xq.1) fun x34=>
 bif !x34 then
 some (sJ)
 else
 ob (fH xd.2.2 (↑xq.2.length:Int)) fun x35=>
 bif !x35 then
 some (sJ)
 else
 bif decide (xd.2.1<xq.1) then
 bif decide ((0:Int)<xd.2.2) then
 some (sJ)
 else
 bN k   n (s3) (s4) (s5) (IntKind.i64.wrap (sJ+(1:Int)))
 else
 bN k   n (s3) (s4) (s5) (IntKind.i64.wrap (sJ+(1:Int)))
 else
 some ((-1:Int))
theorem nb (k:Nat)  : ∀ (n:Nat) (s3:Tye) (s4:Int) (s5:Tyt) (sJ:Int) ⦃j12:V⦄,itX (xX (xS (k+17)) 206 0 (k+17) false) Cd (1) (av (xX (xS (k+17)) 206 0 (k+17) false) (aB (xS (k+17)).P Tryz.f206) Cn) n ⟨[.ro (List.map aZ s3),.fn (Fn.func (171:FuncId)) [] [.ptr 0 0 0 0],uu,uu,.lit (.int .i64 (0:Int)),j12,.ro (List.map aZ s3),.lit (.int .i64 s4),.lit (.int .i64 sJ),.junk,.junk,.junk,.junk,.junk,.junk,.junk,.junk,.junk,.junk],[.box [.ro (List.map ap s5)]]⟩=ob (bN k   n s3 s4 s5 sJ) fun r=>some ((.lit (.int .i64 r),[.box [.ro (List.map ap s5)]])):=by
 intro n
 induction n with
 | zero=>intros;rfl
 | succ n ih=>
  intro s3 s4 s5 sJ j12
  rw [bN]
  simp -implicitDefEqProofs only [Ze,XS,Ft,nN,adC,WZ,abB,Xw,Fu,F5,Gs,F9,Fb,Gu,nn,aaJ,T8,W3,EW,nA,↓syP,syA,syD,simprocAttr,syE,ah,ag,af,syW,xQ,AH,Me,ih]
def fE (k:Nat) (v0:Tyt) (v1:Tye):Option Bool:=
 ob (cQ k v0) fun xT=>
 bif xT then
 ob (bN k (k+17) v1 (↑v1.length:Int) v0 0) fun xE=>
 some (!decide (0≤xE))
 else
 some false
theorem nS (k:Nat) (v0:Tyt) (v1:Tye):xC (k+20) none 146 [.ro (List.map ap v0),.ro (List.map aZ v1)]=ob (fE k v0 v1) fun r=>some ((.lit (.bool r)),[]):=by
 rw [aK]
 unfold fE
 simp -implicitDefEqProofs only [Ze,XS,Ft,nN,adC,WZ,abB,Xw,Fu,F5,Gs,F9,Fb,Gu,nn,aaJ,T8,W3,EW,nA,↓syP,syA,syD,simprocAttr,syE,ah,ag,af,syW,xQ,cN,nb]
def dJ (k:Nat) (v0:Tyt) (v1:Tye):Option (Int×Int):=
 bif (↑v1.length:Int)==0 then
 some (0,0)
 else
 ob (fE k v0 v1) fun xw=>
 bif !xw then
 some (0,0)
 else
 ob (idx v1 (IntKind.i64.wrap ((↑v1.length:Int) - 1))) fun xj=>
 ob (idx v0 xj.1) fun xP=>
 bif decide (xj.2.1<xP.1) then
 some (1,xj.1)
 else
 bif decide (xj.2.2<(↑xP.2.length:Int)) then
 ob (idx xP.2 xj.2.2) fun xN=>
 some (2,xN)
 else
 some (3,xj.1)
theorem rm (k:Nat) (v0:Tyt) (v1:Tye):xC (k+21) none 162 [.ro (List.map ap v0),.ro (List.map aZ v1)]=ob (dJ k v0 v1) fun r=>some ((.agg [.lit (.int .i64 r.1),.lit (.int .i64 r.2)]),[]):=by
 rw [aK]
 unfold dJ
 simp -implicitDefEqProofs only [aec,abF,NC,wj,↓syP,syA,syD,simprocAttr,syE,ah,ag,af,syW,xQ,nS]
def fO (k:Nat) (v0:Tyt) (v1:Tye):Option Tye:=
 ob (aO 24 v1) fun xH=>
 ob (dJ k v0 v1) fun x75=>
 bif x75.1==1 then
 bif decide (0≤IntKind.i64.wrap ((↑xH.length:Int) - 1)∧(IntKind.i64.wrap ((↑xH.length:Int) - 1)).toNat<xH.length) then
 ob (xH[(IntKind.i64.wrap ((↑xH.length:Int) - 1)).toNat]?) fun x76=>
 bif decide (0≤IntKind.i64.wrap ((↑xH.length:Int) - 1)∧(IntKind.i64.wrap ((↑xH.length:Int) - 1)).toNat<xH.length) then
 ob (xH[(IntKind.i64.wrap ((↑xH.length:Int) - 1)).toNat]?) fun x77=>
 some (xH.set (IntKind.i64.wrap ((↑xH.length:Int) - 1)).toNat (x77.1,IntKind.i64.wrap (x76.2.1+1),x77.2.2))
 else
 none
 else
 none
 else
 bif x75.1==2 then
 bif decide (0≤IntKind.i64.wrap ((↑xH.length:Int) - 1)∧(IntKind.i64.wrap ((↑xH.length:Int) - 1)).toNat<xH.length) then
 ob (xH[(IntKind.i64.wrap ((↑xH.length:Int) - 1)).toNat]?) fun x78=>
 bif decide (0≤IntKind.i64.wrap ((↑xH.length:Int) - 1)∧(IntKind.i64.wrap ((↑xH.length:Int) - 1)).toNat<xH.length) then
 ob (xH[(IntKind.i64.wrap ((↑xH.length:Int) - 1)).toNat]?) fun x79=>
 some (xH.set (IntKind.i64.wrap ((↑xH.length:Int) - 1)).toNat (x79.1,x79.2.1,IntKind.i64.wrap (x78.2.2+1)))
 else
 none
 else
 none
 else
 bif x75.1==3 then
 ck (decide (0≤IntKind.i64.wrap ((↑xH.length:Int) - 1)∧(IntKind.i64.wrap ((↑xH.length:Int) - 1)).toNat≤xH.length)) (
 ck (decide ((IntKind.i64.wrap ((↑xH.length:Int) - 1)).toNat≤xH.length)) (
 some (List.take (IntKind.i64.wrap ((↑xH.length:Int) - 1)).toNat xH)))
 else
 some xH
theorem JA (k:Nat) (v0:Tyt) (v1:Tye):xC (k+22) none 163 [.ro (List.map ap v0),.ro (List.map aZ v1)]=ob (fO k v0 v1) fun r=>some ((.ro (List.map aZ r)),[]):=by
 rw [aK]
 unfold fO
 simp -implicitDefEqProofs only [ahr,adf,ae1,abe,aK (g:=182),agf,Zm,ahT,acA,ag2,abw,↓syP,syA,syD,simprocAttr,syE,ah,ag,af,syW,xQ,rm]
def dp (k:Nat) (v0:Tyt) (v1:Tye) (v2:Int):Option Tye:=
 ob (aO 24 v1) fun x89=>
 ob (fE k v0 v1) fun x90=>
 bif !x90 then
 some x89
 else
 ob (fH v2 (IntKind.i64.wrap ((↑v0.length:Int) - 1))) fun x91=>
 bif !x91 then
 some x89
 else
 bif room (x89++[(v2,0,0)]).length 24 then
 some (x89++[(v2,0,0)])
 else
 none
theorem BC (k:Nat) (v0:Tyt) (v1:Tye) (v2:Int):xC (k+21) none 181 [.ro (List.map ap v0),.ro (List.map aZ v1),.lit (.int .i64 v2)]=ob (dp k v0 v1 v2) fun r=>some ((.ro (List.map aZ r)),[]):=by
 rw [aK]
 unfold dp
 simp -implicitDefEqProofs only [agG,abW,MK,wg,↓syP,syA,syD,simprocAttr,syE,ah,ag,af,syW,xQ,AH,nS]
end Go.Ab
set_option maxRecDepth 100000
set_option linter.unusedVariables false
set_option linter.unusedSimpArgs false
namespace Go.Ab
open Go.Proofs
def bY (k:Nat) (v0:(Int×Int×Int×Int)) (v1:(List Int)) (v2:(Int×Int×Int×Int×Int×Int×Int)):Option ((List Int)×(Int×Int×Int×Int×Int×Int×Int)):=
 bif v2.1==5 then
 ob (iN v0 v1 v2) fun x6=>
 some x6
 else
 bif v2.1==6 then
 bif v2.1==6 then
 ob (gm k v0 v1 v2) fun x7=>
 some x7
 else
 ob (aO 8 v1) fun x8=>
 some (x8,v2)
 else
 bif v2.1==7 then
 ob (gm k v0 v1 v2) fun x9=>
 some x9
 else
 ob (aO 8 v1) fun x10=>
 some (x10,v2)
theorem pW (k:Nat) (v0_0 v0_1 v0_2 v0_3:Int) (v1:List Int) (v2_0 v2_1 v2_2 v2_3 v2_4 v2_5 v2_6:Int):xC (k+17) none 134 [.agg [.lit (.int .i64 v0_0),.lit (.int .i64 v0_1),.lit (.int .i64 v0_2),.lit (.int .i64 v0_3)],.ro (List.map (aN .u64) v1),.agg [.lit (.int .i64 v2_0),.lit (.int .i64 v2_1),.lit (.int .i64 v2_2),.lit (.int .u64 v2_3),.lit (.int .u64 v2_4),.lit (.int .u64 v2_5),.lit (.int .i64 v2_6)]]=ob (bY k (v0_0,v0_1,v0_2,v0_3) v1 (v2_0,v2_1,v2_2,v2_3,v2_4,v2_5,v2_6)) fun r=>some ((.tup [.ro (List.map (aN .u64) r.1),.agg [.lit (.int .i64 r.2.1),.lit (.int .i64 r.2.2.1),.lit (.int .i64 r.2.2.2.1),.lit (.int .u64 r.2.2.2.2.1),.lit (.int .u64 r.2.2.2.2.2.1),.lit (.int .u64 r.2.2.2.2.2.2.1),.lit (.int .i64 r.2.2.2.2.2.2.2)]]),[]):=by
 rw [aK]
 unfold bY
 simp -implicitDefEqProofs only [ah2,acY,KJ,ua,↓syP,syA,syD,simprocAttr,syE,ah,ag,af,syW,xQ,Gy,E9]
def iC (v0:(Int×Int×Int×Int)) (v1:(List Int)):Option Bool:=
 ob (bM v0) fun x20=>
 bif x20 then
 ob (dd v0) fun x21=>
 some ((↑v1.length:Int)==x21)
 else
 some false
theorem AQ (k:Nat) (v0_0 v0_1 v0_2 v0_3:Int) (v1:List Int):xC (k+4) none 105 [.agg [.lit (.int .i64 v0_0),.lit (.int .i64 v0_1),.lit (.int .i64 v0_2),.lit (.int .i64 v0_3)],.ro (List.map (aN .u64) v1)]=ob (iC (v0_0,v0_1,v0_2,v0_3) v1) fun r=>some ((.lit (.bool r)),[]):=by
 rw [aK]
 unfold iC
 simp -implicitDefEqProofs only [afT,abJ,Ke,ul,↓syP,syA,syD,simprocAttr,syE,ah,ag,af,syW,xQ,bL,eP]
def iq (v0:(Int×Int×Int×Int)) (v1:(List Int)) (v2:(Int×Int×Int×Int×Int×Int×Int)) (v3:Int):Option Bool:=
 ob (iC v0 v1) fun x26=>
 bif x26 then
 ob (aG v2) fun x27=>
 bif !x27 then
 bif v2.1==v3 then
 bif decide (0≤v2.2.1) then
 some (decide (v2.2.1<5))
 else
 some false
 else
 some false
 else
 some false
 else
 some false
theorem AC (k:Nat) (v0_0 v0_1 v0_2 v0_3:Int) (v1:List Int) (v2_0 v2_1 v2_2 v2_3 v2_4 v2_5 v2_6 v3:Int):xC (k+5) none 196 [.agg [.lit (.int .i64 v0_0),.lit (.int .i64 v0_1),.lit (.int .i64 v0_2),.lit (.int .i64 v0_3)],.ro (List.map (aN .u64) v1),.agg [.lit (.int .i64 v2_0),.lit (.int .i64 v2_1),.lit (.int .i64 v2_2),.lit (.int .u64 v2_3),.lit (.int .u64 v2_4),.lit (.int .u64 v2_5),.lit (.int .i64 v2_6)],.lit (.int .i64 v3)]=ob (iq (v0_0,v0_1,v0_2,v0_3) v1 (v2_0,v2_1,v2_2,v2_3,v2_4,v2_5,v2_6) v3) fun r=>some ((.lit (.bool r)),[]):=by
 rw [aK]
 unfold iq
 simp -implicitDefEqProofs only [ahL,YS,LW,KG,NU,Kj,uH,↓syP,syA,syD,simprocAttr,syE,ah,ag,af,syW,xQ,ew,AQ]
def gK (v0:(Int×Int×Int×Int)) (v1:Int):Option Int:=
 ob (bM v0) fun x36=>
 bif !x36 then
 some ((-1))
 else
 ob (en 0 0 (IntKind.i64.wrap (v0.1 - 1))) fun x37=>
 bif !x37 then
 some ((-1))
 else
 bif IntKind.u64.wrap v0.2.2.1 !=0 then
 some (IntKind.i64.wrap (6+IntKind.i64.wrap (v1.tmod (IntKind.u64.wrap v0.2.2.1))))
 else
 none
theorem EO (k:Nat) (v0_0 v0_1 v0_2 v0_3 v1:Int):xC (k+12) none 203 [.agg [.lit (.int .i64 v0_0),.lit (.int .i64 v0_1),.lit (.int .i64 v0_2),.lit (.int .i64 v0_3)],.lit (.int .u64 v1)]=ob (gK (v0_0,v0_1,v0_2,v0_3) v1) fun r=>some ((.lit (.int .i64 r)),[]):=by
 rw [aK]
 unfold gK
 simp -implicitDefEqProofs only [YI,T4,ux,gz,ahJ,adn,agy,ZU,↓syP,syA,syD,simprocAttr,syE,ah,ag,af,syW,xQ,lL,bL]
def kV (v0:(Int×Int×Int×Int)) (v1:Int):Option Int:=
 ob (bM v0) fun x42=>
 bif !x42 then
 some ((-1))
 else
 ob (en 0 0 (IntKind.i64.wrap (v0.1 - 1))) fun x43=>
 bif !x43 then
 some ((-1))
 else
 bif IntKind.u64.wrap v0.2.2.1 !=0 then
 some (IntKind.i64.wrap (IntKind.i64.wrap (6+v0.2.2.1)+IntKind.i64.wrap (v1.tmod (IntKind.u64.wrap v0.2.2.1))))
 else
 none
theorem CP (k:Nat) (v0_0 v0_1 v0_2 v0_3 v1:Int):xC (k+12) none 205 [.agg [.lit (.int .i64 v0_0),.lit (.int .i64 v0_1),.lit (.int .i64 v0_2),.lit (.int .i64 v0_3)],.lit (.int .u64 v1)]=ob (kV (v0_0,v0_1,v0_2,v0_3) v1) fun r=>some ((.lit (.int .i64 r)),[]):=by
 rw [aK]
 unfold kV
 simp -implicitDefEqProofs only [YI,T4,ux,gz,ahf,Zg,aez,ab6,↓syP,syA,syD,simprocAttr,syE,ah,ag,af,syW,xQ,lL,bL]
def kO (v0:(Int×Int×Int×Int)) (v1:(List Int)) (v2:(Int×Int×Int×Int×Int×Int×Int)):Option ((List Int)×(Int×Int×Int×Int×Int×Int×Int)):=
 ob (aO 8 v1) fun xU=>
 ob (iq v0 v1 v2 3) fun xw=>
 bif !xw then
 some (xU,v2)
 else
 bif decide (0≤v2.2.1∧v2.2.1.toNat<5) then
 bif v2.2.1.toNat==0 then
 ob (aE xU 5) fun xj=>
 some (xU,(v2.1,1,v2.2.2.1,v2.2.2.2.1,xj,v2.2.2.2.2.2))
 else
 bif v2.2.1.toNat==1 then
 ob (gK v0 v2.2.2.2.2.1) fun xP=>
 ob (aE xU xP) fun xN=>
 bif IntKind.u64.wrap v0.2.2.1 !=0 then
 bif xN==IntKind.u64.wrap (IntKind.u64.wrap (v2.2.2.2.2.1.tdiv (IntKind.u64.wrap v0.2.2.1))*2) then
 some (xU,(v2.1,2,v2.2.2.1,v2.2.2.2.1,v2.2.2.2.2.1,xN,v2.2.2.2.2.2.2))
 else
 bif IntKind.u64.wrap v0.2.2.1 !=0 then
 ob (dz xN (IntKind.u64.wrap (IntKind.u64.wrap (v2.2.2.2.2.1.tdiv (IntKind.u64.wrap v0.2.2.1))*2))) fun x64=>
 bif decide (x64<0) then
 ob (aX (v2.1,v2.2.1,v2.2.2.1,v2.2.2.2.1,v2.2.2.2.2.1,xN,v2.2.2.2.2.2.2) 2 v2.2.2.2.1) fun xc=>
 some (xU,(xc.1,0,xc.2.2))
 else
 some (xU,(v2.1,0,v2.2.2.1,v2.2.2.2.1,v2.2.2.2.2.1,xN,v2.2.2.2.2.2.2))
 else
 none
 else
 none
 else
 bif v2.2.1.toNat==2 then
 ob (dh xU 5 v2.2.2.2.2.1 (IntKind.u64.wrap (v2.2.2.2.2.1+1))) fun x66=>
 bif x66.2 then
 some (x66.1,(v2.1,3,v2.2.2))
 else
 some (x66.1,(v2.1,0,v2.2.2))
 else
 bif v2.2.1.toNat==3 then
 ob (kV v0 v2.2.2.2.2.1) fun x67=>
 ob (bv xU x67 v2.2.2.2.1) fun x68=>
 some (x68,(v2.1,4,v2.2.2))
 else
 bif v2.2.1.toNat==4 then
 ob (gK v0 v2.2.2.2.2.1) fun x69=>
 bif IntKind.u64.wrap v0.2.2.1 !=0 then
 ob (bv xU x69 (IntKind.u64.wrap (IntKind.u64.wrap (IntKind.u64.wrap (v2.2.2.2.2.1.tdiv (IntKind.u64.wrap v0.2.2.1))*2)+1))) fun x70=>
 ob (aX v2 1 v2.2.2.2.1) fun x71=>
 some (x70,(x71.1,0,x71.2.2))
 else
 none
 else
 none
 else
 none
theorem Iv (k:Nat) (v0_0 v0_1 v0_2 v0_3:Int) (v1:List Int) (v2_0 v2_1 v2_2 v2_3 v2_4 v2_5 v2_6:Int):xC (k+24) none 167 [.agg [.lit (.int .i64 v0_0),.lit (.int .i64 v0_1),.lit (.int .i64 v0_2),.lit (.int .i64 v0_3)],.ro (List.map (aN .u64) v1),.agg [.lit (.int .i64 v2_0),.lit (.int .i64 v2_1),.lit (.int .i64 v2_2),.lit (.int .u64 v2_3),.lit (.int .u64 v2_4),.lit (.int .u64 v2_5),.lit (.int .i64 v2_6)]]=ob (kO (v0_0,v0_1,v0_2,v0_3) v1 (v2_0,v2_1,v2_2,v2_3,v2_4,v2_5,v2_6)) fun r=>some ((.tup [.ro (List.map (aN .u64) r.1),.agg [.lit (.int .i64 r.2.1),.lit (.int .i64 r.2.2.1),.lit (.int .i64 r.2.2.2.1),.lit (.int .u64 r.2.2.2.2.1),.lit (.int .u64 r.2.2.2.2.2.1),.lit (.int .u64 r.2.2.2.2.2.2.1),.lit (.int .i64 r.2.2.2.2.2.2.2)]]),[]):=by
 rw [aK]
 unfold kO
 simp -implicitDefEqProofs only [agr,Zi,af8,ace,aha,ab8,ahA,acU,aep,aa0,ad9,acb,ae8,adz,ago,aac,↓syP,syA,syD,simprocAttr,syE,ah,ag,af,syW,xQ,cf,er,ix,fD,fI,AC,EO,CP]
def iA (v0:(Int×Int×Int×Int)) (v1:Int):Option Int:=
 bif IntKind.u64.wrap v0.2.2.1 !=0 then
 some (IntKind.u64.wrap (IntKind.u64.wrap (IntKind.u64.wrap (v1.tdiv (IntKind.u64.wrap v0.2.2.1))*2)+1))
 else
 none
theorem Jz (k:Nat) (v0_0 v0_1 v0_2 v0_3 v1:Int):xC (k+1) none 204 [.agg [.lit (.int .i64 v0_0),.lit (.int .i64 v0_1),.lit (.int .i64 v0_2),.lit (.int .i64 v0_3)],.lit (.int .u64 v1)]=ob (iA (v0_0,v0_1,v0_2,v0_3) v1) fun r=>some ((.lit (.int .u64 r)),[]):=by
 rw [aK]
 unfold iA
 simp -implicitDefEqProofs only [agH,abI,↓syP,syA,syD,simprocAttr,syE,ah,ag,af,syW,xQ]
def lb (v0:(Int×Int×Int×Int)) (v1:(List Int)) (v2:(Int×Int×Int×Int×Int×Int×Int)):Option ((List Int)×(Int×Int×Int×Int×Int×Int×Int)):=
 ob (aO 8 v1) fun xL=>
 ob (iq v0 v1 v2 4) fun xb=>
 bif !xb then
 some (xL,v2)
 else
 bif v2.2.1==0 then
 ob (aE xL 4) fun x111=>
 some (xL,(v2.1,1,v2.2.2.1,v2.2.2.2.1,x111,v2.2.2.2.2.2))
 else
 bif v2.2.1==1 then
 ob (gK v0 v2.2.2.2.2.1) fun x112=>
 ob (aE xL x112) fun xp=>
 ob (iA v0 v2.2.2.2.2.1) fun x114=>
 ob (dz xp x114) fun x115=>
 bif x115==0 then
 some (xL,(v2.1,2,v2.2.2.1,v2.2.2.2.1,v2.2.2.2.2.1,xp,v2.2.2.2.2.2.2))
 else
 bif decide (x115<0) then
 ob (aX (v2.1,0,v2.2.2.1,v2.2.2.2.1,v2.2.2.2.2.1,xp,v2.2.2.2.2.2.2) 3 0) fun x116=>
 some (xL,x116)
 else
 some (xL,(v2.1,0,v2.2.2.1,v2.2.2.2.1,v2.2.2.2.2.1,xp,v2.2.2.2.2.2.2))
 else
 bif v2.2.1==2 then
 ob (dh xL 4 v2.2.2.2.2.1 (IntKind.u64.wrap (v2.2.2.2.2.1+1))) fun x117=>
 bif x117.2 then
 some (x117.1,(v2.1,3,v2.2.2))
 else
 some (x117.1,(v2.1,0,v2.2.2))
 else
 bif v2.2.1==3 then
 ob (kV v0 v2.2.2.2.2.1) fun x118=>
 ob (aE xL x118) fun x119=>
 some (xL,(v2.1,4,v2.2.2.1,x119,v2.2.2.2.2))
 else
 ob (gK v0 v2.2.2.2.2.1) fun x120=>
 ob (iA v0 v2.2.2.2.2.1) fun x121=>
 ob (bv xL x120 (IntKind.u64.wrap (x121+1))) fun x122=>
 ob (aX v2 1 v2.2.2.2.1) fun x123=>
 some (x122,x123)
theorem IX (k:Nat) (v0_0 v0_1 v0_2 v0_3:Int) (v1:List Int) (v2_0 v2_1 v2_2 v2_3 v2_4 v2_5 v2_6:Int):xC (k+13) none 168 [.agg [.lit (.int .i64 v0_0),.lit (.int .i64 v0_1),.lit (.int .i64 v0_2),.lit (.int .i64 v0_3)],.ro (List.map (aN .u64) v1),.agg [.lit (.int .i64 v2_0),.lit (.int .i64 v2_1),.lit (.int .i64 v2_2),.lit (.int .u64 v2_3),.lit (.int .u64 v2_4),.lit (.int .u64 v2_5),.lit (.int .i64 v2_6)]]=ob (lb (v0_0,v0_1,v0_2,v0_3) v1 (v2_0,v2_1,v2_2,v2_3,v2_4,v2_5,v2_6)) fun r=>some ((.tup [.ro (List.map (aN .u64) r.1),.agg [.lit (.int .i64 r.2.1),.lit (.int .i64 r.2.2.1),.lit (.int .i64 r.2.2.2.1),.lit (.int .u64 r.2.2.2.2.1),.lit (.int .u64 r.2.2.2.2.2.1),.lit (.int .u64 r.2.2.2.2.2.2.1),.lit (.int .i64 r.2.2.2.2.2.2.2)]]),[]):=by
 rw [aK]
 unfold lb
 simp -implicitDefEqProofs only [ahZ,Zy,Ma,us,↓syP,syA,syD,simprocAttr,syE,ah,ag,af,syW,xQ,cf,er,ix,fD,fI,AC,EO,CP,Jz]
def bl (v0:(Int×Int×Int×Int)) (v1:(List Int)) (v2:(Int×Int×Int×Int×Int×Int×Int)):Option ((List Int)×(Int×Int×Int×Int×Int×Int×Int)):=
 bif v2.1==3 then
 ob (kO v0 v1 v2) fun x142=>
 some x142
 else
 bif v2.1==4 then
 ob (lb v0 v1 v2) fun x143=>
 some x143
 else
 ob (aO 8 v1) fun x144=>
 some (x144,v2)
theorem og (k:Nat) (v0_0 v0_1 v0_2 v0_3:Int) (v1:List Int) (v2_0 v2_1 v2_2 v2_3 v2_4 v2_5 v2_6:Int):xC (k+26) none 135 [.agg [.lit (.int .i64 v0_0),.lit (.int .i64 v0_1),.lit (.int .i64 v0_2),.lit (.int .i64 v0_3)],.ro (List.map (aN .u64) v1),.agg [.lit (.int .i64 v2_0),.lit (.int .i64 v2_1),.lit (.int .i64 v2_2),.lit (.int .u64 v2_3),.lit (.int .u64 v2_4),.lit (.int .u64 v2_5),.lit (.int .i64 v2_6)]]=ob (bl (v0_0,v0_1,v0_2,v0_3) v1 (v2_0,v2_1,v2_2,v2_3,v2_4,v2_5,v2_6)) fun r=>some ((.tup [.ro (List.map (aN .u64) r.1),.agg [.lit (.int .i64 r.2.1),.lit (.int .i64 r.2.2.1),.lit (.int .i64 r.2.2.2.1),.lit (.int .u64 r.2.2.2.2.1),.lit (.int .u64 r.2.2.2.2.2.1),.lit (.int .u64 r.2.2.2.2.2.2.1),.lit (.int .i64 r.2.2.2.2.2.2.2)]]),[]):=by
 rw [aK]
 unfold bl
 simp -implicitDefEqProofs only [af9,Zd,↓syP,syA,syD,simprocAttr,syE,ah,ag,af,syW,xQ,Iv,IX]
end Go.Ab
set_option maxRecDepth 100000
set_option linter.unusedVariables false
set_option linter.unusedSimpArgs false
namespace Go.Ab
open Go.Proofs
def io (k:Nat) (v0:(Int×Int×Int×Int)) (v1:Tyt) (v2:(List Int)) (v3:Int) (v4:Tyw):Option Bool:=
 ob (bM v0) fun x5=>
 bif x5 then
 ob (dd v0) fun x6=>
 bif (↑v2.length:Int)==x6 then
 ob (cQ (k+4) v1) fun x7=>
 bif x7 then
 bif decide (0≤v3) then
 bif decide (v3<v0.1) then
 bif decide (0≤v4.1) then
 bif decide (v4.1<16) then
 ob (fE (k+3) v1 v4.2.1) fun x8=>
 some x8
 else
 some false
 else
 some false
 else
 some false
 else
 some false
 else
 some false
 else
 some false
 else
 some false
theorem A6 (k:Nat) (v0_0 v0_1 v0_2 v0_3:Int) (v1:Tyt) (v2:List Int) (v3 v4_0:Int) (v4_1:Tye) (v4_2_0 v4_2_1 v4_2_2 v4_2_3 v4_2_4 v4_2_5 v4_2_6 v4_3 v4_4:Int):xC (k+24) none 95 [.agg [.lit (.int .i64 v0_0),.lit (.int .i64 v0_1),.lit (.int .i64 v0_2),.lit (.int .i64 v0_3)],.ro (List.map ap v1),.ro (List.map (aN .u64) v2),.lit (.int .i64 v3),.agg [.lit (.int .i64 v4_0),.ro (List.map aZ v4_1),.lit (.int .i64 v4_2_0),.lit (.int .i64 v4_2_1),.lit (.int .i64 v4_2_2),.lit (.int .u64 v4_2_3),.lit (.int .u64 v4_2_4),.lit (.int .u64 v4_2_5),.lit (.int .i64 v4_2_6),.lit (.int .i64 v4_3),.lit (.int .i64 v4_4)]]=ob (io k (v0_0,v0_1,v0_2,v0_3) v1 v2 v3 (v4_0,v4_1,(v4_2_0,v4_2_1,v4_2_2,v4_2_3,v4_2_4,v4_2_5,v4_2_6),v4_3,v4_4)) fun r=>some ((.lit (.bool r)),[]):=by
 rw [aK]
 unfold io
 simp -implicitDefEqProofs only [aiY,aiE,Su,Tz,S2,Sy,S3,S6,TN,Ay,↓syP,syA,syD,simprocAttr,syE,ah,ag,af,syW,xQ,cN,bL,eP,nS]
def bz (k:Nat) (v0:(List Int)) (v1:Int)  : Nat→Int→Option Int
 | 0,_=>none
 | n+1,sV=>
 bif decide (sV<(↑v0.length:Int)) then
 ob (idx v0 sV) fun x22=>
 bif v1==x22 then
 some (sV)
 else
 bz k v0 v1  n (IntKind.i64.wrap (sV+(1:Int)))
 else
 some ((-1:Int))
theorem lH (k:Nat) (v0:List Int) (v1:Int):∀ (n:Nat) (sV:Int) ⦃j18:V⦄,rt none (itX (xX (xS k) 61 0 k false) Ii (0) (av (xX (xS k) 61 0 k false) (aB (xS k).P Tryz.f61) HM) n ⟨[.ro (List.map (aN IntKind.i64) v0),.lit (.int .i64 v1),uu,uu,.lit (.int .i64 (0:Int)),j18,.ro (List.map (aN IntKind.i64) v0),.lit (.int .i64 (↑v0.length:Int)),.lit (.int .i64 sV),.junk,.junk,.junk,.junk,.junk,.junk,.junk,.junk,.junk,.junk],[]⟩)=ob (bz k v0 v1  n sV) fun r=>some ((.lit (.int .i64 r)),[]):=by
 intro n
 induction n with
 | zero=>intros;rfl
 | succ n ih=>
  intro sV j18
  rw [bz]
  simp -implicitDefEqProofs only [aiy,age,ahu,Nf,pI,↓syP,syA,syD,simprocAttr,syE,ah,ag,af,syW,xQ,TU,ih]
def dq (k:Nat) (v0:(List Int)) (v1:Int):Option Int:=
 bz k v0 v1 k 0
theorem gb (k:Nat) (v0:List Int) (v1:Int):xC (k+1) none 61 [.ro (List.map (aN .i64) v0),.lit (.int .i64 v1)]=ob (dq k v0 v1) fun r=>some ((.lit (.int .i64 r)),[]):=by
 rw [aK]
 unfold dq
 simp -implicitDefEqProofs only [aiy,age,ahu,Nf,pI,↓syP,syA,syD,simprocAttr,syE,ah,ag,af,syW,xQ,lH k v0 v1]
def fR (v0:(Int×Int×Int×Int×Int×Int×Int)):Option Bool:=
 bif v0.1==5 then
 ob (aG v0) fun x30=>
 bif !x30 then
 some (v0.2.1==3)
 else
 some false
 else
 some false
theorem Bg (k:Nat) (v0_0 v0_1 v0_2 v0_3 v0_4 v0_5 v0_6:Int):xC (k+2) none 69 [.agg [.lit (.int .i64 v0_0),.lit (.int .i64 v0_1),.lit (.int .i64 v0_2),.lit (.int .u64 v0_3),.lit (.int .u64 v0_4),.lit (.int .u64 v0_5),.lit (.int .i64 v0_6)]]=ob (fR (v0_0,v0_1,v0_2,v0_3,v0_4,v0_5,v0_6)) fun r=>some ((.lit (.bool r)),[]):=by
 rw [aK]
 unfold fR
 simp -implicitDefEqProofs only [ajh,aik,SD,Tl,AM,↓syP,syA,syD,simprocAttr,syE,ah,ag,af,syW,xQ,ew]
def fP (v0:Tyw):Option Bool:=
 bif v0.1==8 then
 ob (fR v0.2.2.1) fun xq=>
 some xq
 else
 some false
theorem Cr (k:Nat) (v0_0:Int) (v0_1:Tye) (v0_2_0 v0_2_1 v0_2_2 v0_2_3 v0_2_4 v0_2_5 v0_2_6 v0_3 v0_4:Int):xC (k+3) none 31 [.agg [.lit (.int .i64 v0_0),.ro (List.map aZ v0_1),.lit (.int .i64 v0_2_0),.lit (.int .i64 v0_2_1),.lit (.int .i64 v0_2_2),.lit (.int .u64 v0_2_3),.lit (.int .u64 v0_2_4),.lit (.int .u64 v0_2_5),.lit (.int .i64 v0_2_6),.lit (.int .i64 v0_3),.lit (.int .i64 v0_4)]]=ob (fP (v0_0,v0_1,(v0_2_0,v0_2_1,v0_2_2,v0_2_3,v0_2_4,v0_2_5,v0_2_6),v0_3,v0_4)) fun r=>some ((.lit (.bool r)),[]):=by
 rw [aK]
 unfold fP
 simp -implicitDefEqProofs only [ajn,aiG,TV,A0,↓syP,syA,syD,simprocAttr,syE,ah,ag,af,syW,xQ,Bg]
def mS (v0:Int):Option Tyw:=
 ob (aF 1 v0 0) fun x36=>
 some (0,[],x36,0,0)
theorem pb (k:Nat) (v0:Int):xC (k+2) none 60 [.lit (.int .i64 v0)]=ob (mS v0) fun r=>some ((.agg [.lit (.int .i64 r.1),.ro (List.map aZ r.2.1),.lit (.int .i64 r.2.2.1.1),.lit (.int .i64 r.2.2.1.2.1),.lit (.int .i64 r.2.2.1.2.2.1),.lit (.int .u64 r.2.2.1.2.2.2.1),.lit (.int .u64 r.2.2.1.2.2.2.2.1),.lit (.int .u64 r.2.2.1.2.2.2.2.2.1),.lit (.int .i64 r.2.2.1.2.2.2.2.2.2),.lit (.int .i64 r.2.2.2.1),.lit (.int .i64 r.2.2.2.2)]),[]):=by
 rw [aK]
 unfold mS
 simp -implicitDefEqProofs only [ai0,aiJ,↓syP,syA,syD,simprocAttr,syE,ah,ag,af,syW,xQ,lR]
 all_goals simp -implicitDefEqProofs only [List.map_nil]
end Go.Ab
set_option maxRecDepth 100000
set_option linter.unusedVariables false
set_option linter.unusedSimpArgs false
namespace Go.Ab
open Go.Proofs
def fG (k:Nat) (v0:(Int×Int×Int×Int)) (v1:Tyt) (v2:(List Int)) (v3:Tys):Option Bool:=
 ob (bM v0) fun x6=>
 bif x6 then
 ob (dd v0) fun x7=>
 bif (↑v2.length:Int)==x7 then
 ob (cQ (k+4) v1) fun x8=>
 bif x8 then
 bif decide (0≤v3.1) then
 bif decide (v3.1<6) then
 bif decide (0<(↑v3.2.1.length:Int)) then
 ob (idx v3.2.1 0) fun x9=>
 bif decide (0≤x9) then
 ob (idx v3.2.1 0) fun x10=>
 some (decide (x10<(↑v1.length:Int)))
 else
 some false
 else
 some false
 else
 some false
 else
 some false
 else
 some false
 else
 some false
 else
 some false
theorem ra (k:Nat) (v0_0 v0_1 v0_2 v0_3:Int) (v1:Tyt) (v2:List Int) (v3_0:Int) (v3_1:List Int) (v3_2_0 v3_2_1 v3_2_2 v3_2_3 v3_2_4 v3_2_5 v3_2_6:Int):xC (k+24) none 85 [.agg [.lit (.int .i64 v0_0),.lit (.int .i64 v0_1),.lit (.int .i64 v0_2),.lit (.int .i64 v0_3)],.ro (List.map ap v1),.ro (List.map (aN .u64) v2),.agg [.lit (.int .i64 v3_0),.ro (List.map (aN .i64) v3_1),.lit (.int .i64 v3_2_0),.lit (.int .i64 v3_2_1),.lit (.int .i64 v3_2_2),.lit (.int .u64 v3_2_3),.lit (.int .u64 v3_2_4),.lit (.int .u64 v3_2_5),.lit (.int .i64 v3_2_6)]]=ob (fG k (v0_0,v0_1,v0_2,v0_3) v1 v2 (v3_0,v3_1,(v3_2_0,v3_2_1,v3_2_2,v3_2_3,v3_2_4,v3_2_5,v3_2_6))) fun r=>some ((.lit (.bool r)),[]):=by
 rw [aK]
 unfold fG
 simp -implicitDefEqProofs only [ajt,ah8,Sl,TE,TT,TO,Sx,TS,Te,AO,↓syP,syA,syD,simprocAttr,syE,ah,ag,af,syW,xQ,cN,bL,eP]
def f5 (k : Nat) (v0 : (Int × Int × Int × Int)) (v1 : (List (Int × List Int))) (v2 : (List Int)) (v3 : Int) (v4 : (Int × List Int × Int × Int × Int × Int × Int × Int × Int)) : Option ((List Int) × (Int × List Int × Int × Int × Int × Int × Int × Int × Int) × (List (Int × Int × Int))) :=
 ob (aO 8 v2) fun xT =>
 ob (aO 8 v4.2.1) fun xE =>
 ob (fG (k + 15) v0 v1 v2 v4) fun x40 =>
 bif !x40 then
 some (xT,(v4.1,xE,v4.2.2),[])
 else
 ob (idx xE 0) fun xe =>
 bif v4.1 == 0 then
 ob (aE xT 3) fun x42 =>
 bif x42 != 0 then
 bif room 1 24 then
 bif decide (1 ≤ (↑xE.length : Int)) then
 some (xT,(0,(List.drop (Int.toNat 1) xE),(0,0,0,0,0,0,0)),([(1,xe,v3)]))
 else
 none
 else
 none
 else
 some (xT,(1,xE,v4.2.2),[])
 else
 bif v4.1 == 1 then
 ob (de xT 0 1) fun x43 =>
 ob (aF 3 v3 (IntKind.u64.wrap xe)) fun x44 =>
 some (x43.1,(2,xE,x44),[])
 else
 bif v4.1 == 2 then
 bif v4.2.2.1 == 3 then
 ob (bl v0 xT v4.2.2) fun xi =>
 ob (aG xi.2) fun xr =>
 bif !xr then
 some (xi.1,(v4.1,xE,xi.2),[])
 else
 bif xi.2.2.2.2.2.2.2 != 2 then
 bif room 1 24 then
 some (xi.1,(3,xE,xi.2),([(0,xe,v3)]))
 else
 none
 else
 some (xi.1,(5,xE,xi.2),[])
 else
 bif v4.2.2.1 == 4 then
 ob (bl v0 xT v4.2.2) fun xh =>
 ob (aG xh.2) fun x48 =>
 bif !x48 then
 some (xh.1,(v4.1,xE,xh.2),[])
 else
 bif xh.2.2.2.2.2.2.2 != 2 then
 bif room 1 24 then
 some (xh.1,(3,xE,xh.2),([(0,xe,v3)]))
 else
 none
 else
 some (xh.1,(5,xE,xh.2),[])
 else
 ob (bY (k + 20) v0 xT v4.2.2) fun xn =>
 ob (aG xn.2) fun x50 =>
 bif !x50 then
 some (xn.1,(v4.1,xE,xn.2),[])
 else
 bif xn.2.2.2.2.2.2.2 != 2 then
 bif room 1 24 then
 some (xn.1,(3,xE,xn.2),([(0,xe,v3)]))
 else
 none
 else
 some (xn.1,(5,xE,xn.2),[])
 else
 bif v4.1 == 3 then
 ob (aE xT 1) fun x51 =>
 bif x51 != 0 then
 bif decide (1 ≤ (↑xE.length : Int)) then
 some (xT,(0,(List.drop (Int.toNat 1) xE),(0,0,0,0,0,0,0)),[])
 else
 none
 else
 ob (aF 6 v3 0) fun x52 =>
 some (xT,(4,xE,x52),[])
 else
 bif v4.1 == 4 then
 bif v4.2.2.1 == 3 then
 ob (bl v0 xT v4.2.2) fun x53 =>
 ob (aG x53.2) fun xV =>
 bif xV then
 bif decide (1 ≤ (↑xE.length : Int)) then
 some (x53.1,(0,(List.drop (Int.toNat 1) xE),(0,0,0,0,0,0,0)),[])
 else
 none
 else
 some (x53.1,(v4.1,xE,x53.2),[])
 else
 bif v4.2.2.1 == 4 then
 ob (bl v0 xT v4.2.2) fun x55 =>
 ob (aG x55.2) fun x56 =>
 bif x56 then
 bif decide (1 ≤ (↑xE.length : Int)) then
 some (x55.1,(0,(List.drop (Int.toNat 1) xE),(0,0,0,0,0,0,0)),[])
 else
 none
 else
 some (x55.1,(v4.1,xE,x55.2),[])
 else
 ob (bY (k + 20) v0 xT v4.2.2) fun xo =>
 ob (aG xo.2) fun x58 =>
 bif x58 then
 bif decide (1 ≤ (↑xE.length : Int)) then
 some (xo.1,(0,(List.drop (Int.toNat 1) xE),(0,0,0,0,0,0,0)),[])
 else
 none
 else
 some (xo.1,(v4.1,xE,xo.2),[])
 else
 bif v4.1 == 5 then
 ob (de xT 0 18446744073709551615) fun xU =>
 bif room 1 24 then
 bif xU.2 == 1 then
 bif room 2 24 then
 bif decide (1 ≤ (↑xE.length : Int)) then
 some (xU.1,(0,(List.drop (Int.toNat 1) xE),(0,0,0,0,0,0,0)),([(1,xe,v3),(5,0,v3)]))
 else
 none
 else
 none
 else
 bif decide (1 ≤ (↑xE.length : Int)) then
 some (xU.1,(0,(List.drop (Int.toNat 1) xE),(0,0,0,0,0,0,0)),([(1,xe,v3)]))
 else
 none
 else
 none
 else
 none
theorem Bo (k : Nat) (v0_0 v0_1 v0_2 v0_3 : Int) (v1 : List (Int × List Int)) (v2 : List Int) (v3 v4_0 : Int) (v4_1 : List Int) (v4_2_0 v4_2_1 v4_2_2 v4_2_3 v4_2_4 v4_2_5 v4_2_6 : Int) : xC (k + 40) none 86 [.agg [.lit (.int .i64 v0_0),.lit (.int .i64 v0_1),.lit (.int .i64 v0_2),.lit (.int .i64 v0_3)],.ro (List.map ap v1),.ro (List.map (aN .u64) v2),.lit (.int .i64 v3),.agg [.lit (.int .i64 v4_0),.ro (List.map (aN .i64) v4_1),.lit (.int .i64 v4_2_0),.lit (.int .i64 v4_2_1),.lit (.int .i64 v4_2_2),.lit (.int .u64 v4_2_3),.lit (.int .u64 v4_2_4),.lit (.int .u64 v4_2_5),.lit (.int .i64 v4_2_6)]] = ob (f5 k (v0_0,v0_1,v0_2,v0_3) v1 v2 v3 (v4_0,v4_1,(v4_2_0,v4_2_1,v4_2_2,v4_2_3,v4_2_4,v4_2_5,v4_2_6))) fun r => some ((.tup [.ro (List.map (aN .u64) r.1),.agg [.lit (.int .i64 r.2.1.1),.ro (List.map (aN .i64) r.2.1.2.1),.lit (.int .i64 r.2.1.2.2.1),.lit (.int .i64 r.2.1.2.2.2.1),.lit (.int .i64 r.2.1.2.2.2.2.1),.lit (.int .u64 r.2.1.2.2.2.2.2.1),.lit (.int .u64 r.2.1.2.2.2.2.2.2.1),.lit (.int .u64 r.2.1.2.2.2.2.2.2.2.1),.lit (.int .i64 r.2.1.2.2.2.2.2.2.2.2)],.ro (List.map aZ r.2.2)]),[]) := by
  rw [aK]
  unfold f5
  simp -implicitDefEqProofs only [aiZ,aig,afG,ado,ahO,ZV,aeC,ZI,LO,Nr,rP,uf,ahi,ade,afw,acO,aeM,ZG,ag3,aa3,ahG,ZY,afQ,abg,↓syP,syA,syD,simprocAttr,syE,ah,ag,af,syW,xQ,cf,As,lR,ew,pW,og,ra]
  all_goals simp -implicitDefEqProofs only [List.map_nil]
def fQ (v0:Tys):Option Bool:=
 some (v0.1 !=0)
theorem BA (k:Nat) (v0_0:Int) (v0_1:List Int) (v0_2_0 v0_2_1 v0_2_2 v0_2_3 v0_2_4 v0_2_5 v0_2_6:Int):xC (k+1) none 28 [.agg [.lit (.int .i64 v0_0),.ro (List.map (aN .i64) v0_1),.lit (.int .i64 v0_2_0),.lit (.int .i64 v0_2_1),.lit (.int .i64 v0_2_2),.lit (.int .u64 v0_2_3),.lit (.int .u64 v0_2_4),.lit (.int .u64 v0_2_5),.lit (.int .i64 v0_2_6)]]=ob (fQ (v0_0,v0_1,(v0_2_0,v0_2_1,v0_2_2,v0_2_3,v0_2_4,v0_2_5,v0_2_6))) fun r=>some ((.lit (.bool r)),[]):=by
 rw [aK]
 unfold fQ
 simp -implicitDefEqProofs only [ajc,aip,↓syP,syA,syD,simprocAttr,syE,ah,ag,af,syW,xQ]
def gF (v0:(List Int)):Option Tys:=
 ob (aO 8 v0) fun x86=>
 some (0,x86,(0,0,0,0,0,0,0))
theorem mn (k:Nat) (v0:List Int):xC (k+2) none 63 [.ro (List.map (aN .i64) v0)]=ob (gF v0) fun r=>some ((.agg [.lit (.int .i64 r.1),.ro (List.map (aN .i64) r.2.1),.lit (.int .i64 r.2.2.1),.lit (.int .i64 r.2.2.2.1),.lit (.int .i64 r.2.2.2.2.1),.lit (.int .u64 r.2.2.2.2.2.1),.lit (.int .u64 r.2.2.2.2.2.2.1),.lit (.int .u64 r.2.2.2.2.2.2.2.1),.lit (.int .i64 r.2.2.2.2.2.2.2.2)]),[]):=by
 rw [aK]
 unfold gF
 simp -implicitDefEqProofs only [ajm,ah7,↓syP,syA,syD,simprocAttr,syE,ah,ag,af,syW,xQ]
end Go.Ab
set_option maxRecDepth 100000
set_option linter.unusedVariables false
set_option linter.unusedSimpArgs false
namespace Go.Ab
open Go.Proofs
def ub {β:Type} (k:Nat) (c:Int×Int×Int×Int) (m:List Int) (f:Int×Int×Int×Int×Int×Int×Int) (K:List Int×(Int×Int×Int×Int×Int×Int×Int)→Option β):Option β:=
 (bif f.1==0 then (bif f.1==0 then ob (eF (k+31) c m f) K else (bif f.1==3 then (bif f.1==3 then ob (bl c m f) K else ob (bY (k+40) c m f) K) else (bif f.1==4 then ob (bl c m f) K else ob (bY (k+40) c m f) K))) else (bif f.1==1 then (bif f.1==1 then ob (eF (k+31) c m f) K else (bif f.1==3 then (bif f.1==3 then ob (bl c m f) K else ob (bY (k+40) c m f) K) else (bif f.1==4 then ob (bl c m f) K else ob (bY (k+40) c m f) K))) else (bif f.1==2 then ob (eF (k+31) c m f) K else (bif f.1==3 then (bif f.1==3 then ob (bl c m f) K else ob (bY (k+40) c m f) K) else (bif f.1==4 then ob (bl c m f) K else ob (bY (k+40) c m f) K)))))
def iF (k : Nat) (v0 : (Int × Int × Int × Int)) (v1 : (List (Int × List Int))) (v2 : (List Int)) (v3 : Int) (v4 : (Int × List (Int × Int × Int) × (Int × Int × Int × Int × Int × Int × Int) × Int × Int)) (v5 : Int) : Option ((List Int) × (Int × List (Int × Int × Int) × (Int × Int × Int × Int × Int × Int × Int) × Int × Int) × (List (Int × Int × Int))) :=
 ob (aO 8 v2) fun xD =>
 ob (aO 24 v4.2.1) fun xB =>
 ob (io (k + 35) v0 v1 v2 v3 v4) fun x472 =>
 bif !x472 then
 some (xD,(v4.1,xB,v4.2.2),[])
 else
 bif v4.1 == 0 then
 ub k v0 xD v4.2.2.1 fun xf =>
 ob (aG xf.2) fun x474 =>
 bif !x474 then
 some (xf.1,(v4.1,xB,xf.2,v4.2.2.2),[])
 else
 bif xf.2.2.2.2.2.2.2 != 1 then
 some (xf.1,(1,xB,(0,0,0,0,0,0,0),v4.2.2.2),[])
 else
 ob (dp (k + 36) v1 xB (IntKind.i64.wrap xf.2.2.2.2.1)) fun x475 =>
 bif room 1 24 then
 some (xf.1,(9,x475,(0,0,0,0,0,0,0),v4.2.2.2),([(2,IntKind.i64.wrap xf.2.2.2.2.1,v3)]))
 else
 none
 else
 bif v4.1 == 1 then
 ob (de xD 1 1) fun x518 =>
 ob (aF 4 v3 0) fun x519 =>
 some (x518.1,(2,xB,x519,v0.2.2.2,v4.2.2.2.2),[])
 else
 bif v4.1 == 2 then
 ob (eU v5 v3 v0.1) fun x520 =>
 ub k v0 xD v4.2.2.1 fun xW =>
 ob (aG xW.2) fun x522 =>
 bif !x522 then
 some (xW.1,(v4.1,xB,xW.2,v4.2.2.2),[])
 else
 bif xW.2.2.2.2.2.2.2 == 1 then
 some (xW.1,(4,xB,xW.2,v4.2.2.2),[])
 else
 bif v4.1 == 2 then
 bif decide (0 ≤ x520) then
 ob (aF 2 x520 0) fun x523 =>
 some (xW.1,(3,xB,x523,v4.2.2.2),[])
 else
 bif decide (v4.2.2.2.1 ≤ 0) then
 ob (aF 5 v3 0) fun x524 =>
 some (xW.1,(5,xB,x524,v4.2.2.2),[])
 else
 ob (aF 4 v3 0) fun x525 =>
 some (xW.1,(2,xB,x525,(IntKind.i64.wrap (v4.2.2.2.1 - 1)),v4.2.2.2.2),[])
 else
 bif decide (v4.2.2.2.1 ≤ 0) then
 ob (aF 5 v3 0) fun x526 =>
 some (xW.1,(5,xB,x526,v4.2.2.2),[])
 else
 ob (aF 4 v3 0) fun x527 =>
 some (xW.1,(2,xB,x527,(IntKind.i64.wrap (v4.2.2.2.1 - 1)),v4.2.2.2.2),[])
 else
 bif v4.1 == 3 then
 ob (eU v5 v3 v0.1) fun x626 =>
 ub k v0 xD v4.2.2.1 fun xZ =>
 ob (aG xZ.2) fun x628 =>
 bif !x628 then
 some (xZ.1,(v4.1,xB,xZ.2,v4.2.2.2),[])
 else
 bif xZ.2.2.2.2.2.2.2 == 1 then
 some (xZ.1,(4,xB,xZ.2,v4.2.2.2),[])
 else
 bif v4.1 == 2 then
 bif decide (0 ≤ x626) then
 ob (aF 2 x626 0) fun x629 =>
 some (xZ.1,(3,xB,x629,v4.2.2.2),[])
 else
 bif decide (v4.2.2.2.1 ≤ 0) then
 ob (aF 5 v3 0) fun x630 =>
 some (xZ.1,(5,xB,x630,v4.2.2.2),[])
 else
 ob (aF 4 v3 0) fun x631 =>
 some (xZ.1,(2,xB,x631,(IntKind.i64.wrap (v4.2.2.2.1 - 1)),v4.2.2.2.2),[])
 else
 bif decide (v4.2.2.2.1 ≤ 0) then
 ob (aF 5 v3 0) fun x632 =>
 some (xZ.1,(5,xB,x632,v4.2.2.2),[])
 else
 ob (aF 4 v3 0) fun x633 =>
 some (xZ.1,(2,xB,x633,(IntKind.i64.wrap (v4.2.2.2.1 - 1)),v4.2.2.2.2),[])
 else
 bif v4.1 == 4 then
 ob (de xD 1 18446744073709551615) fun x732 =>
 bif x732.2 == 1 then
 ob (aF 6 v3 0) fun x733 =>
 ob (dp (k + 36) v1 xB (IntKind.i64.wrap v4.2.2.1.2.2.2.1)) fun x734 =>
 bif room 1 24 then
 some (x732.1,(14,x734,x733,v4.2.2.2),([(2,IntKind.i64.wrap v4.2.2.1.2.2.2.1,v3)]))
 else
 none
 else
 ob (dp (k + 36) v1 xB (IntKind.i64.wrap v4.2.2.1.2.2.2.1)) fun x735 =>
 bif room 1 24 then
 some (x732.1,(9,x735,(0,0,0,0,0,0,0),v4.2.2.2),([(2,IntKind.i64.wrap v4.2.2.1.2.2.2.1,v3)]))
 else
 none
 else
 bif v4.1 == 5 then
 ub k v0 xD v4.2.2.1 fun x736 =>
 ob (aG x736.2) fun x737 =>
 some (x736.1,(6,xB,x736.2,v4.2.2.2),[])
 else
 bif v4.1 == 6 then
 ob (de xD 1 18446744073709551615) fun x766 =>
 some (x766.1,(7,xB,v4.2.2.1,v4.2.2.2.1,0),[])
 else
 bif v4.1 == 7 then
 bif decide (v4.2.2.2.2 < 0) then
 some (xD,(8,xB,(v4.2.2.1.1,v4.2.2.1.2.1,v4.2.2.1.2.2.1,0,v4.2.2.1.2.2.2.2),v4.2.2.2.1,0),[])
 else
 bif decide (IntKind.i64.wrap (2 + IntKind.i64.wrap (2 * v0.1)) ≤ v4.2.2.2.2) then
 some (xD,(8,xB,(v4.2.2.1.1,v4.2.2.1.2.1,v4.2.2.1.2.2.1,0,v4.2.2.1.2.2.2.2),v4.2.2.2.1,0),[])
 else
 bif v4.2.2.2.2 == 0 then
 ob (aE xD 4) fun x767 =>
 bif IntKind.i64.wrap (v4.2.2.2.2 + 1) == IntKind.i64.wrap (2 + IntKind.i64.wrap (2 * v0.1)) then
 some (xD,(8,xB,(v4.2.2.1.1,v4.2.2.1.2.1,v4.2.2.1.2.2.1,0,v4.2.2.1.2.2.2.2),v4.2.2.2.1,0),[])
 else
 some (xD,(v4.1,xB,(v4.2.2.1.1,v4.2.2.1.2.1,v4.2.2.1.2.2.1,x767,v4.2.2.1.2.2.2.2),v4.2.2.2.1,(IntKind.i64.wrap (v4.2.2.2.2 + 1))),[])
 else
 bif v4.2.2.2.2 == 1 then
 ob (aE xD 5) fun x768 =>
 bif x768 != v4.2.2.1.2.2.2.1 then
 some (xD,(1,xB,(0,0,0,0,0,0,0),v4.2.2.2),[])
 else
 bif IntKind.i64.wrap (v4.2.2.2.2 + 1) == IntKind.i64.wrap (2 + IntKind.i64.wrap (2 * v0.1)) then
 some (xD,(8,xB,(v4.2.2.1.1,v4.2.2.1.2.1,v4.2.2.1.2.2.1,0,v4.2.2.1.2.2.2.2),v4.2.2.2.1,0),[])
 else
 some (xD,(v4.1,xB,v4.2.2.1,v4.2.2.2.1,(IntKind.i64.wrap (v4.2.2.2.2 + 1))),[])
 else
 bif v4.2.2.2.2.tmod 2 == 0 then
 ob (f8 v0 (IntKind.i64.wrap ((IntKind.i64.wrap (v4.2.2.2.2 - 2)).tdiv 2))) fun x769 =>
 ob (aE xD x769) fun x770 =>
 bif IntKind.i64.wrap (v4.2.2.2.2 + 1) == IntKind.i64.wrap (2 + IntKind.i64.wrap (2 * v0.1)) then
 some (xD,(8,xB,(v4.2.2.1.1,v4.2.2.1.2.1,v4.2.2.1.2.2.1,0,v4.2.2.1.2.2.2.2),v4.2.2.2.1,0),[])
 else
 some (xD,(v4.1,xB,(v4.2.2.1.1,v4.2.2.1.2.1,v4.2.2.1.2.2.1,x770,v4.2.2.1.2.2.2.2),v4.2.2.2.1,(IntKind.i64.wrap (v4.2.2.2.2 + 1))),[])
 else
 ob (cO v0 (IntKind.i64.wrap ((IntKind.i64.wrap (v4.2.2.2.2 - 2)).tdiv 2))) fun x771 =>
 ob (aE xD x771) fun x772 =>
 ob (dz x772 v4.2.2.1.2.2.2.1) fun x773 =>
 bif decide (0 < x773) then
 some (xD,(1,xB,(0,0,0,0,0,0,0),v4.2.2.2),[])
 else
 bif IntKind.i64.wrap (v4.2.2.2.2 + 1) == IntKind.i64.wrap (2 + IntKind.i64.wrap (2 * v0.1)) then
 some (xD,(8,xB,(v4.2.2.1.1,v4.2.2.1.2.1,v4.2.2.1.2.2.1,0,v4.2.2.1.2.2.2.2),v4.2.2.2.1,0),[])
 else
 some (xD,(v4.1,xB,v4.2.2.1,v4.2.2.2.1,(IntKind.i64.wrap (v4.2.2.2.2 + 1))),[])
 else
 bif v4.1 == 8 then
 ub k v0 xD v4.2.2.1 fun x774 =>
 ob (aG x774.2) fun x775 =>
 bif x775 then
 some (x774.1,(1,xB,(0,0,0,0,0,0,0),v4.2.2.2),[])
 else
 some (x774.1,(v4.1,xB,x774.2,v4.2.2.2),[])
 else
 bif v4.1 == 9 then
 ob (dJ (k + 37) v1 xB) fun x804 =>
 bif x804.1 == 1 then
 ob (fO (k + 36) v1 xB) fun x805 =>
 some (xD,(v4.1,x805,v4.2.2),[])
 else
 bif x804.1 == 2 then
 some (xD,(10,xB,v4.2.2),[])
 else
 bif x804.1 == 3 then
 some (xD,(15,xB,v4.2.2),[])
 else
 ob (aF 1 v3 0) fun x806 =>
 some (xD,(0,xB,x806,v4.2.2.2),[])
 else
 bif v4.1 == 10 then
 ob (dJ (k + 37) v1 xB) fun x807 =>
 bif x807.1 != 2 then
 some (xD,(9,xB,(0,0,0,0,0,0,0),v4.2.2.2),[])
 else
 ob (de xD 0 1) fun x808 =>
 bif room 1 24 then
 ob (fO (k + 36) v1 xB) fun x809 =>
 ob (aF 0 v3 (IntKind.u64.wrap x807.2)) fun x810 =>
 some (x808.1,(11,x809,x810,v4.2.2.2),([(3,x807.2,v3)]))
 else
 none
 else
 bif v4.1 == 11 then
 ub k v0 xD v4.2.2.1 fun xm =>
 ob (aG xm.2) fun x812 =>
 bif !x812 then
 some (xm.1,(v4.1,xB,xm.2,v4.2.2.2),[])
 else
 bif xm.2.2.2.2.2.2.2 == 2 then
 ob (aF 3 v3 xm.2.2.2.2.1) fun x813 =>
 some (xm.1,(12,xB,x813,v4.2.2.2),[])
 else
 some (xm.1,(13,xB,(0,0,0,0,0,0,0),v4.2.2.2),[])
 else
 bif v4.1 == 12 then
 ub k v0 xD v4.2.2.1 fun xg =>
 ob (aG xg.2) fun x857 =>
 bif !x857 then
 some (xg.1,(v4.1,xB,xg.2,v4.2.2.2),[])
 else
 bif xg.2.2.2.2.2.2.2 == 2 then
 ob (dp (k + 36) v1 xB (IntKind.i64.wrap xg.2.2.2.2.1)) fun x858 =>
 bif room 1 24 then
 some (xg.1,(9,x858,(0,0,0,0,0,0,0),v4.2.2.2),([(2,IntKind.i64.wrap xg.2.2.2.2.1,v3)]))
 else
 none
 else
 some (xg.1,(13,xB,(0,0,0,0,0,0,0),v4.2.2.2),[])
 else
 bif v4.1 == 13 then
 ob (aE xD 1) fun x901 =>
 bif x901 == 0 then
 ob (aF 6 v3 0) fun x902 =>
 some (xD,(14,xB,x902,v4.2.2.2),[])
 else
 some (xD,(9,xB,(0,0,0,0,0,0,0),v4.2.2.2),[])
 else
 bif v4.1 == 14 then
 ub k v0 xD v4.2.2.1 fun x903 =>
 ob (aG x903.2) fun x904 =>
 bif x904 then
 some (x903.1,(9,xB,(0,0,0,0,0,0,0),v4.2.2.2),[])
 else
 some (x903.1,(v4.1,xB,x903.2,v4.2.2.2),[])
 else
 bif v4.1 == 15 then
 ob (dJ (k + 37) v1 xB) fun xx =>
 bif xx.1 != 3 then
 some (xD,(9,xB,(0,0,0,0,0,0,0),v4.2.2.2),[])
 else
 ob (de xD 0 18446744073709551615) fun xy =>
 bif room 1 24 then
 bif xy.2 == 1 then
 bif room 2 24 then
 ob (fO (k + 36) v1 xB) fun x935 =>
 bif (↑x935.length : Int) == 0 then
 ob (aF 1 v3 0) fun x936 =>
 some (xy.1,(0,x935,x936,v4.2.2.2),([(4,xx.2,v3),(5,0,v3)]))
 else
 some (xy.1,(9,x935,(0,0,0,0,0,0,0),v4.2.2.2),([(4,xx.2,v3),(5,0,v3)]))
 else
 none
 else
 ob (fO (k + 36) v1 xB) fun x937 =>
 bif (↑x937.length : Int) == 0 then
 ob (aF 1 v3 0) fun x938 =>
 some (xy.1,(0,x937,x938,v4.2.2.2),([(4,xx.2,v3)]))
 else
 some (xy.1,(9,x937,(0,0,0,0,0,0,0),v4.2.2.2),([(4,xx.2,v3)]))
 else
 none
 else
 none
theorem GE (k : Nat) (v0_0 v0_1 v0_2 v0_3 : Int) (v1 : List (Int × List Int)) (v2 : List Int) (v3 v4_0 : Int) (v4_1 : List (Int × Int × Int)) (v4_2_0 v4_2_1 v4_2_2 v4_2_3 v4_2_4 v4_2_5 v4_2_6 v4_3 v4_4 v5 : Int) : xC (k + 60) none 83 [.agg [.lit (.int .i64 v0_0),.lit (.int .i64 v0_1),.lit (.int .i64 v0_2),.lit (.int .i64 v0_3)],.ro (List.map ap v1),.ro (List.map (aN .u64) v2),.lit (.int .i64 v3),.agg [.lit (.int .i64 v4_0),.ro (List.map aZ v4_1),.lit (.int .i64 v4_2_0),.lit (.int .i64 v4_2_1),.lit (.int .i64 v4_2_2),.lit (.int .u64 v4_2_3),.lit (.int .u64 v4_2_4),.lit (.int .u64 v4_2_5),.lit (.int .i64 v4_2_6),.lit (.int .i64 v4_3),.lit (.int .i64 v4_4)],.lit (.int .u64 v5)] = ob (iF k (v0_0,v0_1,v0_2,v0_3) v1 v2 v3 (v4_0,v4_1,(v4_2_0,v4_2_1,v4_2_2,v4_2_3,v4_2_4,v4_2_5,v4_2_6),v4_3,v4_4) v5) fun r => some ((.tup [.ro (List.map (aN .u64) r.1),.agg [.lit (.int .i64 r.2.1.1),.ro (List.map aZ r.2.1.2.1),.lit (.int .i64 r.2.1.2.2.1.1),.lit (.int .i64 r.2.1.2.2.1.2.1),.lit (.int .i64 r.2.1.2.2.1.2.2.1),.lit (.int .u64 r.2.1.2.2.1.2.2.2.1),.lit (.int .u64 r.2.1.2.2.1.2.2.2.2.1),.lit (.int .u64 r.2.1.2.2.1.2.2.2.2.2.1),.lit (.int .i64 r.2.1.2.2.1.2.2.2.2.2.2),.lit (.int .i64 r.2.1.2.2.2.1),.lit (.int .i64 r.2.1.2.2.2.2)],.ro (List.map aZ r.2.2)]),[]) := by
  rw [aK]
  unfold iF ub
  simp (maxSteps := 2000000) -implicitDefEqProofs only [ai3,aiw,aeJ,Y4,af6,ac6,agi,aa5,Kp,wJ,afy,aaA,Mj,wu,afI,aci,agK,ZP,agx,adx,M9,NW,rX,uY,afK,acL,aft,ac8,afk,aaw,ag9,adj,ae5,aa9,af0,aaT,aeE,aam,ahW,Y6,J5,rR,aeF,aaY,Nb,J4,wA,wi,aeL,adi,ahU,adm,ahx,adq,aeP,acV,afg,ab2,↓syP,syA,syD,simprocAttr,syE,ah,ag,af,syW,xQ,cf,As,lR,ew,i5,eL,fI,Cf,pW,og,CJ,rm,JA,BC,A6]
  all_goals simp -implicitDefEqProofs only [List.map_nil]
end Go.Ab
