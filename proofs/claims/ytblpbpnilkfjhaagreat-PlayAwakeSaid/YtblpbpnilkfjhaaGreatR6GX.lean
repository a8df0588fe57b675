import Derived.Test.YtblpbpnilkfjhaaGreatR6Run
import Derived.Test.YtblpbpnilkfjhaaGreatR6Facts
import Derived.Test.YtblpbpnilkfjhaaGreatR6Man
import Derived.Test.YtblpbpnilkfjhaaGreatR6BY
import Derived.Test.YtblpbpnilkfjhaaGreatR6BX
import Derived.Test.YtblpbpnilkfjhaaGreatR6BZ
set_option linter.unusedVariables false
set_option linter.unusedSimpArgs false
set_option maxRecDepth 100000
set_option linter.unusedVariables false
set_option linter.unusedSimpArgs false
namespace Go.Ab
open Go.Proofs
def bA (k:Nat) (v0:Tyt)  : Nat→Int→Option Bool
 | 0,_=>none
 | n+1,s3=>
 bif decide (s3<(↑v0.length:Int)) then
 bif decide (s3≤(40:Int)) then
 ob (idx v0 s3) fun x6=>
 bif decide ((40:Int)<(↑x6.2.length:Int)) then
 some (false)
 else
 bA k v0  n (IntKind.i64.wrap (s3+(1:Int)))
 else
 some (decide ((↑v0.length:Int)≤(40:Int)))
 else
 some (decide ((↑v0.length:Int)≤(40:Int)))
theorem l9 (k:Nat) (v0:Tyt):∀ (n:Nat) (s3:Int),rt none (itX (xX (xS k) 21 0 k false) us (0) (aw (xX (xS k) 21 0 k false) (av (xS k).P Tryz.f21) IS) n ⟨[.ro (List.map ao v0),uu,.lit (.bool false),.lit (.int .i64 s3),.junk,.junk,.junk,.junk,.junk,.junk,.junk,.junk,.junk,.junk,.junk,.junk,.junk,.junk,.junk,.junk,.junk,uu,uu,uu],[]⟩)=ob (bA k v0  n s3) fun r=>some ((.lit (.bool r)),[]):=by
 intro n
 induction n with
 | zero=>intros;rfl
 | succ n ih=>
  intro s3
  rw [bA]
  simp -implicitDefEqProofs only [ahV,aeg,af0,Ma,NQ,ry,rD,↓syP,syA,syD,simprocAttr,syE,ah,ag,ae,syW,xQ,T1,ih]
def dA (k:Nat) (v0:Tyt):Option Bool:=
 bA k v0 k 0
theorem pG (k:Nat) (v0:Tyt):xC (k+1) none 21 [.ro (List.map ao v0)]=ob (dA k v0) fun r=>some ((.lit (.bool r)),[]):=by
 rw [aH]
 unfold dA
 simp -implicitDefEqProofs only [ahV,aeg,af0,Ma,NQ,ry,rD,↓syP,syA,syD,simprocAttr,syE,ah,ag,ae,syW,xQ,l9 k v0]
def fN (v0:(Int×List Int)):Option Bool:=
 bif decide (v0.1<0) then
 some true
 else
 some (decide (20<v0.1))
theorem A4 (k:Nat) (v0_0:Int) (v0_1:List Int):xC (k+1) none 99 [.agg [.lit (.int .i64 v0_0),.ro (List.map (aG .i64) v0_1)]]=ob (fN (v0_0,v0_1)) fun r=>some ((.lit (.bool r)),[]):=by
 rw [aH]
 unfold fN
 simp -implicitDefEqProofs only [acX,aaE,EO,lz,↓syP,syA,syD,simprocAttr,syE,ah,ag,ae,syW,xQ]
def aD (k:Nat) (v0:Tyt)  : Nat→Int→Option Int
 | 0,_=>none
 | n+1,sT=>
 bif decide (sT<(↑v0.length:Int)) then
 ob (idx v0 sT) fun xz=>
 ob (fN (xz.1,xz.2)) fun x18=>
 bif x18 then
 some (sT)
 else
 aD k v0  n (IntKind.i64.wrap (sT+(1:Int)))
 else
 some ((-1:Int))
theorem dU (k:Nat) (v0:Tyt):∀ (n:Nat) (sT:Int) ⦃j11:V⦄,rt none (itX (xX (xS (k+8)) 147 0 (k+8) false) C3 (0) (aw (xX (xS (k+8)) 147 0 (k+8) false) (av (xS (k+8)).P Tryz.f147) Cj) n ⟨[.ro (List.map ao v0),.fn (Fn.func (99:FuncId)) [] [],uu,uu,.lit (.int .i64 (0:Int)),j11,.ro (List.map ao v0),.lit (.int .i64 (↑v0.length:Int)),.lit (.int .i64 sT),.junk,.junk,.junk,.junk,.junk,.junk,.junk,.junk,.junk,.junk],[]⟩)=ob (aD k v0  n sT) fun r=>some ((.lit (.int .i64 r)),[]):=by
 intro n
 induction n with
 | zero=>intros;rfl
 | succ n ih=>
  intro sT j11
  rw [aD]
  simp -implicitDefEqProofs only [Kd,GP,Ho,og,fY,↓syP,syA,syD,simprocAttr,syE,ah,ag,ae,syW,xQ,A4,MD,ih]
def ba (k:Nat) (v0:Tyt):Option Int:=
 aD k v0 (k+8) 0
theorem eY (k:Nat) (v0:Tyt):xC (k+9) none 147 [.ro (List.map ao v0),.fn (Fn.func (99:FuncId)) [] []]=ob (ba k v0) fun r=>some ((.lit (.int .i64 r)),[]):=by
 rw [aH]
 unfold ba
 simp -implicitDefEqProofs only [Kd,GP,Ho,og,fY,↓syP,syA,syD,simprocAttr,syE,ah,ag,ae,syW,xQ,dU k v0]
def aP (k:Nat) (v0:Tyt):Option Bool:=
 ob (ba (k+8) v0) fun x20=>
 some (decide (0≤x20))
theorem bn (k:Nat) (v0:Tyt):xC (k+18) none 98 [.ro (List.map ao v0),.fn (Fn.func (99:FuncId)) [] []]=ob (aP k v0) fun r=>some ((.lit (.bool r)),[]):=by
 rw [aH]
 unfold aP
 simp -implicitDefEqProofs only [acZ,Zf,Kd,GP,Ho,og,fY,↓syP,syA,syD,simprocAttr,syE,ah,ag,ae,syW,xQ,eY]
def dl (k:Nat) (v0:Tyt) (o0:Int→List Bool→Option Bool):Nat→List Int→Int→Int→List Bool→Int→Option Bool
 | 0,_,_,_,_,_=>none
 | n+1,sO,sY,sW,sU,sP=>
 bif decide (sW<sY) then
 ob (idx sO sW) fun xP=>
 bif decide (xP≤sP) then
 some (false)
 else
 bif decide ((↑v0.length:Int)≤xP) then
 some (false)
 else
 bif decide ((0:Int)≤xP∧xP.toNat<v0.length) then
 ob (sU[xP.toNat]?) fun xN=>
 bif xN then
 some (false)
 else
 bif decide ((0:Int)≤xP∧xP.toNat<v0.length) then
 ob (sU[xP.toNat]?) fun x64=>
 dl k v0 o0 n (sO) (sY) (IntKind.i64.wrap (sW+(1:Int))) (sU.set xP.toNat true) (sP)
 else
 none
 else
 none
 else
 o0 (IntKind.i64.wrap (sP+(1:Int))) (sU)
theorem pI (k:Nat) (v0:Tyt) (n23:Nat) (o0:Int→List Bool→Option Bool) (ho0:∀ (sF:Int) (sI:List Bool) ⦃sM:Bool⦄ ⦃j40 j41 j50:V⦄,rt none (bq (itX (xX (xS (k+17)) 148 0 (k+17) false) i7 (7) (aw (xX (xS (k+17)) 148 0 (k+17) false) (av (xS (k+17)).P Tryz.f148) ml) n23 ⟨[.yld 6,.ptr 5 0 0 0,uu,j40,j41,uu,j50,.ro (List.map ao v0),.lit (.int .i64 (↑v0.length:Int)),.lit (.int .i64 sF),.junk,.junk,.junk,.junk,.junk,.junk,.junk,.junk,.junk,.junk,.junk,.junk,.junk,.junk,.junk,.junk,.junk,.junk],[.box [.ro (List.map ao v0)],.box [.lit (.bool false)],.rows 1 (List.map Bi sI) 0 true,.rows 0 [] 0 true,.box [.own 2 0 v0.length],.box [.ro (List.map ao v0)],(.loop ⟨LoopState.ready,none,56,[.ro (List.map ao v0),.ptr 0 0 0 0,.ptr 1 0 0 0,.ptr 4 0 0 0,uu,uu,.ro (List.map ao v0),.lit (.int .i64 (↑v0.length:Int)),.lit (.bool (decide ((30:Int)<(↑v0.length:Int)))),.lit (.bool false),.ro (List.map ao v0),.lit (.bool sM),.lit (.bool sM),.ro (List.map ao v0),.lit (.int .i64 (↑v0.length:Int)),.own 2 0 v0.length,.ro (List.map ao v0),.fn (Fn.func (148:FuncId)) [] [.ptr 5 0 0 0],uu,uu,uu,uu,uu,uu,uu,uu,uu,uu,uu,uu,uu,uu,uu,uu,uu,uu,uu,uu],[(18:Tmp),(19:Tmp)],EW,EP⟩)]⟩) (rfK (aw (xX (xS (k+18)) 56 0 (k+18) false) (av (xS (k+18)).P Tryz.f56) BX) [.ro (List.map ao v0),.ptr 0 0 0 0,.ptr 1 0 0 0,.ptr 4 0 0 0,uu,uu,.ro (List.map ao v0),.lit (.int .i64 (↑v0.length:Int)),.lit (.bool (decide ((30:Int)<(↑v0.length:Int)))),.lit (.bool false),.ro (List.map ao v0),.lit (.bool sM),.lit (.bool sM),.ro (List.map ao v0),.lit (.int .i64 (↑v0.length:Int)),.own 2 0 v0.length,.ro (List.map ao v0),.fn (Fn.func (148:FuncId)) [] [.ptr 5 0 0 0],uu,uu,uu,uu,uu,uu,uu,uu,uu,uu,uu,uu,uu,uu,uu,uu,uu,uu,uu,uu] (6)))=ob (o0 sF sI) fun r=>some ((.lit (.bool r)),[])):∀ (n:Nat) (sO:List Int) (sY sW:Int) (sU:List Bool) (sP:Int) ⦃sd:Int⦄ ⦃sb sf:Bool⦄ ⦃j37:V⦄,rt none (bq (itX (xX (xS (k+17)) 148 0 (k+17) false) we (9) (aw (xX (xS (k+17)) 148 0 (k+17) false) (eg (xX (xS (k+17)) 148 0 (k+17) false) i7 7 (aw (xX (xS (k+17)) 148 0 (k+17) false) (av (xS (k+17)).P Tryz.f148) ml) n23) AD) n ⟨[.yld 6,.ptr 5 0 0 0,uu,.lit (.int .i64 sP),.ptr 8 0 0 0,uu,j37,.ro (List.map ao v0),.lit (.int .i64 (↑v0.length:Int)),.lit (.int .i64 sP),.lit (.bool sf),.lit (.int .i64 sP),.rp [.lit (.int .i64 sd),.ro (List.map (aG IntKind.i64) sO)],.agg [.lit (.int .i64 sd),.ro (List.map (aG IntKind.i64) sO)],.ptr 8 0 0 1,.ro (List.map (aG IntKind.i64) sO),.lit (.int .i64 sY),.lit (.int .i64 sW),.junk,.junk,.junk,.junk,.junk,.junk,.junk,.junk,.junk,.junk],[.box [.ro (List.map ao v0)],.box [.lit (.bool false)],.rows 1 (List.map Bi sU) 0 true,.rows 0 [] 0 true,.box [.own 2 0 v0.length],.box [.ro (List.map ao v0)],(.loop ⟨LoopState.ready,none,56,[.ro (List.map ao v0),.ptr 0 0 0 0,.ptr 1 0 0 0,.ptr 4 0 0 0,uu,uu,.ro (List.map ao v0),.lit (.int .i64 (↑v0.length:Int)),.lit (.bool (decide ((30:Int)<(↑v0.length:Int)))),.lit (.bool false),.ro (List.map ao v0),.lit (.bool sb),.lit (.bool sb),.ro (List.map ao v0),.lit (.int .i64 (↑v0.length:Int)),.own 2 0 v0.length,.ro (List.map ao v0),.fn (Fn.func (148:FuncId)) [] [.ptr 5 0 0 0],uu,uu,uu,uu,uu,uu,uu,uu,uu,uu,uu,uu,uu,uu,uu,uu,uu,uu,uu,uu],[(18:Tmp),(19:Tmp)],EW,EP⟩),.rows 0 [] 0 true,.box [.lit (.int .i64 sd),.ro (List.map (aG IntKind.i64) sO)]]⟩) (rfK (aw (xX (xS (k+18)) 56 0 (k+18) false) (av (xS (k+18)).P Tryz.f56) BX) [.ro (List.map ao v0),.ptr 0 0 0 0,.ptr 1 0 0 0,.ptr 4 0 0 0,uu,uu,.ro (List.map ao v0),.lit (.int .i64 (↑v0.length:Int)),.lit (.bool (decide ((30:Int)<(↑v0.length:Int)))),.lit (.bool false),.ro (List.map ao v0),.lit (.bool sb),.lit (.bool sb),.ro (List.map ao v0),.lit (.int .i64 (↑v0.length:Int)),.own 2 0 v0.length,.ro (List.map ao v0),.fn (Fn.func (148:FuncId)) [] [.ptr 5 0 0 0],uu,uu,uu,uu,uu,uu,uu,uu,uu,uu,uu,uu,uu,uu,uu,uu,uu,uu,uu,uu] (6)))=ob (dl k v0 o0 n sO sY sW sU sP) fun r=>some ((.lit (.bool r)),[]):=by
 intro n
 induction n with
 | zero=>intros;rfl
 | succ n ih=>
  intro sO sY sW sU sP sd sb sf j37
  rw [dl]
  simp -implicitDefEqProofs only [ady,ac5,ac0,I1,Jp,eI,eG,IW,Iv,nA,nE,nG,wa,acZ,Zf,acX,aaE,EO,lz,KY,GV,aH (g:=100),Kd,GP,Ho,og,fY,Ka,GI,GH,oc,oE,fZ,fW,↓syP,syA,syD,simprocAttr,syE,ah,ag,ae,syW,xQ,bn,GB,ih,ho0]
def bZ (k:Nat) (v0:Tyt)  : Nat→Int→List Bool→Option Bool
 | 0,_,_=>none
 | n+1,sF,sI=>
 bif decide (sF<(↑v0.length:Int)) then
 ob (idx v0 sF) fun x58=>
 dl k v0 (fun sF sI=>bZ k v0  n sF sI) (k+17) (x58.2) ((↑x58.2.length:Int)) ((0:Int)) (sI) (sF)
 else
 some (true)
theorem pr (k:Nat) (v0:Tyt):∀ (n:Nat) (sF:Int) (sI:List Bool) ⦃sM:Bool⦄ ⦃j40 j41 j50:V⦄,rt none (bq (itX (xX (xS (k+17)) 148 0 (k+17) false) i7 (7) (aw (xX (xS (k+17)) 148 0 (k+17) false) (av (xS (k+17)).P Tryz.f148) ml) n ⟨[.yld 6,.ptr 5 0 0 0,uu,j40,j41,uu,j50,.ro (List.map ao v0),.lit (.int .i64 (↑v0.length:Int)),.lit (.int .i64 sF),.junk,.junk,.junk,.junk,.junk,.junk,.junk,.junk,.junk,.junk,.junk,.junk,.junk,.junk,.junk,.junk,.junk,.junk],[.box [.ro (List.map ao v0)],.box [.lit (.bool false)],.rows 1 (List.map Bi sI) 0 true,.rows 0 [] 0 true,.box [.own 2 0 v0.length],.box [.ro (List.map ao v0)],(.loop ⟨LoopState.ready,none,56,[.ro (List.map ao v0),.ptr 0 0 0 0,.ptr 1 0 0 0,.ptr 4 0 0 0,uu,uu,.ro (List.map ao v0),.lit (.int .i64 (↑v0.length:Int)),.lit (.bool (decide ((30:Int)<(↑v0.length:Int)))),.lit (.bool false),.ro (List.map ao v0),.lit (.bool sM),.lit (.bool sM),.ro (List.map ao v0),.lit (.int .i64 (↑v0.length:Int)),.own 2 0 v0.length,.ro (List.map ao v0),.fn (Fn.func (148:FuncId)) [] [.ptr 5 0 0 0],uu,uu,uu,uu,uu,uu,uu,uu,uu,uu,uu,uu,uu,uu,uu,uu,uu,uu,uu,uu],[(18:Tmp),(19:Tmp)],EW,EP⟩)]⟩) (rfK (aw (xX (xS (k+18)) 56 0 (k+18) false) (av (xS (k+18)).P Tryz.f56) BX) [.ro (List.map ao v0),.ptr 0 0 0 0,.ptr 1 0 0 0,.ptr 4 0 0 0,uu,uu,.ro (List.map ao v0),.lit (.int .i64 (↑v0.length:Int)),.lit (.bool (decide ((30:Int)<(↑v0.length:Int)))),.lit (.bool false),.ro (List.map ao v0),.lit (.bool sM),.lit (.bool sM),.ro (List.map ao v0),.lit (.int .i64 (↑v0.length:Int)),.own 2 0 v0.length,.ro (List.map ao v0),.fn (Fn.func (148:FuncId)) [] [.ptr 5 0 0 0],uu,uu,uu,uu,uu,uu,uu,uu,uu,uu,uu,uu,uu,uu,uu,uu,uu,uu,uu,uu] (6)))=ob (bZ k v0  n sF sI) fun r=>some ((.lit (.bool r)),[]):=by
 intro n
 induction n with
 | zero=>intros;rfl
 | succ n ih=>
  intro sF sI sM j40 j41 j50
  rw [bZ]
  simp -implicitDefEqProofs only [ady,ac5,ac0,I1,Jp,eI,eG,IW,Iv,nA,nE,nG,wa,acZ,Zf,acX,aaE,EO,lz,KY,GV,aH (g:=100),Kd,GP,Ho,og,fY,Ka,GI,GH,oc,oE,fZ,fW,↓syP,syA,syD,simprocAttr,syE,ah,ag,ae,syW,xQ,bn,G4,ih,pI k v0 _ (fun sF sI=>bZ k v0  n sF sI) ih]
def da (k:Nat) (v0:Tyt):Option Bool:=
 bif decide (30<(↑v0.length:Int)) then
 some false
 else
 ob (aP k v0) fun xc=>
 bif xc then
 some false
 else
 bif decide (0≤(↑v0.length:Int)∧(↑v0.length:Int)≤9223372036854775807∧(↑v0.length:Int)*1≤70368744177664) then
 bZ k v0 (k+17) 0 (List.replicate v0.length false)
 else
 none
theorem de (k:Nat) (v0:Tyt):xC (k+19) none 56 [.ro (List.map ao v0)]=ob (da k v0) fun r=>some ((.lit (.bool r)),[]):=by
 rw [aH]
 unfold da
 simp -implicitDefEqProofs only [ady,ac5,ac0,I1,Jp,eI,eG,IW,Iv,nA,nE,nG,wa,acZ,Zf,acX,aaE,EO,lz,KY,GV,aH (g:=100),Kd,GP,Ho,og,fY,Ka,GI,GH,oc,oE,fZ,fW,↓syP,syA,syD,simprocAttr,syE,ah,ag,ae,syW,xQ,bn,pr k v0]
def cd (k:Nat) (v0:Tyt) (v1:Int) (o0:Int→Option Int):Nat→List Int→Int→Int→Int→Option Int
 | 0,_,_,_,_=>none
 | n+1,sG,sE,sC,sH=>
 bif decide (sC<sE) then
 ob (idx sG sC) fun x137=>
 bif x137==v1 then
 some (sH)
 else
 cd k v0 v1 o0 n (sG) (sE) (IntKind.i64.wrap (sC+(1:Int))) (sH)
 else
 o0 (IntKind.i64.wrap (sH+(1:Int)))
theorem mT (k:Nat) (v0:Tyt) (v1:Int) (n108:Nat) (o0:Int→Option Int) (ho0:∀ (sD:Int) ⦃sR:Bool⦄ ⦃j122 j123 j130:V⦄,rt none (bq (itX (xX (xS (k+18)) 148 0 (k+18) false) i7 (4) (aw (xX (xS (k+18)) 148 0 (k+18) false) (av (xS (k+18)).P Tryz.f148) ml) n108 ⟨[.yld 3,.ptr 2 0 0 0,uu,j122,j123,uu,j130,.ro (List.map ao v0),.lit (.int .i64 (↑v0.length:Int)),.lit (.int .i64 sD),.junk,.junk,.junk,.junk,.junk,.junk,.junk,.junk,.junk,.junk,.junk,.junk,.junk,.junk,.junk,.junk,.junk,.junk],[.box [.lit (.int .i64 v1)],.box [.lit (.int .i64 (0:Int))],.box [.ro (List.map ao v0)],(.loop ⟨LoopState.ready,none,101,[.ro (List.map ao v0),.lit (.int .i64 v1),uu,.ptr 0 0 0 0,.ptr 1 0 0 0,uu,uu,.ro (List.map ao v0),.lit (.bool sR),.ro (List.map ao v0),.fn (Fn.func (148:FuncId)) [] [.ptr 2 0 0 0],uu,uu,uu,uu,uu,uu],[(11:Tmp),(12:Tmp)],AF,AP⟩)]⟩) (rfK (aw (xX (xS (k+19)) 101 0 (k+19) false) (av (xS (k+19)).P Tryz.f101) rI) [.ro (List.map ao v0),.lit (.int .i64 v1),uu,.ptr 0 0 0 0,.ptr 1 0 0 0,uu,uu,.ro (List.map ao v0),.lit (.bool sR),.ro (List.map ao v0),.fn (Fn.func (148:FuncId)) [] [.ptr 2 0 0 0],uu,uu,uu,uu,uu,uu] (3)))=ob (o0 sD) fun r=>some ((.lit (.int .i64 r)),[])):∀ (n:Nat) (sG:List Int) (sE sC sH:Int) ⦃sa:Int⦄ ⦃sc se:Bool⦄ ⦃j120:V⦄,rt none (bq (itX (xX (xS (k+18)) 148 0 (k+18) false) we (6) (aw (xX (xS (k+18)) 148 0 (k+18) false) (eg (xX (xS (k+18)) 148 0 (k+18) false) i7 4 (aw (xX (xS (k+18)) 148 0 (k+18) false) (av (xS (k+18)).P Tryz.f148) ml) n108) AD) n ⟨[.yld 3,.ptr 2 0 0 0,uu,.lit (.int .i64 sH),.ptr 5 0 0 0,uu,j120,.ro (List.map ao v0),.lit (.int .i64 (↑v0.length:Int)),.lit (.int .i64 sH),.lit (.bool se),.lit (.int .i64 sH),.rp [.lit (.int .i64 sa),.ro (List.map (aG IntKind.i64) sG)],.agg [.lit (.int .i64 sa),.ro (List.map (aG IntKind.i64) sG)],.ptr 5 0 0 1,.ro (List.map (aG IntKind.i64) sG),.lit (.int .i64 sE),.lit (.int .i64 sC),.junk,.junk,.junk,.junk,.junk,.junk,.junk,.junk,.junk,.junk],[.box [.lit (.int .i64 v1)],.box [.lit (.int .i64 (0:Int))],.box [.ro (List.map ao v0)],(.loop ⟨LoopState.ready,none,101,[.ro (List.map ao v0),.lit (.int .i64 v1),uu,.ptr 0 0 0 0,.ptr 1 0 0 0,uu,uu,.ro (List.map ao v0),.lit (.bool sc),.ro (List.map ao v0),.fn (Fn.func (148:FuncId)) [] [.ptr 2 0 0 0],uu,uu,uu,uu,uu,uu],[(11:Tmp),(12:Tmp)],AF,AP⟩),.rows 0 [] 0 true,.box [.lit (.int .i64 sa),.ro (List.map (aG IntKind.i64) sG)]]⟩) (rfK (aw (xX (xS (k+19)) 101 0 (k+19) false) (av (xS (k+19)).P Tryz.f101) rI) [.ro (List.map ao v0),.lit (.int .i64 v1),uu,.ptr 0 0 0 0,.ptr 1 0 0 0,uu,uu,.ro (List.map ao v0),.lit (.bool sc),.ro (List.map ao v0),.fn (Fn.func (148:FuncId)) [] [.ptr 2 0 0 0],uu,uu,uu,uu,uu,uu] (3)))=ob (cd k v0 v1 o0 n sG sE sC sH) fun r=>some ((.lit (.int .i64 r)),[]):=by
 intro n
 induction n with
 | zero=>intros;rfl
 | succ n ih=>
  intro sG sE sC sH sa sc se j120
  rw [cd]
  simp -implicitDefEqProofs only [KY,GV,aH (g:=100),WN,QY,Sy,Ci,eb,d9,mi,rn,Ka,GI,GH,oc,oE,fZ,fW,↓syP,syA,syD,simprocAttr,syE,ah,ag,ae,syW,xQ,de,GB,ih,ho0]
def bJ (k:Nat) (v0:Tyt) (v1:Int)  : Nat→Int→Option Int
 | 0,_=>none
 | n+1,sD=>
 bif decide (sD<(↑v0.length:Int)) then
 ob (idx v0 sD) fun x135=>
 cd k v0 v1 (fun sD=>bJ k v0 v1  n sD) (k+18) (x135.2) ((↑x135.2.length:Int)) ((0:Int)) (sD)
 else
 some ((-1:Int))
theorem nh (k:Nat) (v0:Tyt) (v1:Int):∀ (n:Nat) (sD:Int) ⦃sR:Bool⦄ ⦃j122 j123 j130:V⦄,rt none (bq (itX (xX (xS (k+18)) 148 0 (k+18) false) i7 (4) (aw (xX (xS (k+18)) 148 0 (k+18) false) (av (xS (k+18)).P Tryz.f148) ml) n ⟨[.yld 3,.ptr 2 0 0 0,uu,j122,j123,uu,j130,.ro (List.map ao v0),.lit (.int .i64 (↑v0.length:Int)),.lit (.int .i64 sD),.junk,.junk,.junk,.junk,.junk,.junk,.junk,.junk,.junk,.junk,.junk,.junk,.junk,.junk,.junk,.junk,.junk,.junk],[.box [.lit (.int .i64 v1)],.box [.lit (.int .i64 (0:Int))],.box [.ro (List.map ao v0)],(.loop ⟨LoopState.ready,none,101,[.ro (List.map ao v0),.lit (.int .i64 v1),uu,.ptr 0 0 0 0,.ptr 1 0 0 0,uu,uu,.ro (List.map ao v0),.lit (.bool sR),.ro (List.map ao v0),.fn (Fn.func (148:FuncId)) [] [.ptr 2 0 0 0],uu,uu,uu,uu,uu,uu],[(11:Tmp),(12:Tmp)],AF,AP⟩)]⟩) (rfK (aw (xX (xS (k+19)) 101 0 (k+19) false) (av (xS (k+19)).P Tryz.f101) rI) [.ro (List.map ao v0),.lit (.int .i64 v1),uu,.ptr 0 0 0 0,.ptr 1 0 0 0,uu,uu,.ro (List.map ao v0),.lit (.bool sR),.ro (List.map ao v0),.fn (Fn.func (148:FuncId)) [] [.ptr 2 0 0 0],uu,uu,uu,uu,uu,uu] (3)))=ob (bJ k v0 v1  n sD) fun r=>some ((.lit (.int .i64 r)),[]):=by
 intro n
 induction n with
 | zero=>intros;rfl
 | succ n ih=>
  intro sD sR j122 j123 j130
  rw [bJ]
  simp -implicitDefEqProofs only [KY,GV,aH (g:=100),WN,QY,Sy,Ci,eb,d9,mi,rn,Ka,GI,GH,oc,oE,fZ,fW,↓syP,syA,syD,simprocAttr,syE,ah,ag,ae,syW,xQ,de,G4,ih,mT k v0 v1 _ (fun sD=>bJ k v0 v1  n sD) ih]
def eV (k:Nat) (v0:Tyt) (v1:Int):Option Int:=
 ob (da k v0) fun x138=>
 bif x138 then
 bJ k v0 v1 (k+18) 0
 else
 some ((-1))
theorem wI (k:Nat) (v0:Tyt) (v1:Int):xC (k+20) none 101 [.ro (List.map ao v0),.lit (.int .i64 v1)]=ob (eV k v0 v1) fun r=>some ((.lit (.int .i64 r)),[]):=by
 rw [aH]
 unfold eV
 simp -implicitDefEqProofs only [KY,GV,aH (g:=100),WN,QY,Sy,Ci,eb,d9,mi,rn,Ka,GI,GH,oc,oE,fZ,fW,↓syP,syA,syD,simprocAttr,syE,ah,ag,ae,syW,xQ,de,nh k v0 v1]
end Go.Ab
set_option maxRecDepth 100000
set_option linter.unusedVariables false
set_option linter.unusedSimpArgs false
namespace Go.Ab
open Go.Proofs
def eF (v0:Int) (v1:Int) (v2:Int):Option Bool:=
 bif decide (v1≤v0) then
 some (decide (v0≤v2))
 else
 some false
theorem mD (k:Nat) (v0 v1 v2:Int):xC (k+1) none 93 [.lit (.int .i64 v0),.lit (.int .i64 v1),.lit (.int .i64 v2)]=ob (eF v0 v1 v2) fun r=>some ((.lit (.bool r)),[]):=by
 rw [aH]
 unfold eF
 simp -implicitDefEqProofs only [aio,ahl,TU,B4,↓syP,syA,syD,simprocAttr,syE,ah,ag,ae,syW,xQ]
def bU (v0:(Int×Int×Int×Int)):Option Bool:=
 ob (eF v0.1 1 8) fun x5=>
 bif x5 then
 ob (eF v0.2.1 1 16) fun x6=>
 bif x6 then
 bif uM IntKind.i64 v0.2.1 (IntKind.i64.wrap (v0.2.1 - 1))==0 then
 ob (eF v0.2.2.1 1 16) fun x7=>
 bif x7 then
 ob (eF v0.2.2.2 0 4) fun x8=>
 some x8
 else
 some false
 else
 some false
 else
 some false
 else
 some false
theorem bT (k:Nat) (v0_0 v0_1 v0_2 v0_3:Int):xC (k+2) none 50 [.agg [.lit (.int .i64 v0_0),.lit (.int .i64 v0_1),.lit (.int .i64 v0_2),.lit (.int .i64 v0_3)]]=ob (bU (v0_0,v0_1,v0_2,v0_3)) fun r=>some ((.lit (.bool r)),[]):=by
 rw [aH]
 unfold bU
 simp -implicitDefEqProofs only [ah2,ahI,Tl,Tq,Ua,T6,Bs,↓syP,syA,syD,simprocAttr,syE,ah,ag,ae,syW,xQ,mD]
def fx (v0:(Int×Int×Int×Int)) (v1:Int):Option Int:=
 some (IntKind.i64.wrap (IntKind.i64.wrap (6+IntKind.i64.wrap (2*v0.2.2.1))+IntKind.i64.wrap (v1*IntKind.i64.wrap (3+v0.2.1))))
theorem lU (k:Nat) (v0_0 v0_1 v0_2 v0_3 v1:Int):xC (k+1) none 72 [.agg [.lit (.int .i64 v0_0),.lit (.int .i64 v0_1),.lit (.int .i64 v0_2),.lit (.int .i64 v0_3)],.lit (.int .i64 v1)]=ob (fx (v0_0,v0_1,v0_2,v0_3) v1) fun r=>some ((.lit (.int .i64 r)),[]):=by
 rw [aH]
 unfold fx
 simp -implicitDefEqProofs only [aij,ahw,↓syP,syA,syD,simprocAttr,syE,ah,ag,ae,syW,xQ]
def dx (v0:(Int×Int×Int×Int)):Option Int:=
 ob (bU v0) fun x16=>
 bif !x16 then
 some 0
 else
 ob (fx v0 v0.1) fun xz=>
 some xz
theorem fl (k:Nat) (v0_0 v0_1 v0_2 v0_3:Int):xC (k+3) none 103 [.agg [.lit (.int .i64 v0_0),.lit (.int .i64 v0_1),.lit (.int .i64 v0_2),.lit (.int .i64 v0_3)]]=ob (dx (v0_0,v0_1,v0_2,v0_3)) fun r=>some ((.lit (.int .i64 r)),[]):=by
 rw [aH]
 unfold dx
 simp -implicitDefEqProofs only [aeK,Zr,↓syP,syA,syD,simprocAttr,syE,ah,ag,ae,syW,xQ,bT,lU]
def ik (v0:(List Int)) (v1:Int):Option Bool:=
 bif decide (0≤v1) then
 some (decide (v1<(↑v0.length:Int)))
 else
 some false
theorem pz (k:Nat) (v0:List Int) (v1:Int):xC (k+1) none 66 [.ro (List.map (aG .u64) v0),.lit (.int .i64 v1)]=ob (ik v0 v1) fun r=>some ((.lit (.bool r)),[]):=by
 rw [aH]
 unfold ik
 simp -implicitDefEqProofs only [aiI,ahP,SC,BF,↓syP,syA,syD,simprocAttr,syE,ah,ag,ae,syW,xQ]
def aE (v0:(List Int)) (v1:Int):Option Int:=
 ob (ik v0 v1) fun x22=>
 bif !x22 then
 some 0
 else
 ob (idx v0 v1) fun x23=>
 some x23
theorem b9 (k:Nat) (v0:List Int) (v1:Int):xC (k+2) none 27 [.ro (List.map (aG .u64) v0),.lit (.int .i64 v1)]=ob (aE v0 v1) fun r=>some ((.lit (.int .u64 r)),[]):=by
 rw [aH]
 unfold aE
 simp -implicitDefEqProofs only [ah1,aht,↓syP,syA,syD,simprocAttr,syE,ah,ag,ae,syW,xQ,pz]
def bo (v0:(List Int)) (v1:Int) (v2:Int):Option (List Int):=
 ob (aO 8 v0) fun xd=>
 ob (ik v0 v1) fun xu=>
 bif !xu then
 some xd
 else
 ob (idx v0 v1) fun xq=>
 bif decide (0≤v1∧v1.toNat<xd.length) then
 ob (xd[v1.toNat]?) fun x34=>
 ob (idx v0 v1) fun x35=>
 some (xd.set v1.toNat v2)
 else
 none
theorem dZ (k:Nat) (v0:List Int) (v1 v2:Int):xC (k+11) none 88 [.ro (List.map (aG .u64) v0),.lit (.int .i64 v1),.lit (.int .u64 v2)]=ob (bo v0 v1 v2) fun r=>some ((.ro (List.map (aG .u64) r)),[]):=by
 rw [aH]
 unfold bo
 simp -implicitDefEqProofs only [ain,ahZ,WK,Q2,agL,acA,↓syP,syA,syD,simprocAttr,syE,ah,ag,ae,syW,xQ,pz]
def dv (v0:(List Int)) (v1:Int) (v2:Int):Option ((List Int)×Int):=
 ob (aO 8 v0) fun xr=>
 ob (ik v0 v1) fun xh=>
 bif !xh then
 some (xr,0)
 else
 ob (idx v0 v1) fun x48=>
 bif decide (0≤v1∧v1.toNat<xr.length) then
 ob (xr[v1.toNat]?) fun xn=>
 ob (idx v0 v1) fun x50=>
 some ((xr.set v1.toNat (IntKind.u64.wrap (x48+v2))),x50)
 else
 none
theorem Bv (k:Nat) (v0:List Int) (v1 v2:Int):xC (k+11) none 138 [.ro (List.map (aG .u64) v0),.lit (.int .i64 v1),.lit (.int .u64 v2)]=ob (dv v0 v1 v2) fun r=>some ((.tup [.ro (List.map (aG .u64) r.1),.lit (.int .u64 r.2)]),[]):=by
 rw [aH]
 unfold dv
 simp -implicitDefEqProofs only [adG,Yz,WK,Q2,agR,Z9,↓syP,syA,syD,simprocAttr,syE,ah,ag,ae,syW,xQ,pz]
def dw (v0 : (List Int)) (v1 : Int) (v2 : Int) (v3 : Int) : Option ((List Int) × Bool) :=
 ob (aO 8 v0) fun xN =>
 ob (ik v0 v1) fun x64 =>
 bif !x64 then
 some (xN,false)
 else
 ob (idx v0 v1) fun xc =>
 bif xc != v2 then
 bif decide (0 ≤ v1 ∧ v1.toNat < xN.length) then
 ob (xN[v1.toNat]?) fun x66 =>
 ob (idx v0 v1) fun x67 =>
 some ((xN.set v1.toNat xc),false)
 else
 none
 else
 bif decide (0 ≤ v1 ∧ v1.toNat < xN.length) then
 ob (xN[v1.toNat]?) fun x68 =>
 ob (idx v0 v1) fun x69 =>
 some ((xN.set v1.toNat v3),true)
 else
 none
theorem iY (k:Nat) (v0:List Int) (v1 v2 v3:Int):xC (k+11) none 191 [.ro (List.map (aG .u64) v0),.lit (.int .i64 v1),.lit (.int .u64 v2),.lit (.int .u64 v3)]=ob (dw v0 v1 v2 v3) fun r=>some ((.tup [.ro (List.map (aG .u64) r.1),.lit (.bool r.2)]),[]):=by
 rw [aH]
 unfold dw
 simp -implicitDefEqProofs only [WK,Q2,ado,Yr,agD,Yu,↓syP,syA,syD,simprocAttr,syE,ah,ag,ae,syW,xQ,pz]
def aJ (v0:Int) (v1:Int) (v2:Int):Option (Int×Int×Int×Int×Int×Int×Int):=
 some (v0,0,v1,v2,0,0,0)
theorem mh (k:Nat) (v0 v1 v2:Int):xC (k+1) none 104 [.lit (.int .i64 v0),.lit (.int .i64 v1),.lit (.int .u64 v2)]=ob (aJ v0 v1 v2) fun r=>some ((.agg [.lit (.int .i64 r.1),.lit (.int .i64 r.2.1),.lit (.int .i64 r.2.2.1),.lit (.int .u64 r.2.2.2.1),.lit (.int .u64 r.2.2.2.2.1),.lit (.int .u64 r.2.2.2.2.2.1),.lit (.int .i64 r.2.2.2.2.2.2)]),[]):=by
 rw [aH]
 unfold aJ
 simp -implicitDefEqProofs only [aef,Za,↓syP,syA,syD,simprocAttr,syE,ah,ag,ae,syW,xQ]
def aK (v0:(Int×Int×Int×Int×Int×Int×Int)):Option Bool:=
 some (v0.2.2.2.2.2.2 !=0)
theorem eZ (k:Nat) (v0_0 v0_1 v0_2 v0_3 v0_4 v0_5 v0_6:Int):xC (k+1) none 110 [.agg [.lit (.int .i64 v0_0),.lit (.int .i64 v0_1),.lit (.int .i64 v0_2),.lit (.int .u64 v0_3),.lit (.int .u64 v0_4),.lit (.int .u64 v0_5),.lit (.int .i64 v0_6)]]=ob (aK (v0_0,v0_1,v0_2,v0_3,v0_4,v0_5,v0_6)) fun r=>some ((.lit (.bool r)),[]):=by
 rw [aH]
 unfold aK
 simp -implicitDefEqProofs only [afe,aaY,↓syP,syA,syD,simprocAttr,syE,ah,ag,ae,syW,xQ]
def a7 (v0:(Int×Int×Int×Int×Int×Int×Int)) (v1:Int) (v2:Int):Option (Int×Int×Int×Int×Int×Int×Int):=
 some (v0.1,0,v0.2.2.1,v2,0,0,v1)
theorem f5 (k:Nat) (v0_0 v0_1 v0_2 v0_3 v0_4 v0_5 v0_6 v1 v2:Int):xC (k+1) none 193 [.agg [.lit (.int .i64 v0_0),.lit (.int .i64 v0_1),.lit (.int .i64 v0_2),.lit (.int .u64 v0_3),.lit (.int .u64 v0_4),.lit (.int .u64 v0_5),.lit (.int .i64 v0_6)],.lit (.int .i64 v1),.lit (.int .u64 v2)]=ob (a7 (v0_0,v0_1,v0_2,v0_3,v0_4,v0_5,v0_6) v1 v2) fun r=>some ((.agg [.lit (.int .i64 r.1),.lit (.int .i64 r.2.1),.lit (.int .i64 r.2.2.1),.lit (.int .u64 r.2.2.2.1),.lit (.int .u64 r.2.2.2.2.1),.lit (.int .u64 r.2.2.2.2.2.1),.lit (.int .i64 r.2.2.2.2.2.2)]),[]):=by
 rw [aH]
 unfold a7
 simp -implicitDefEqProofs only [aew,acj,↓syP,syA,syD,simprocAttr,syE,ah,ag,ae,syW,xQ]
def lQ (v0:Int) (v1:Int):Option Int:=
 bif decide (v1<0) then
 some v0
 else
 bif decide (16≤v1) then
 some v0
 else
 bif decide (0≤v1) then
 some (orI IntKind.u64 v0 (P6 IntKind.u64 1 v1))
 else
 none
theorem KR (k:Nat) (v0 v1:Int):xC (k+1) none 214 [.lit (.int .u64 v0),.lit (.int .i64 v1)]=ob (lQ v0 v1) fun r=>some ((.lit (.int .u64 r)),[]):=by
 rw [aH]
 unfold lQ
 simp -implicitDefEqProofs only [agS,Yt,N7,wx,↓syP,syA,syD,simprocAttr,syE,ah,ag,ae,syW,xQ]
def d8 (v0:Int):Option Int:=
 some (Tv IntKind.u64 v0 16)
theorem nc (k:Nat) (v0:Int):xC (k+1) none 213 [.lit (.int .u64 v0)]=ob (d8 v0) fun r=>some ((.lit (.int .u64 r)),[]):=by
 rw [aH]
 unfold d8
 simp -implicitDefEqProofs only [agl,aa3,↓syP,syA,syD,simprocAttr,syE,ah,ag,ae,syW,xQ]
def fB (v0:(Int×Int×Int×Int)) (v1:Int):Option Int:=
 ob (bU v0) fun x80=>
 bif !x80 then
 some ((-1))
 else
 ob (eF v1 0 (IntKind.i64.wrap (v0.1 - 1))) fun x81=>
 bif !x81 then
 some ((-1))
 else
 ob (fx v0 v1) fun x82=>
 some (IntKind.i64.wrap (x82+2))
theorem rC (k:Nat) (v0_0 v0_1 v0_2 v0_3 v1:Int):xC (k+12) none 32 [.agg [.lit (.int .i64 v0_0),.lit (.int .i64 v0_1),.lit (.int .i64 v0_2),.lit (.int .i64 v0_3)],.lit (.int .i64 v1)]=ob (fB (v0_0,v0_1,v0_2,v0_3) v1) fun r=>some ((.lit (.int .i64 r)),[]):=by
 rw [aH]
 unfold fB
 simp -implicitDefEqProofs only [aiC,ahe,Yg,XM,Ae,gM,aiD,ahH,↓syP,syA,syD,simprocAttr,syE,ah,ag,ae,syW,xQ,mD,bT,lU]
def dp (v0:Int):Option Int:=
 some (uM IntKind.u64 v0 65535)
theorem nX (k:Nat) (v0:Int):xC (k+1) none 192 [.lit (.int .u64 v0)]=ob (dp v0) fun r=>some ((.lit (.int .u64 r)),[]):=by
 rw [aH]
 unfold dp
 simp -implicitDefEqProofs only [ag0,Z6,↓syP,syA,syD,simprocAttr,syE,ah,ag,ae,syW,xQ]
def gp (v0:(Int×Int×Int×Int)) (v1:Int):Option Int:=
 ob (bU v0) fun x89=>
 bif !x89 then
 some ((-1))
 else
 ob (eF v1 0 (IntKind.i64.wrap (v0.1 - 1))) fun x90=>
 bif !x90 then
 some ((-1))
 else
 ob (fx v0 v1) fun x91=>
 some x91
theorem kw (k:Nat) (v0_0 v0_1 v0_2 v0_3 v1:Int):xC (k+12) none 107 [.agg [.lit (.int .i64 v0_0),.lit (.int .i64 v0_1),.lit (.int .i64 v0_2),.lit (.int .i64 v0_3)],.lit (.int .i64 v1)]=ob (gp (v0_0,v0_1,v0_2,v0_3) v1) fun r=>some ((.lit (.int .i64 r)),[]):=by
 rw [aH]
 unfold gp
 simp -implicitDefEqProofs only [Yg,XM,Ae,gM,ael,acy,aeI,Z7,↓syP,syA,syD,simprocAttr,syE,ah,ag,ae,syW,xQ,mD,bT,lU]
def dc (v0:(Int×Int×Int×Int)) (v1:Int):Option Int:=
 ob (bU v0) fun x98=>
 bif !x98 then
 some ((-1))
 else
 ob (eF v1 0 (IntKind.i64.wrap (v0.1 - 1))) fun x99=>
 bif !x99 then
 some ((-1))
 else
 ob (fx v0 v1) fun x100=>
 some (IntKind.i64.wrap (x100+1))
theorem eS (k:Nat) (v0_0 v0_1 v0_2 v0_3 v1:Int):xC (k+12) none 108 [.agg [.lit (.int .i64 v0_0),.lit (.int .i64 v0_1),.lit (.int .i64 v0_2),.lit (.int .i64 v0_3)],.lit (.int .i64 v1)]=ob (dc (v0_0,v0_1,v0_2,v0_3) v1) fun r=>some ((.lit (.int .i64 r)),[]):=by
 rw [aH]
 unfold dc
 simp -implicitDefEqProofs only [Yg,XM,Ae,gM,afU,YZ,aed,acM,↓syP,syA,syD,simprocAttr,syE,ah,ag,ae,syW,xQ,mD,bT,lU]
def fy (v0:(Int×Int×Int×Int)) (v1:Int) (v2:Int):Option Int:=
 ob (bU v0) fun x107=>
 bif !x107 then
 some ((-1))
 else
 ob (eF v1 0 (IntKind.i64.wrap (v0.1 - 1))) fun x108=>
 bif !x108 then
 some ((-1))
 else
 ob (fx v0 v1) fun xL=>
 some (IntKind.i64.wrap (IntKind.i64.wrap (xL+3)+IntKind.i64.wrap (uM IntKind.u64 v2 (IntKind.u64.wrap (IntKind.i64.wrap (v0.2.1 - 1))))))
theorem nz (k:Nat) (v0_0 v0_1 v0_2 v0_3 v1 v2:Int):xC (k+12) none 109 [.agg [.lit (.int .i64 v0_0),.lit (.int .i64 v0_1),.lit (.int .i64 v0_2),.lit (.int .i64 v0_3)],.lit (.int .i64 v1),.lit (.int .u64 v2)]=ob (fy (v0_0,v0_1,v0_2,v0_3) v1 v2) fun r=>some ((.lit (.int .i64 r)),[]):=by
 rw [aH]
 unfold fy
 simp -implicitDefEqProofs only [Yg,XM,Ae,gM,agp,Zn,aeX,abg,↓syP,syA,syD,simprocAttr,syE,ah,ag,ae,syW,xQ,mD,bT,lU]
def dS (v0:Int) (v1:Int):Option Int:=
 some (IntKind.i64.wrap (IntKind.u64.wrap (v0 - v1)))
theorem f7 (k:Nat) (v0 v1:Int):xC (k+1) none 106 [.lit (.int .u64 v0),.lit (.int .u64 v1)]=ob (dS v0 v1) fun r=>some ((.lit (.int .i64 r)),[]):=by
 rw [aH]
 unfold dS
 simp -implicitDefEqProofs only [aha,YE,↓syP,syA,syD,simprocAttr,syE,ah,ag,ae,syW,xQ]
def eR (k:Nat) (v0:(Int×Int×Int×Int))  : Nat→Int→List Int→Int→Nat→Option (List Int)
 | 0,_,_,_,_=>none
 | n+1,sE,sK,sS,sC=>
 bif decide (sS<sE) then
 ck (sC==1||sC==0) (
 bif room (sK++[(0:Int)]).length 8 then
 eR k v0  n (sE) (sK++[(0:Int)]) (IntKind.i64.wrap (sS+(1:Int))) (1)
 else
 none)
 else
 some (sK)
theorem na (k:Nat) (v0_0 v0_1 v0_2 v0_3:Int):∀ (n:Nat) (sE:Int) (sK:List Int) (sS:Int) (sC:Nat) ⦃sA:Nat⦄,rt none (itX (xX (xS (k+3)) 59 0 (k+3) false) Jg (3) (aw (xX (xS (k+3)) 59 0 (k+3) false) (av (xS (k+3)).P Tryz.f59) IA) n ⟨[.agg [.lit (.int .i64 v0_0),.lit (.int .i64 v0_1),.lit (.int .i64 v0_2),.lit (.int .i64 v0_3)],.ptr 0 0 0 0,.own 1 0 0,.own 2 sA sK.length,.agg [.lit (.int .i64 v0_0),.lit (.int .i64 v0_1),.lit (.int .i64 v0_2),.lit (.int .i64 v0_3)],.lit (.int .i64 sE),.lit (.int .i64 sS),.junk,.junk,.junk,.junk,.junk,uu],[.box [.lit (.int .i64 v0_0),.lit (.int .i64 v0_1),.lit (.int .i64 v0_2),.lit (.int .i64 v0_3)],.rows 0 [] 0 true,.rows sC (List.map (aG IntKind.u64) sK) sA true]⟩)=ob (eR k (v0_0,v0_1,v0_2,v0_3)  n sE sK sS sC) fun r=>some ((.ro (List.map (aG .u64) r)),[]):=by
 intro n
 induction n with
 | zero=>intros;rfl
 | succ n ih=>
  intro sE sK sS sC sA
  rw [eR]
  simp -implicitDefEqProofs only [ahm,afZ,aex,Nn,rY,↓syP,syA,syD,simprocAttr,syE,ah,ag,ae,syW,xQ,fl,Tz,ih]
def ly (k:Nat) (v0:(Int×Int×Int×Int)):Option (List Int):=
 ob (dx v0) fun x123=>
 eR k v0 (k+3) x123 ([]) 0 0
theorem o6 (k:Nat) (v0_0 v0_1 v0_2 v0_3:Int):xC (k+4) none 59 [.agg [.lit (.int .i64 v0_0),.lit (.int .i64 v0_1),.lit (.int .i64 v0_2),.lit (.int .i64 v0_3)]]=ob (ly k (v0_0,v0_1,v0_2,v0_3)) fun r=>some ((.ro (List.map (aG .u64) r)),[]):=by
 rw [aH]
 unfold ly
 have hl0:=fun (x124:Int)=>na k v0_0 v0_1 v0_2 v0_3 (k+3) (x124) ([]) ((0:Int)) (0)
 try simp -implicitDefEqProofs only [List.map_nil,List.length_nil] at hl0
 simp -implicitDefEqProofs only [ahm,afZ,aex,Nn,rY,↓syP,syA,syD,simprocAttr,syE,ah,ag,ae,syW,xQ,fl,na k v0_0 v0_1 v0_2 v0_3,hl0]
def cG (v0:Int) (v1:Int):Option Bool:=
 bif decide (0≤v0) then
 some (decide (v0<v1))
 else
 some false
theorem ia (k:Nat) (v0 v1:Int):xC (k+1) none 81 [.lit (.int .i64 v0),.lit (.int .i64 v1)]=ob (cG v0 v1) fun r=>some ((.lit (.bool r)),[]):=by
 rw [aH]
 unfold cG
 simp -implicitDefEqProofs only [aiu,ahb,Ti,BZ,↓syP,syA,syD,simprocAttr,syE,ah,ag,ae,syW,xQ]
def fo (v0 : Int) (v1 : Int) (v2 : Int) : Option Int :=
 bif decide (v2 < 2) then
 some ((-1))
 else
 ob (cG v1 v2) fun x126 =>
 bif !x126 then
 some ((-1))
 else
 bif IntKind.u64.wrap (IntKind.u64.wrap v2 - 1) != 0 then
 bif IntKind.u64.wrap v2 != 0 then
 some (IntKind.i64.wrap ((IntKind.u64.wrap (IntKind.u64.wrap (IntKind.u64.wrap v1 + 1) + v0.tmod (IntKind.u64.wrap (IntKind.u64.wrap v2 - 1)))).tmod (IntKind.u64.wrap v2)))
 else
 none
 else
 none
theorem C6 (k:Nat) (v0 v1 v2:Int):xC (k+2) none 161 [.lit (.int .u64 v0),.lit (.int .i64 v1),.lit (.int .i64 v2)]=ob (fo v0 v1 v2) fun r=>some ((.lit (.int .i64 r)),[]):=by
 rw [aH]
 unfold fo
 simp -implicitDefEqProofs only [aey,aa0,Of,AB,↓syP,syA,syD,simprocAttr,syE,ah,ag,ae,syW,xQ,ia]
def eW (v0:(Int×Int×Int×Int)) (v1:(List Int)) (v2:(Int×Int×Int×Int×Int×Int×Int)) (v3:Int) (v4:Int):Option Bool:=
 ob (bU v0) fun x132=>
 bif x132 then
 ob (dx v0) fun x133=>
 bif (↑v1.length:Int)==x133 then
 ob (aK v2) fun x134=>
 bif !x134 then
 bif decide (0≤v2.2.2.1) then
 bif decide (v2.2.2.1<v0.1) then
 bif v2.1==v3 then
 bif decide (0≤v2.2.1) then
 some (decide (v2.2.1<v4))
 else
 some false
 else
 some false
 else
 some false
 else
 some false
 else
 some false
 else
 some false
 else
 some false
theorem ko (k:Nat) (v0_0 v0_1 v0_2 v0_3:Int) (v1:List Int) (v2_0 v2_1 v2_2 v2_3 v2_4 v2_5 v2_6 v3 v4:Int):xC (k+4) none 188 [.agg [.lit (.int .i64 v0_0),.lit (.int .i64 v0_1),.lit (.int .i64 v0_2),.lit (.int .i64 v0_3)],.ro (List.map (aG .u64) v1),.agg [.lit (.int .i64 v2_0),.lit (.int .i64 v2_1),.lit (.int .i64 v2_2),.lit (.int .u64 v2_3),.lit (.int .u64 v2_4),.lit (.int .u64 v2_5),.lit (.int .i64 v2_6)],.lit (.int .i64 v3),.lit (.int .i64 v4)]=ob (eW (v0_0,v0_1,v0_2,v0_3) v1 (v2_0,v2_1,v2_2,v2_3,v2_4,v2_5,v2_6) v3 v4) fun r=>some ((.lit (.bool r)),[]):=by
 rw [aH]
 unfold eW
 simp -implicitDefEqProofs only [afp,Zi,MV,La,LF,NA,Oi,Mb,NK,wX,↓syP,syA,syD,simprocAttr,syE,ah,ag,ae,syW,xQ,bT,fl,eZ]
def kg (v0 : (Int × Int × Int × Int)) (v1 : (List Int)) (v2 : (Int × Int × Int × Int × Int × Int × Int)) : Option ((List Int) × (Int × Int × Int × Int × Int × Int × Int)) :=
 ob (aO 8 v1) fun xO =>
 ob (eW v0 v1 v2 5 5) fun x153 =>
 bif x153 then
 bif decide (0 ≤ v2.2.1 ∧ v2.2.1.toNat < 5) then
 bif v2.2.1.toNat == 0 then
 ob (aE xO 2) fun xk =>
 some (xO,(v2.1,1,v2.2.2.1,v2.2.2.2.1,xk,v2.2.2.2.2.2))
 else
 bif v2.2.1.toNat == 1 then
 ob (aE xO 2) fun xv =>
 ob (d8 xv) fun xI =>
 ob (d8 v2.2.2.2.2.1) fun x157 =>
 bif xI != x157 then
 ob (a7 (v2.1,2,v2.2.2.1,v2.2.2.2.1,v2.2.2.2.2.1,xv,v2.2.2.2.2.2.2) 4 0) fun x158 =>
 some (xO,x158)
 else
 some (xO,(v2.1,2,v2.2.2.1,v2.2.2.2.1,v2.2.2.2.2.1,xv,v2.2.2.2.2.2.2))
 else
 bif v2.2.1.toNat == 2 then
 ob (lQ v2.2.2.2.2.2.1 v2.2.2.1) fun x159 =>
 ob (dw xO 2 v2.2.2.2.2.2.1 x159) fun xl =>
 bif xl.2 then
 some (xl.1,(v2.1,3,v2.2.2))
 else
 some (xl.1,(v2.1,1,v2.2.2))
 else
 bif v2.2.1.toNat == 3 then
 ob (fB v0 v2.2.2.1) fun x161 =>
 ob (aE xO x161) fun xa =>
 bif xa != 0 then
 some (xO,(v2.1,4,v2.2.2.1,v2.2.2.2.1,v2.2.2.2.2.1,xa,v2.2.2.2.2.2.2))
 else
 some (xO,(v2.1,v2.2.1,v2.2.2.1,v2.2.2.2.1,v2.2.2.2.2.1,xa,v2.2.2.2.2.2.2))
 else
 bif v2.2.1.toNat == 4 then
 ob (fB v0 v2.2.2.1) fun xJ =>
 ob (bo xO xJ 0) fun x164 =>
 ob (a7 v2 1 0) fun xK =>
 some (x164,xK)
 else
 none
 else
 none
 else
 some (xO,v2)
theorem Gf (k:Nat) (v0_0 v0_1 v0_2 v0_3:Int) (v1:List Int) (v2_0 v2_1 v2_2 v2_3 v2_4 v2_5 v2_6:Int):xC (k+14) none 165 [.agg [.lit (.int .i64 v0_0),.lit (.int .i64 v0_1),.lit (.int .i64 v0_2),.lit (.int .i64 v0_3)],.ro (List.map (aG .u64) v1),.agg [.lit (.int .i64 v2_0),.lit (.int .i64 v2_1),.lit (.int .i64 v2_2),.lit (.int .u64 v2_3),.lit (.int .u64 v2_4),.lit (.int .u64 v2_5),.lit (.int .i64 v2_6)]]=ob (kg (v0_0,v0_1,v0_2,v0_3) v1 (v2_0,v2_1,v2_2,v2_3,v2_4,v2_5,v2_6)) fun r=>some ((.tup [.ro (List.map (aG .u64) r.1),.agg [.lit (.int .i64 r.2.1),.lit (.int .i64 r.2.2.1),.lit (.int .i64 r.2.2.2.1),.lit (.int .u64 r.2.2.2.2.1),.lit (.int .u64 r.2.2.2.2.2.1),.lit (.int .u64 r.2.2.2.2.2.2.1),.lit (.int .i64 r.2.2.2.2.2.2.2)]]),[]):=by
 rw [aH]
 unfold kg
 simp -implicitDefEqProofs only [aeM,acN,NP,u5,afg,ab5,agm,acr,ag2,aaS,afd,YM,ae7,aco,↓syP,syA,syD,simprocAttr,syE,ah,ag,ae,syW,xQ,b9,dZ,iY,f5,KR,nc,rC,ko]
end Go.Ab
set_option maxRecDepth 100000
set_option linter.unusedVariables false
set_option linter.unusedSimpArgs false
namespace Go.Ab
open Go.Proofs
def ki (v0:(Int×Int×Int×Int)) (v1:(List Int)) (v2:(Int×Int×Int×Int×Int×Int×Int)):Option Bool:=
 bif v2.1==6 then
 ob (bU v0) fun x8=>
 bif x8 then
 ob (dx v0) fun x9=>
 bif (↑v1.length:Int)==x9 then
 ob (aK v2) fun x10=>
 bif !x10 then
 bif decide (0≤v2.2.1) then
 some (decide (v2.2.1≤2))
 else
 some false
 else
 some false
 else
 some false
 else
 some false
 else
 bif v2.1==7 then
 ob (bU v0) fun x11=>
 bif x11 then
 ob (dx v0) fun x12=>
 bif (↑v1.length:Int)==x12 then
 ob (aK v2) fun x13=>
 bif !x13 then
 bif decide (0≤v2.2.1) then
 some (decide (v2.2.1≤2))
 else
 some false
 else
 some false
 else
 some false
 else
 some false
 else
 some false
theorem Hl (k:Nat) (v0_0 v0_1 v0_2 v0_3:Int) (v1:List Int) (v2_0 v2_1 v2_2 v2_3 v2_4 v2_5 v2_6:Int):xC (k+15) none 189 [.agg [.lit (.int .i64 v0_0),.lit (.int .i64 v0_1),.lit (.int .i64 v0_2),.lit (.int .i64 v0_3)],.ro (List.map (aG .u64) v1),.agg [.lit (.int .i64 v2_0),.lit (.int .i64 v2_1),.lit (.int .i64 v2_2),.lit (.int .u64 v2_3),.lit (.int .u64 v2_4),.lit (.int .u64 v2_5),.lit (.int .i64 v2_6)]]=ob (ki (v0_0,v0_1,v0_2,v0_3) v1 (v2_0,v2_1,v2_2,v2_3,v2_4,v2_5,v2_6)) fun r=>some ((.lit (.bool r)),[]):=by
 rw [aH]
 unfold ki
 simp -implicitDefEqProofs only [afQ,ZA,Nq,LH,NS,LK,L1,Ap,acO,UY,aH (g:=190),X3,P1,Wa,QT,↓syP,syA,syD,simprocAttr,syE,ah,ag,ae,syW,xQ,bT,fl,eZ]
def gO (v0:Int) (v1:Int):Option Int:=
 some (orI IntKind.u64 (P6 IntKind.u64 v0 16) (uM IntKind.u64 v1 65535))
theorem w7 (k:Nat) (v0 v1:Int):xC (k+1) none 233 [.lit (.int .u64 v0),.lit (.int .u64 v1)]=ob (gO v0 v1) fun r=>some ((.lit (.int .u64 r)),[]):=by
 rw [aH]
 unfold gO
 simp -implicitDefEqProofs only [adK,Y9,↓syP,syA,syD,simprocAttr,syE,ah,ag,ae,syW,xQ]
def cO (k:Nat) (v0:Int)  : Nat→Int→Option Int
 | 0,_=>none
 | n+1,sQ=>
 bif decide (sQ<(16:Int)) then
 bif decide ((0:Int)≤sQ) then
 bif uM IntKind.u64 (Tv IntKind.u64 v0 sQ) (1:Int)==(1:Int) then
 some (sQ)
 else
 cO k v0  n (IntKind.i64.wrap (sQ+(1:Int)))
 else
 none
 else
 some ((-1:Int))
theorem oD (k:Nat) (v0:Int):∀ (n:Nat) (sQ:Int) ⦃j26:V⦄,rt none (bq (itX (xX (xS (k+9)) 234 0 (k+9) false) nq (3) (aw (xX (xS (k+9)) 234 0 (k+9) false) (av (xS (k+9)).P Tryz.f234) CS) n ⟨[.yld 2,.ptr 1 0 0 0,uu,j26,.lit (.int .i64 sQ),.junk,.junk,.junk,.junk,.junk,.junk,.junk,.junk,.junk,.junk,.junk,.junk,.junk,.junk],[.box [.lit (.int .i64 (0:Int))],.box [.lit (.int .u64 v0)],(.loop ⟨LoopState.ready,none,195,[.lit (.int .u64 v0),uu,.ptr 0 0 0 0,uu,.lit (.int .u64 v0),.fn (Fn.func (234:FuncId)) [] [.ptr 1 0 0 0],uu,uu],[(6:Tmp)],HE,Gn⟩)]⟩) (rfK (aw (xX (xS (k+10)) 195 0 (k+10) false) (av (xS (k+10)).P Tryz.f195) Db) [.lit (.int .u64 v0),uu,.ptr 0 0 0 0,uu,.lit (.int .u64 v0),.fn (Fn.func (234:FuncId)) [] [.ptr 1 0 0 0],uu,uu] (2)))=ob (cO k v0  n sQ) fun r=>some ((.lit (.int .i64 r)),[]):=by
 intro n
 induction n with
 | zero=>intros;rfl
 | succ n ih=>
  intro sQ j26
  rw [cO]
  simp -implicitDefEqProofs only [acf,VI,Ux,Hj,ky,kA,oF,BN,aaV,Vd,aH (g:=220),ab4,XA,Xd,Gm,Gg,oC,oJ,↓syP,syA,syD,simprocAttr,syE,ah,ag,ae,syW,xQ,LN,ih]
def gl (k:Nat) (v0:Int):Option Int:=
 cO k v0 (k+9) 0
theorem pE (k:Nat) (v0:Int):xC (k+11) none 195 [.lit (.int .u64 v0)]=ob (gl k v0) fun r=>some ((.lit (.int .i64 r)),[]):=by
 rw [aH]
 unfold gl
 simp -implicitDefEqProofs only [acf,VI,Ux,Hj,ky,kA,oF,BN,aaV,Vd,aH (g:=220),ab4,XA,Xd,Gm,Gg,oC,oJ,↓syP,syA,syD,simprocAttr,syE,ah,ag,ae,syW,xQ,oD k v0]
def i6 (k:Nat) (v0:Int):Option (Int×Int):=
 ob (dp v0) fun xu=>
 ob (d8 v0) fun xq=>
 ob (gO (IntKind.u64.wrap (xq+1)) (uM IntKind.u64 xu (IntKind.u64.wrap (xu - 1)))) fun x34=>
 ob (gl k xu) fun x35=>
 some (x34,x35)
theorem GE (k:Nat) (v0:Int):xC (k+12) none 216 [.lit (.int .u64 v0)]=ob (i6 k v0) fun r=>some ((.tup [.lit (.int .u64 r.1),.lit (.int .i64 r.2)]),[]):=by
 rw [aH]
 unfold i6
 simp -implicitDefEqProofs only [afB,abc,↓syP,syA,syD,simprocAttr,syE,ah,ag,ae,syW,xQ,nc,nX,w7,pE]
def fM (k:Nat) (v0:Int):Option (Int×Int):=
 ob (i6 k v0) fun xe=>
 some (xe.1,(IntKind.u64.wrap (bif decide (xe.2<0) then 0 else xe.2)))
theorem Ba (k:Nat) (v0:Int):xC (k+13) none 215 [.lit (.int .u64 v0)]=ob (fM k v0) fun r=>some ((.tup [.lit (.int .u64 r.1),.lit (.int .u64 r.2)]),[]):=by
 rw [aH]
 unfold fM
 simp -implicitDefEqProofs only [X3,P1,↓syP,syA,syD,simprocAttr,syE,ah,ag,ae,syW,xQ,GE]
def i9 (v0:Int):Option Int:=
 ob (d8 v0) fun xi=>
 ob (gO (IntKind.u64.wrap (xi+1)) 0) fun xr=>
 some xr
theorem Gp (k:Nat) (v0:Int):xC (k+2) none 218 [.lit (.int .u64 v0)]=ob (i9 v0) fun r=>some ((.lit (.int .u64 r)),[]):=by
 rw [aH]
 unfold i9
 simp -implicitDefEqProofs only [afu,aav,↓syP,syA,syD,simprocAttr,syE,ah,ag,ae,syW,xQ,nc,w7]
def fK (v0:Int):Option (Int×Int):=
 ob (i9 v0) fun x51=>
 ob (dp v0) fun x52=>
 some (x51,x52)
theorem Bd (k:Nat) (v0:Int):xC (k+3) none 217 [.lit (.int .u64 v0)]=ob (fK v0) fun r=>some ((.tup [.lit (.int .u64 r.1),.lit (.int .u64 r.2)]),[]):=by
 rw [aH]
 unfold fK
 simp -implicitDefEqProofs only [Wa,QT,↓syP,syA,syD,simprocAttr,syE,ah,ag,ae,syW,xQ,nX,Gp]
def eE (k:Nat) (v0:(Int×Int×Int×Int)) (v1:(List Int)) (v2:(List Int))  : Nat→List Int→Int→Option (List Int)
 | 0,_,_=>none
 | n+1,sZ,sX=>
 bif decide (sX<(↑v2.length:Int)) then
 ob (idx v2 sX) fun x68=>
 ob (fB (v0.1,v0.2.1,v0.2.2.1,v0.2.2.2) x68) fun x69=>
 ob (bo sZ x69 (1:Int)) fun x70=>
 eE k v0 v1 v2  n (x70) (IntKind.i64.wrap (sX+(1:Int)))
 else
 some (sZ)
theorem rx (k:Nat) (v0_0 v0_1 v0_2 v0_3:Int) (v1 v2:List Int):∀ (n:Nat) (sZ:List Int) (sX:Int) ⦃j60:V⦄,rt none (itX (xX (xS (k+12)) 194 0 (k+12) false) Dw (2) (aw (xX (xS (k+12)) 194 0 (k+12) false) (av (xS (k+12)).P Tryz.f194) CY) n ⟨[.agg [.lit (.int .i64 v0_0),.lit (.int .i64 v0_1),.lit (.int .i64 v0_2),.lit (.int .i64 v0_3)],.ro (List.map (aG IntKind.u64) sZ),.ro (List.map (aG IntKind.i64) v2),.ptr 0 0 0 0,uu,uu,.own 1 0 0,uu,j60,.ro (List.map (aG IntKind.i64) v2),.lit (.int .i64 (↑v2.length:Int)),.lit (.int .i64 sX),.junk,.junk,.junk,.junk,.junk,.junk,.junk,.junk,.junk,uu],[.box [.lit (.int .i64 v0_0),.lit (.int .i64 v0_1),.lit (.int .i64 v0_2),.lit (.int .i64 v0_3)],.rows 0 [] 0 true]⟩)=ob (eE k (v0_0,v0_1,v0_2,v0_3) v1 v2  n sZ sX) fun r=>some ((.ro (List.map (aG .u64) r)),[]):=by
 intro n
 induction n with
 | zero=>intros;rfl
 | succ n ih=>
  intro sZ sX j60
  rw [eE]
  simp -implicitDefEqProofs only [ZO,UB,U9,GK,od,↓syP,syA,syD,simprocAttr,syE,ah,ag,ae,syW,xQ,dZ,rC,Lx,ih]
def fV (k:Nat) (v0:(Int×Int×Int×Int)) (v1:(List Int)) (v2:(List Int)):Option (List Int):=
 eE k v0 v1 v2 (k+12) v1 0
theorem Hm (k:Nat) (v0_0 v0_1 v0_2 v0_3:Int) (v1 v2:List Int):xC (k+13) none 194 [.agg [.lit (.int .i64 v0_0),.lit (.int .i64 v0_1),.lit (.int .i64 v0_2),.lit (.int .i64 v0_3)],.ro (List.map (aG .u64) v1),.ro (List.map (aG .i64) v2)]=ob (fV k (v0_0,v0_1,v0_2,v0_3) v1 v2) fun r=>some ((.ro (List.map (aG .u64) r)),[]):=by
 rw [aH]
 unfold fV
 simp -implicitDefEqProofs only [ZO,UB,U9,GK,od,↓syP,syA,syD,simprocAttr,syE,ah,ag,ae,syW,xQ,rx k v0_0 v0_1 v0_2 v0_3 v1 v2]
def gJ (k:Nat) (v0:(Int×Int×Int×Int)) (v1:(List Int)) (v2:(Int×Int×Int×Int×Int×Int×Int)):Option ((List Int)×(Int×Int×Int×Int×Int×Int×Int)):=
 ob (aO 8 v1) fun xs=>
 ob (ki v0 v1 v2) fun x94=>
 bif !x94 then
 some (xs,v2)
 else
 bif v2.2.1==0 then
 ob (aE xs 2) fun x95=>
 some (xs,(v2.1,1,v2.2.2.1,v2.2.2.2.1,x95,v2.2.2.2.2.2))
 else
 bif v2.2.1==1 then
 bif v2.1==6 then
 ob (fM (k+2) v2.2.2.2.2.1) fun x96=>
 ob (dw xs 2 v2.2.2.2.2.1 x96.1) fun x97=>
 bif !x97.2 then
 some (x97.1,(v2.1,0,v2.2.2))
 else
 ob (dp v2.2.2.2.2.1) fun x98=>
 bif x98==0 then
 ob (a7 (v2.1,0,v2.2.2) 3 0) fun x99=>
 some (x97.1,x99)
 else
 some (x97.1,(v2.1,2,v2.2.2.1,v2.2.2.2.1,v2.2.2.2.2.1,x96.2,v2.2.2.2.2.2.2))
 else
 bif v2.1==7 then
 ob (fK v2.2.2.2.2.1) fun x100=>
 ob (dw xs 2 v2.2.2.2.2.1 x100.1) fun x101=>
 bif !x101.2 then
 some (x101.1,(v2.1,0,v2.2.2))
 else
 ob (dp v2.2.2.2.2.1) fun x102=>
 bif x102==0 then
 ob (a7 (v2.1,0,v2.2.2) 3 0) fun x103=>
 some (x101.1,x103)
 else
 some (x101.1,(v2.1,2,v2.2.2.1,v2.2.2.2.1,v2.2.2.2.2.1,x100.2,v2.2.2.2.2.2.2))
 else
 none
 else
 bif v2.1==6 then
 bif decide (v2.2.2.2.2.2.1<8) then
 ob (fV (k+2) v0 xs [IntKind.i64.wrap v2.2.2.2.2.2.1]) fun x104=>
 ob (a7 v2 1 v2.2.2.2.2.2.1) fun x105=>
 some (x104,x105)
 else
 ob (fV (k+2) v0 xs [(-1)]) fun x106=>
 ob (a7 v2 1 v2.2.2.2.2.2.1) fun x107=>
 some (x106,x107)
 else
 ob (gl (k+4) v2.2.2.2.2.2.1) fun x108=>
 ob (fV (k+2) v0 xs [x108]) fun xL=>
 ob (dp v2.2.2.2.2.2.1) fun xb=>
 bif uM IntKind.u64 xb (IntKind.u64.wrap (xb - 1))==0 then
 ob (dp v2.2.2.2.2.1) fun x111=>
 ob (a7 (v2.1,v2.2.1,v2.2.2.1,v2.2.2.2.1,v2.2.2.2.2.1,xb,v2.2.2.2.2.2.2) 1 x111) fun x112=>
 some (xL,x112)
 else
 bif xb==0 then
 ob (dp v2.2.2.2.2.1) fun xp=>
 ob (a7 (v2.1,v2.2.1,v2.2.2.1,v2.2.2.2.1,v2.2.2.2.2.1,xb,v2.2.2.2.2.2.2) 1 xp) fun x114=>
 some (xL,x114)
 else
 some (xL,(v2.1,v2.2.1,v2.2.2.1,v2.2.2.2.1,v2.2.2.2.2.1,(uM IntKind.u64 xb (IntKind.u64.wrap (xb - 1))),v2.2.2.2.2.2.2))
theorem HI (k:Nat) (v0_0 v0_1 v0_2 v0_3:Int) (v1:List Int) (v2_0 v2_1 v2_2 v2_3 v2_4 v2_5 v2_6:Int):xC (k+16) none 166 [.agg [.lit (.int .i64 v0_0),.lit (.int .i64 v0_1),.lit (.int .i64 v0_2),.lit (.int .i64 v0_3)],.ro (List.map (aG .u64) v1),.agg [.lit (.int .i64 v2_0),.lit (.int .i64 v2_1),.lit (.int .i64 v2_2),.lit (.int .u64 v2_3),.lit (.int .u64 v2_4),.lit (.int .u64 v2_5),.lit (.int .i64 v2_6)]]=ob (gJ k (v0_0,v0_1,v0_2,v0_3) v1 (v2_0,v2_1,v2_2,v2_3,v2_4,v2_5,v2_6)) fun r=>some ((.tup [.ro (List.map (aG .u64) r.1),.agg [.lit (.int .i64 r.2.1),.lit (.int .i64 r.2.2.1),.lit (.int .i64 r.2.2.2.1),.lit (.int .u64 r.2.2.2.2.1),.lit (.int .u64 r.2.2.2.2.2.1),.lit (.int .u64 r.2.2.2.2.2.2.1),.lit (.int .i64 r.2.2.2.2.2.2.2)]]),[]):=by
 rw [aH]
 unfold gJ
 simp -implicitDefEqProofs only [adq,YV,Nr,Lc,Na,Af,AZ,AJ,acO,UY,aH (g:=190),X3,P1,Wa,QT,↓syP,syA,syD,simprocAttr,syE,ah,ag,ae,syW,xQ,b9,iY,f5,nX,Hl,pE,Ba,Bd,Hm]
end Go.Ab
set_option maxRecDepth 100000
set_option linter.unusedVariables false
set_option linter.unusedSimpArgs false
namespace Go.Ab
open Go.Proofs
def kC (v0:(Int×Int×Int×Int)) (v1:(List Int)) (v2:(Int×Int×Int×Int×Int×Int×Int)):Option ((List Int)×(Int×Int×Int×Int×Int×Int×Int)):=
 ob (aO 8 v1) fun xt=>
 ob (eW v0 v1 v2 0 4) fun x15=>
 bif x15 then
 bif v2.2.1==0 then
 ob (dc v0 v2.2.2.1) fun x16=>
 ob (aE xt x16) fun xz=>
 some (xt,(v2.1,1,v2.2.2.1,v2.2.2.2.1,xz,v2.2.2.2.2.2))
 else
 bif v2.2.1==1 then
 ob (gp v0 v2.2.2.1) fun x18=>
 ob (aE xt x18) fun x19=>
 bif decide (IntKind.u64.wrap v0.2.1≤IntKind.u64.wrap (v2.2.2.2.2.1 - x19)) then
 ob (a7 (v2.1,2,v2.2.2.1,v2.2.2.2.1,v2.2.2.2.2.1,x19,v2.2.2.2.2.2.2) 2 v2.2.2.2.1) fun x20=>
 some (xt,x20)
 else
 some (xt,(v2.1,2,v2.2.2.1,v2.2.2.2.1,v2.2.2.2.2.1,x19,v2.2.2.2.2.2.2))
 else
 bif v2.2.1==2 then
 ob (fy v0 v2.2.2.1 v2.2.2.2.2.1) fun x21=>
 ob (bo xt x21 v2.2.2.2.1) fun x22=>
 some (x22,(v2.1,3,v2.2.2))
 else
 bif v2.2.1==3 then
 ob (dc v0 v2.2.2.1) fun x23=>
 ob (bo xt x23 (IntKind.u64.wrap (v2.2.2.2.2.1+1))) fun x24=>
 ob (a7 v2 1 v2.2.2.2.1) fun x25=>
 some (x24,x25)
 else
 none
 else
 some (xt,v2)
theorem Gq (k:Nat) (v0_0 v0_1 v0_2 v0_3:Int) (v1:List Int) (v2_0 v2_1 v2_2 v2_3 v2_4 v2_5 v2_6:Int):xC (k+24) none 207 [.agg [.lit (.int .i64 v0_0),.lit (.int .i64 v0_1),.lit (.int .i64 v0_2),.lit (.int .i64 v0_3)],.ro (List.map (aG .u64) v1),.agg [.lit (.int .i64 v2_0),.lit (.int .i64 v2_1),.lit (.int .i64 v2_2),.lit (.int .u64 v2_3),.lit (.int .u64 v2_4),.lit (.int .u64 v2_5),.lit (.int .i64 v2_6)]]=ob (kC (v0_0,v0_1,v0_2,v0_3) v1 (v2_0,v2_1,v2_2,v2_3,v2_4,v2_5,v2_6)) fun r=>some ((.tup [.ro (List.map (aG .u64) r.1),.agg [.lit (.int .i64 r.2.1),.lit (.int .i64 r.2.2.1),.lit (.int .i64 r.2.2.2.1),.lit (.int .u64 r.2.2.2.2.1),.lit (.int .u64 r.2.2.2.2.2.1),.lit (.int .u64 r.2.2.2.2.2.2.1),.lit (.int .i64 r.2.2.2.2.2.2.2)]]),[]):=by
 rw [aH]
 unfold kC
 simp -implicitDefEqProofs only [aeh,aaj,ND,AM,aeZ,Zt,ags,abB,ad5,ZP,aev,Y1,↓syP,syA,syD,simprocAttr,syE,ah,ag,ae,syW,xQ,b9,dZ,f5,kw,eS,nz,ko]
def lD (v0:(Int×Int×Int×Int)) (v1:(List Int)) (v2:(Int×Int×Int×Int×Int×Int×Int)):Option ((List Int)×(Int×Int×Int×Int×Int×Int×Int)):=
 ob (aO 8 v1) fun xV=>
 ob (eW v0 v1 v2 1 7) fun x55=>
 bif !x55 then
 some (xV,v2)
 else
 ob (gp v0 v2.2.2.1) fun x56=>
 ob (dc v0 v2.2.2.1) fun xo=>
 bif v2.2.1==0 then
 ob (aE xV xo) fun x58=>
 some (xV,(v2.1,(IntKind.i64.wrap (v2.2.1+1)),v2.2.2.1,v2.2.2.2.1,(IntKind.u64.wrap (x58 - 1)),v2.2.2.2.2.2))
 else
 bif v2.2.1==1 then
 ob (bo xV xo v2.2.2.2.2.1) fun xU=>
 some (xU,(v2.1,(IntKind.i64.wrap (v2.2.1+1)),v2.2.2))
 else
 bif v2.2.1==2 then
 ob (aE xV x56) fun xw=>
 ob (dS v2.2.2.2.2.1 xw) fun xj=>
 bif decide (xj<0) then
 some (xV,(v2.1,6,v2.2.2.1,v2.2.2.2.1,v2.2.2.2.2.1,xw,v2.2.2.2.2.2.2))
 else
 some (xV,(v2.1,(IntKind.i64.wrap (v2.2.1+1)),v2.2.2.1,v2.2.2.2.1,v2.2.2.2.2.1,xw,v2.2.2.2.2.2.2))
 else
 bif v2.2.1==3 then
 ob (fy v0 v2.2.2.1 v2.2.2.2.2.1) fun xP=>
 ob (aE xV xP) fun xN=>
 bif v2.2.2.2.2.1 !=v2.2.2.2.2.2.1 then
 ob (a7 (v2.1,v2.2.1,v2.2.2.1,xN,v2.2.2.2.2) 1 xN) fun x64=>
 some (xV,x64)
 else
 some (xV,(v2.1,(IntKind.i64.wrap (v2.2.1+1)),v2.2.2.1,xN,v2.2.2.2.2))
 else
 bif v2.2.1==4 then
 ob (dw xV x56 v2.2.2.2.2.2.1 (IntKind.u64.wrap (v2.2.2.2.2.2.1+1))) fun xc=>
 bif !xc.2 then
 some (xc.1,(v2.1,6,v2.2.2))
 else
 some (xc.1,(v2.1,(IntKind.i64.wrap (v2.2.1+1)),v2.2.2))
 else
 bif v2.2.1==5 then
 ob (bo xV xo (IntKind.u64.wrap (v2.2.2.2.2.1+1))) fun x66=>
 ob (a7 v2 1 v2.2.2.2.1) fun x67=>
 some (x66,x67)
 else
 ob (bo xV xo (IntKind.u64.wrap (v2.2.2.2.2.1+1))) fun x68=>
 ob (a7 v2 3 0) fun x69=>
 some (x68,x69)
theorem J5 (k:Nat) (v0_0 v0_1 v0_2 v0_3:Int) (v1:List Int) (v2_0 v2_1 v2_2 v2_3 v2_4 v2_5 v2_6:Int):xC (k+24) none 208 [.agg [.lit (.int .i64 v0_0),.lit (.int .i64 v0_1),.lit (.int .i64 v0_2),.lit (.int .i64 v0_3)],.ro (List.map (aG .u64) v1),.agg [.lit (.int .i64 v2_0),.lit (.int .i64 v2_1),.lit (.int .i64 v2_2),.lit (.int .u64 v2_3),.lit (.int .u64 v2_4),.lit (.int .u64 v2_5),.lit (.int .i64 v2_6)]]=ob (lD (v0_0,v0_1,v0_2,v0_3) v1 (v2_0,v2_1,v2_2,v2_3,v2_4,v2_5,v2_6)) fun r=>some ((.tup [.ro (List.map (aG .u64) r.1),.agg [.lit (.int .i64 r.2.1),.lit (.int .i64 r.2.2.1),.lit (.int .i64 r.2.2.2.1),.lit (.int .u64 r.2.2.2.2.1),.lit (.int .u64 r.2.2.2.2.2.1),.lit (.int .u64 r.2.2.2.2.2.2.1),.lit (.int .i64 r.2.2.2.2.2.2.2)]]),[]):=by
 rw [aH]
 unfold lD
 simp -implicitDefEqProofs only [ad2,YG,afw,YP,↓syP,syA,syD,simprocAttr,syE,ah,ag,ae,syW,xQ,b9,dZ,iY,f5,kw,eS,nz,f7,ko]
def au (k : Nat) (v0 : (Int × Int × Int × Int)) (v1 : (List Int)) (v2 : (Int × Int × Int × Int × Int × Int × Int))  : Nat → List Int → Int → Int → Int → Option ((List Int) × (Int × Int × Int × Int × Int × Int × Int))
 | 0,_,_,_,_ => none
 | n + 1,sB,sL,sN,sA =>
 bif decide (sA < (4 : Int)) then
 bif decide ((0 : Int) ≤ sA ∧ sA.toNat < (4 : Nat)) then
 bif sA.toNat == (0 : Nat) then
 bif sA != v2.2.1 then
 au k v0 v1 v2  n (sB) (sL) (sN) (IntKind.i64.wrap (sA + (1 : Int)))
 else
 ob (aE sB sL) fun xO =>
 ob (aK (v2.1,v2.2.1,v2.2.2.1,v2.2.2.2.1,v2.2.2.2.2.1,xO,v2.2.2.2.2.2.2)) fun x153 =>
 bif !x153 then
 some ((sB),((v2.1),(IntKind.i64.wrap (v2.2.1 + (1 : Int))),(v2.2.2.1),(v2.2.2.2.1),(v2.2.2.2.2.1),(xO),(v2.2.2.2.2.2.2)))
 else
 some ((sB),((v2.1),(v2.2.1),(v2.2.2.1),(v2.2.2.2.1),(v2.2.2.2.2.1),(xO),(v2.2.2.2.2.2.2)))
 else
 bif sA.toNat == (1 : Nat) then
 bif sA != v2.2.1 then
 au k v0 v1 v2  n (sB) (sL) (sN) (IntKind.i64.wrap (sA + (1 : Int)))
 else
 ob (aE sB sN) fun xk =>
 ob (dS xk v2.2.2.2.2.2.1) fun xv =>
 bif decide (xv ≤ (0 : Int)) then
 ob (a7 (v2.1,v2.2.1,v2.2.2.1,v2.2.2.2.1,xk,v2.2.2.2.2.2.1,v2.2.2.2.2.2.2) (3 : Int) (0 : Int)) fun xI =>
 ob (aK (xI.1,xI.2.1,xI.2.2.1,xI.2.2.2.1,xI.2.2.2.2.1,xI.2.2.2.2.2.1,xI.2.2.2.2.2.2)) fun x157 =>
 bif !x157 then
 some ((sB),((xI.1),(IntKind.i64.wrap (xI.2.1 + (1 : Int))),(xI.2.2.1),(xI.2.2.2.1),(xI.2.2.2.2.1),(xI.2.2.2.2.2.1),(xI.2.2.2.2.2.2)))
 else
 some ((sB),((xI.1),(xI.2.1),(xI.2.2.1),(xI.2.2.2.1),(xI.2.2.2.2.1),(xI.2.2.2.2.2.1),(xI.2.2.2.2.2.2)))
 else
 ob (aK (v2.1,v2.2.1,v2.2.2.1,v2.2.2.2.1,xk,v2.2.2.2.2.2.1,v2.2.2.2.2.2.2)) fun x158 =>
 bif !x158 then
 some ((sB),((v2.1),(IntKind.i64.wrap (v2.2.1 + (1 : Int))),(v2.2.2.1),(v2.2.2.2.1),(xk),(v2.2.2.2.2.2.1),(v2.2.2.2.2.2.2)))
 else
 some ((sB),((v2.1),(v2.2.1),(v2.2.2.1),(v2.2.2.2.1),(xk),(v2.2.2.2.2.2.1),(v2.2.2.2.2.2.2)))
 else
 bif sA.toNat == (2 : Nat) then
 bif sA != v2.2.1 then
 au k v0 v1 v2  n (sB) (sL) (sN) (IntKind.i64.wrap (sA + (1 : Int)))
 else
 ob (fy (v0.1,v0.2.1,v0.2.2.1,v0.2.2.2) v2.2.2.1 v2.2.2.2.2.2.1) fun x159 =>
 ob (aE sB x159) fun xl =>
 ob (aK (v2.1,v2.2.1,v2.2.2.1,xl,v2.2.2.2.2.1,v2.2.2.2.2.2.1,v2.2.2.2.2.2.2)) fun x161 =>
 bif !x161 then
 some ((sB),((v2.1),(IntKind.i64.wrap (v2.2.1 + (1 : Int))),(v2.2.2.1),(xl),(v2.2.2.2.2.1),(v2.2.2.2.2.2.1),(v2.2.2.2.2.2.2)))
 else
 some ((sB),((v2.1),(v2.2.1),(v2.2.2.1),(xl),(v2.2.2.2.2.1),(v2.2.2.2.2.2.1),(v2.2.2.2.2.2.2)))
 else
 bif sA.toNat == (3 : Nat) then
 bif sA != v2.2.1 then
 au k v0 v1 v2  n (sB) (sL) (sN) (IntKind.i64.wrap (sA + (1 : Int)))
 else
 ob (dw sB sL v2.2.2.2.2.2.1 (IntKind.u64.wrap (v2.2.2.2.2.2.1 + (1 : Int)))) fun xa =>
 bif xa.2 then
 ob (a7 (v2.1,v2.2.1,v2.2.2.1,v2.2.2.2.1,v2.2.2.2.2.1,v2.2.2.2.2.2.1,v2.2.2.2.2.2.2) (1 : Int) v2.2.2.2.1) fun xJ =>
 ob (aK (xJ.1,xJ.2.1,xJ.2.2.1,xJ.2.2.2.1,xJ.2.2.2.2.1,xJ.2.2.2.2.2.1,xJ.2.2.2.2.2.2)) fun x164 =>
 bif !x164 then
 some ((xa.1),((xJ.1),(IntKind.i64.wrap (xJ.2.1 + (1 : Int))),(xJ.2.2.1),(xJ.2.2.2.1),(xJ.2.2.2.2.1),(xJ.2.2.2.2.2.1),(xJ.2.2.2.2.2.2)))
 else
 some ((xa.1),((xJ.1),(xJ.2.1),(xJ.2.2.1),(xJ.2.2.2.1),(xJ.2.2.2.2.1),(xJ.2.2.2.2.2.1),(xJ.2.2.2.2.2.2)))
 else
 ob (a7 (v2.1,v2.2.1,v2.2.2.1,v2.2.2.2.1,v2.2.2.2.2.1,v2.2.2.2.2.2.1,v2.2.2.2.2.2.2) (4 : Int) (0 : Int)) fun xK =>
 ob (aK (xK.1,xK.2.1,xK.2.2.1,xK.2.2.2.1,xK.2.2.2.2.1,xK.2.2.2.2.2.1,xK.2.2.2.2.2.2)) fun x166 =>
 bif !x166 then
 some ((xa.1),((xK.1),(IntKind.i64.wrap (xK.2.1 + (1 : Int))),(xK.2.2.1),(xK.2.2.2.1),(xK.2.2.2.2.1),(xK.2.2.2.2.2.1),(xK.2.2.2.2.2.2)))
 else
 some ((xa.1),((xK.1),(xK.2.1),(xK.2.2.1),(xK.2.2.2.1),(xK.2.2.2.2.1),(xK.2.2.2.2.2.1),(xK.2.2.2.2.2.2)))
 else
 none
 else
 none
 else
 some ((sB),((v2.1),(v2.2.1),(v2.2.2.1),(v2.2.2.2.1),(v2.2.2.2.2.1),(v2.2.2.2.2.2.1),(v2.2.2.2.2.2.2)))
theorem pV (k:Nat) (v0_0 v0_1 v0_2 v0_3:Int) (v1:List Int) (v2_0 v2_1 v2_2 v2_3 v2_4 v2_5 v2_6:Int):∀ (n:Nat) (sB:List Int) (sL sN sA:Int) ⦃sg sh:Bool⦄ ⦃j115 j116:V⦄,rt none (itX (xX (xS (k+23)) 209 0 (k+23) false) Cz (9) (aw (xX (xS (k+23)) 209 0 (k+23) false) (av (xS (k+23)).P Tryz.f209) DX) n ⟨[.agg [.lit (.int .i64 v0_0),.lit (.int .i64 v0_1),.lit (.int .i64 v0_2),.lit (.int .i64 v0_3)],.ro (List.map (aG IntKind.u64) v1),.agg [.lit (.int .i64 v2_0),.lit (.int .i64 v2_1),.lit (.int .i64 v2_2),.lit (.int .u64 v2_3),.lit (.int .u64 v2_4),.lit (.int .u64 v2_5),.lit (.int .i64 v2_6)],.ptr 0 0 0 0,uu,.ptr 1 0 0 0,.own 2 0 0,.ptr 3 0 0 0,.ptr 5 0 0 0,.ptr 6 0 0 0,.ptr 7 0 0 0,.own 8 0 4,j115,j116,.ro (List.map (aG IntKind.u64) v1),.ro (List.map (aG IntKind.u64) sB),.agg [.lit (.int .i64 v0_0),.lit (.int .i64 v0_1),.lit (.int .i64 v0_2),.lit (.int .i64 v0_3)],.ro (List.map (aG IntKind.u64) v1),.agg [.lit (.int .i64 v2_0),.lit (.int .i64 v2_1),.lit (.int .i64 v2_2),.lit (.int .u64 v2_3),.lit (.int .u64 v2_4),.lit (.int .u64 v2_5),.lit (.int .i64 v2_6)],.lit (.bool sg),.lit (.bool sh),uu,uu,.agg [.lit (.int .i64 v0_0),.lit (.int .i64 v0_1),.lit (.int .i64 v0_2),.lit (.int .i64 v0_3)],.ptr 1 0 0 2,.lit (.int .i64 v2_2),.lit (.int .i64 sL),.agg [.lit (.int .i64 v0_0),.lit (.int .i64 v0_1),.lit (.int .i64 v0_2),.lit (.int .i64 v0_3)],.ptr 1 0 0 2,.lit (.int .i64 v2_2),.lit (.int .i64 sN),.fn (Fn.func (229:FuncId)) [] [.ptr 5 0 0 0,.ptr 6 0 0 0,.ptr 1 0 0 0],.fn (Fn.func (230:FuncId)) [] [.ptr 5 0 0 0,.ptr 7 0 0 0,.ptr 1 0 0 0],.fn (Fn.func (231:FuncId)) [] [.ptr 5 0 0 0,.ptr 0 0 0 0,.ptr 1 0 0 0],.fn (Fn.func (232:FuncId)) [] [.ptr 5 0 0 0,.ptr 6 0 0 0,.ptr 1 0 0 0],.own 8 0 4,.own 8 0 4,.lit (.int .i64 (4:Int)),.lit (.int .i64 sA),.junk,.junk,.junk,.junk,.junk,.junk,.junk,.junk,.junk,.junk,.junk,.junk,.junk,.junk,.junk,.junk,.junk,.junk,uu,uu],[.box [.lit (.int .i64 v0_0),.lit (.int .i64 v0_1),.lit (.int .i64 v0_2),.lit (.int .i64 v0_3)],.box [.lit (.int .i64 v2_0),.lit (.int .i64 v2_1),.lit (.int .i64 v2_2),.lit (.int .u64 v2_3),.lit (.int .u64 v2_4),.lit (.int .u64 v2_5),.lit (.int .i64 v2_6)],.rows 0 [] 0 true,.box [.lit (.int .i64 (0:Int)),.lit (.int .i64 (0:Int)),.lit (.int .i64 (0:Int)),.lit (.int .u64 (0:Int)),.lit (.int .u64 (0:Int)),.lit (.int .u64 (0:Int)),.lit (.int .i64 (0:Int))],.rows 0 [] 0 true,.box [.ro (List.map (aG IntKind.u64) sB)],.box [.lit (.int .i64 sL)],.box [.lit (.int .i64 sN)],.rows 1 [[.fn (Fn.func (229:FuncId)) [] [.ptr 5 0 0 0,.ptr 6 0 0 0,.ptr 1 0 0 0]],[.fn (Fn.func (230:FuncId)) [] [.ptr 5 0 0 0,.ptr 7 0 0 0,.ptr 1 0 0 0]],[.fn (Fn.func (231:FuncId)) [] [.ptr 5 0 0 0,.ptr 0 0 0 0,.ptr 1 0 0 0]],[.fn (Fn.func (232:FuncId)) [] [.ptr 5 0 0 0,.ptr 6 0 0 0,.ptr 1 0 0 0]]] 0 true]⟩)=ob (au k (v0_0,v0_1,v0_2,v0_3) v1 (v2_0,v2_1,v2_2,v2_3,v2_4,v2_5,v2_6)  n sB sL sN sA) fun r=>some ((.tup [.ro (List.map (aG .u64) r.1),.agg [.lit (.int .i64 r.2.1),.lit (.int .i64 r.2.2.1),.lit (.int .i64 r.2.2.2.1),.lit (.int .u64 r.2.2.2.2.1),.lit (.int .u64 r.2.2.2.2.2.1),.lit (.int .u64 r.2.2.2.2.2.2.1),.lit (.int .i64 r.2.2.2.2.2.2.2)]]),[]):=by
 intro n
 induction n with
 | zero=>intros;rfl
 | succ n ih=>
  intro sB sL sN sA sg sh j115 j116
  rw [au]
  simp -implicitDefEqProofs only [acI,U6,VM,HB,om,abH,Uz,abp,VF,Y6,VG,YS,Vl,↓syP,syA,syD,simprocAttr,syE,ah,ag,ae,syW,xQ,b9,iY,eZ,f5,kw,eS,nz,f7,ko,Oe,ih]
def io (k:Nat) (v0:(Int×Int×Int×Int)) (v1:(List Int)) (v2:(Int×Int×Int×Int×Int×Int×Int)):Option ((List Int)×(Int×Int×Int×Int×Int×Int×Int)):=
 ob (aO 8 v1) fun x167=>
 ob (eW v0 v1 v2 2 4) fun x168=>
 bif !x168 then
 some (x167,v2)
 else
 ob (gp v0 v2.2.2.1) fun x169=>
 ob (dc v0 v2.2.2.1) fun x170=>
 au k v0 v1 v2 (k+23) x167 x169 x170 0
theorem Ek (k:Nat) (v0_0 v0_1 v0_2 v0_3:Int) (v1:List Int) (v2_0 v2_1 v2_2 v2_3 v2_4 v2_5 v2_6:Int):xC (k+24) none 209 [.agg [.lit (.int .i64 v0_0),.lit (.int .i64 v0_1),.lit (.int .i64 v0_2),.lit (.int .i64 v0_3)],.ro (List.map (aG .u64) v1),.agg [.lit (.int .i64 v2_0),.lit (.int .i64 v2_1),.lit (.int .i64 v2_2),.lit (.int .u64 v2_3),.lit (.int .u64 v2_4),.lit (.int .u64 v2_5),.lit (.int .i64 v2_6)]]=ob (io k (v0_0,v0_1,v0_2,v0_3) v1 (v2_0,v2_1,v2_2,v2_3,v2_4,v2_5,v2_6)) fun r=>some ((.tup [.ro (List.map (aG .u64) r.1),.agg [.lit (.int .i64 r.2.1),.lit (.int .i64 r.2.2.1),.lit (.int .i64 r.2.2.2.1),.lit (.int .u64 r.2.2.2.2.1),.lit (.int .u64 r.2.2.2.2.2.1),.lit (.int .u64 r.2.2.2.2.2.2.1),.lit (.int .i64 r.2.2.2.2.2.2.2)]]),[]):=by
 rw [aH]
 unfold io
 simp -implicitDefEqProofs only [acI,U6,VM,HB,om,abH,Uz,abp,VF,Y6,VG,YS,Vl,↓syP,syA,syD,simprocAttr,syE,ah,ag,ae,syW,xQ,kw,eS,ko,pV k v0_0 v0_1 v0_2 v0_3 v1 v2_0 v2_1 v2_2 v2_3 v2_4 v2_5 v2_6]
def fb (k:Nat) (v0:(Int×Int×Int×Int)) (v1:(List Int)) (v2:(Int×Int×Int×Int×Int×Int×Int)):Option ((List Int)×(Int×Int×Int×Int×Int×Int×Int)):=
 bif v2.1==0 then
 ob (kC v0 v1 v2) fun x179=>
 some x179
 else
 bif v2.1==1 then
 ob (lD v0 v1 v2) fun x180=>
 some x180
 else
 bif v2.1==2 then
 ob (io (k+1) v0 v1 v2) fun x181=>
 some x181
 else
 ob (aO 8 v1) fun x182=>
 some (x182,v2)
theorem F3 (k:Nat) (v0_0 v0_1 v0_2 v0_3:Int) (v1:List Int) (v2_0 v2_1 v2_2 v2_3 v2_4 v2_5 v2_6:Int):xC (k+26) none 180 [.agg [.lit (.int .i64 v0_0),.lit (.int .i64 v0_1),.lit (.int .i64 v0_2),.lit (.int .i64 v0_3)],.ro (List.map (aG .u64) v1),.agg [.lit (.int .i64 v2_0),.lit (.int .i64 v2_1),.lit (.int .i64 v2_2),.lit (.int .u64 v2_3),.lit (.int .u64 v2_4),.lit (.int .u64 v2_5),.lit (.int .i64 v2_6)]]=ob (fb k (v0_0,v0_1,v0_2,v0_3) v1 (v2_0,v2_1,v2_2,v2_3,v2_4,v2_5,v2_6)) fun r=>some ((.tup [.ro (List.map (aG .u64) r.1),.agg [.lit (.int .i64 r.2.1),.lit (.int .i64 r.2.2.1),.lit (.int .i64 r.2.2.2.1),.lit (.int .u64 r.2.2.2.2.1),.lit (.int .u64 r.2.2.2.2.2.1),.lit (.int .u64 r.2.2.2.2.2.2.1),.lit (.int .i64 r.2.2.2.2.2.2.2)]]),[]):=by
 rw [aH]
 unfold fb
 simp -implicitDefEqProofs only [agu,Z5,↓syP,syA,syD,simprocAttr,syE,ah,ag,ae,syW,xQ,Gq,J5,Ek]
end Go.Ab
set_option maxRecDepth 100000
set_option linter.unusedVariables false
set_option linter.unusedSimpArgs false
namespace Go.Ab
open Go.Proofs
def gb (v0:Int) (v1:Int):Option Bool:=
 bif decide (0≤v0) then
 some (decide (v0≤v1))
 else
 some false
theorem BC (k:Nat) (v0 v1:Int):xC (k+1) none 172 [.lit (.int .i64 v0),.lit (.int .i64 v1)]=ob (gb v0 v1) fun r=>some ((.lit (.bool r)),[]):=by
 rw [aH]
 unfold gb
 simp -implicitDefEqProofs only [afW,Ym,N9,AE,↓syP,syA,syD,simprocAttr,syE,ah,ag,ae,syW,xQ]
def bS (k:Nat)   : Nat→Tye→Int→Tyt→Int→Option Int
 | 0,_,_,_,_=>none
 | n+1,s3,s4,s5,sJ=>
 bif decide (sJ<s4) then
 ob (idx s3 sJ) fun xd=>
 ob (gb xd.1 (IntKind.i64.wrap ((↑s5.length:Int) - (1:Int)))) fun xu=>
 bif !xu then
 some (sJ)
 else
 ob (idx s5 xd.1) fun xq=>
 ob (gb xd.2.1 xq.1) fun x34=>
 bif !x34 then
 some (sJ)
 else
 ob (gb xd.2.2 (↑xq.2.length:Int)) fun x35=>
 bif !x35 then
 some (sJ)
 else
 bif decide (xd.2.1<xq.1) then
 bif decide ((0:Int)<xd.2.2) then
 some (sJ)
 else
 bS k   n (s3) (s4) (s5) (IntKind.i64.wrap (sJ+(1:Int)))
 else
 bS k   n (s3) (s4) (s5) (IntKind.i64.wrap (sJ+(1:Int)))
 else
 some ((-1:Int))
theorem nL (k:Nat)  : ∀ (n:Nat) (s3:Tye) (s4:Int) (s5:Tyt) (sJ:Int) ⦃j12:V⦄,itX (xX (xS (k+17)) 206 0 (k+17) false) Cr (1) (aw (xX (xS (k+17)) 206 0 (k+17) false) (av (xS (k+17)).P Tryz.f206) Di) n ⟨[.ro (List.map aX s3),.fn (Fn.func (171:FuncId)) [] [.ptr 0 0 0 0],uu,uu,.lit (.int .i64 (0:Int)),j12,.ro (List.map aX s3),.lit (.int .i64 s4),.lit (.int .i64 sJ),.junk,.junk,.junk,.junk,.junk,.junk,.junk,.junk,.junk,.junk],[.box [.ro (List.map ao s5)]]⟩=ob (bS k   n s3 s4 s5 sJ) fun r=>some ((.lit (.int .i64 r),[.box [.ro (List.map ao s5)]])):=by
 intro n
 induction n with
 | zero=>intros;rfl
 | succ n ih=>
  intro s3 s4 s5 sJ j12
  rw [bS]
  simp -implicitDefEqProofs only [Zh,Wh,G7,oI,Zb,W5,ZD,XB,GR,GA,Hc,Ha,Gl,GW,oz,ZY,X5,VR,HD,ov,↓syP,syA,syD,simprocAttr,syE,ah,ag,ae,syW,xQ,BC,Ns,ih]
def fX (k:Nat) (v0:Tyt) (v1:Tye):Option Bool:=
 ob (da k v0) fun xT=>
 bif xT then
 ob (bS k (k+17) v1 (↑v1.length:Int) v0 0) fun xE=>
 some (!decide (0≤xE))
 else
 some false
theorem oQ (k:Nat) (v0:Tyt) (v1:Tye):xC (k+20) none 146 [.ro (List.map ao v0),.ro (List.map aX v1)]=ob (fX k v0 v1) fun r=>some ((.lit (.bool r)),[]):=by
 rw [aH]
 unfold fX
 simp -implicitDefEqProofs only [Zh,Wh,G7,oI,Zb,W5,ZD,XB,GR,GA,Hc,Ha,Gl,GW,oz,ZY,X5,VR,HD,ov,↓syP,syA,syD,simprocAttr,syE,ah,ag,ae,syW,xQ,de,nL]
def dY (k:Nat) (v0:Tyt) (v1:Tye):Option (Int×Int):=
 bif (↑v1.length:Int)==0 then
 some (0,0)
 else
 ob (fX k v0 v1) fun xw=>
 bif !xw then
 some (0,0)
 else
 ob (idx v1 (IntKind.i64.wrap ((↑v1.length:Int) - 1))) fun xj=>
 ob (idx v0 xj.1) fun xP=>
 bif decide (xj.2.1<xP.1) then
 some (1,xj.1)
 else
 bif decide (xj.2.2<(↑xP.2.length:Int)) then
 ob (idx xP.2 xj.2.2) fun xN=>
 some (2,xN)
 else
 some (3,xj.1)
theorem uw (k:Nat) (v0:Tyt) (v1:Tye):xC (k+21) none 162 [.ro (List.map ao v0),.ro (List.map aX v1)]=ob (dY k v0 v1) fun r=>some ((.agg [.lit (.int .i64 r.1),.lit (.int .i64 r.2)]),[]):=by
 rw [aH]
 unfold dY
 simp -implicitDefEqProofs only [adA,aaU,MK,Al,↓syP,syA,syD,simprocAttr,syE,ah,ag,ae,syW,xQ,oQ]
def gg (k:Nat) (v0:Tyt) (v1:Tye):Option Tye:=
 ob (aO 24 v1) fun xH=>
 ob (dY k v0 v1) fun x75=>
 bif x75.1==1 then
 bif decide (0≤IntKind.i64.wrap ((↑xH.length:Int) - 1)∧(IntKind.i64.wrap ((↑xH.length:Int) - 1)).toNat<xH.length) then
 ob (xH[(IntKind.i64.wrap ((↑xH.length:Int) - 1)).toNat]?) fun x76=>
 bif decide (0≤IntKind.i64.wrap ((↑xH.length:Int) - 1)∧(IntKind.i64.wrap ((↑xH.length:Int) - 1)).toNat<xH.length) then
 ob (xH[(IntKind.i64.wrap ((↑xH.length:Int) - 1)).toNat]?) fun x77=>
 some (xH.set (IntKind.i64.wrap ((↑xH.length:Int) - 1)).toNat (x77.1,IntKind.i64.wrap (x76.2.1+1),x77.2.2))
 else
 none
 else
 none
 else
 bif x75.1==2 then
 bif decide (0≤IntKind.i64.wrap ((↑xH.length:Int) - 1)∧(IntKind.i64.wrap ((↑xH.length:Int) - 1)).toNat<xH.length) then
 ob (xH[(IntKind.i64.wrap ((↑xH.length:Int) - 1)).toNat]?) fun x78=>
 bif decide (0≤IntKind.i64.wrap ((↑xH.length:Int) - 1)∧(IntKind.i64.wrap ((↑xH.length:Int) - 1)).toNat<xH.length) then
 ob (xH[(IntKind.i64.wrap ((↑xH.length:Int) - 1)).toNat]?) fun x79=>
 some (xH.set (IntKind.i64.wrap ((↑xH.length:Int) - 1)).toNat (x79.1,x79.2.1,IntKind.i64.wrap (x78.2.2+1)))
 else
 none
 else
 none
 else
 bif x75.1==3 then
 ck (decide (0≤IntKind.i64.wrap ((↑xH.length:Int) - 1)∧(IntKind.i64.wrap ((↑xH.length:Int) - 1)).toNat≤xH.length)) (
 ck (decide ((IntKind.i64.wrap ((↑xH.length:Int) - 1)).toNat≤xH.length)) (
 some (List.take (IntKind.i64.wrap ((↑xH.length:Int) - 1)).toNat xH)))
 else
 some xH
theorem Kb (k:Nat) (v0:Tyt) (v1:Tye):xC (k+22) none 163 [.ro (List.map ao v0),.ro (List.map aX v1)]=ob (gg k v0 v1) fun r=>some ((.ro (List.map aX r)),[]):=by
 rw [aH]
 unfold gg
 simp -implicitDefEqProofs only [adx,Y0,aga,acg,aH (g:=182),agr,Zl,af2,YU,adC,abY,↓syP,syA,syD,simprocAttr,syE,ah,ag,ae,syW,xQ,uw]
def dF (k:Nat) (v0:Tyt) (v1:Tye) (v2:Int):Option Tye:=
 ob (aO 24 v1) fun x89=>
 ob (fX k v0 v1) fun x90=>
 bif !x90 then
 some x89
 else
 ob (gb v2 (IntKind.i64.wrap ((↑v0.length:Int) - 1))) fun x91=>
 bif !x91 then
 some x89
 else
 bif room (x89++[(v2,0,0)]).length 24 then
 some (x89++[(v2,0,0)])
 else
 none
theorem Cm (k:Nat) (v0:Tyt) (v1:Tye) (v2:Int):xC (k+21) none 181 [.ro (List.map ao v0),.ro (List.map aX v1),.lit (.int .i64 v2)]=ob (dF k v0 v1 v2) fun r=>some ((.ro (List.map aX r)),[]):=by
 rw [aH]
 unfold dF
 simp -implicitDefEqProofs only [ad8,abv,Mx,uZ,↓syP,syA,syD,simprocAttr,syE,ah,ag,ae,syW,xQ,BC,oQ]
end Go.Ab
set_option maxRecDepth 100000
set_option linter.unusedVariables false
set_option linter.unusedSimpArgs false
namespace Go.Ab
open Go.Proofs
def co (k:Nat) (v0:(Int×Int×Int×Int)) (v1:(List Int)) (v2:(Int×Int×Int×Int×Int×Int×Int)):Option ((List Int)×(Int×Int×Int×Int×Int×Int×Int)):=
 bif v2.1==5 then
 ob (kg v0 v1 v2) fun x6=>
 some x6
 else
 bif v2.1==6 then
 bif v2.1==6 then
 ob (gJ k v0 v1 v2) fun x7=>
 some x7
 else
 ob (aO 8 v1) fun x8=>
 some (x8,v2)
 else
 bif v2.1==7 then
 ob (gJ k v0 v1 v2) fun x9=>
 some x9
 else
 ob (aO 8 v1) fun x10=>
 some (x10,v2)
theorem uy (k:Nat) (v0_0 v0_1 v0_2 v0_3:Int) (v1:List Int) (v2_0 v2_1 v2_2 v2_3 v2_4 v2_5 v2_6:Int):xC (k+17) none 134 [.agg [.lit (.int .i64 v0_0),.lit (.int .i64 v0_1),.lit (.int .i64 v0_2),.lit (.int .i64 v0_3)],.ro (List.map (aG .u64) v1),.agg [.lit (.int .i64 v2_0),.lit (.int .i64 v2_1),.lit (.int .i64 v2_2),.lit (.int .u64 v2_3),.lit (.int .u64 v2_4),.lit (.int .u64 v2_5),.lit (.int .i64 v2_6)]]=ob (co k (v0_0,v0_1,v0_2,v0_3) v1 (v2_0,v2_1,v2_2,v2_3,v2_4,v2_5,v2_6)) fun r=>some ((.tup [.ro (List.map (aG .u64) r.1),.agg [.lit (.int .i64 r.2.1),.lit (.int .i64 r.2.2.1),.lit (.int .i64 r.2.2.2.1),.lit (.int .u64 r.2.2.2.2.1),.lit (.int .u64 r.2.2.2.2.2.1),.lit (.int .u64 r.2.2.2.2.2.2.1),.lit (.int .i64 r.2.2.2.2.2.2.2)]]),[]):=by
 rw [aH]
 unfold co
 simp -implicitDefEqProofs only [agq,acs,Ow,uY,↓syP,syA,syD,simprocAttr,syE,ah,ag,ae,syW,xQ,Gf,HI]
def iO (v0:(Int×Int×Int×Int)) (v1:(List Int)):Option Bool:=
 ob (bU v0) fun x20=>
 bif x20 then
 ob (dx v0) fun x21=>
 some ((↑v1.length:Int)==x21)
 else
 some false
theorem B3 (k:Nat) (v0_0 v0_1 v0_2 v0_3:Int) (v1:List Int):xC (k+4) none 105 [.agg [.lit (.int .i64 v0_0),.lit (.int .i64 v0_1),.lit (.int .i64 v0_2),.lit (.int .i64 v0_3)],.ro (List.map (aG .u64) v1)]=ob (iO (v0_0,v0_1,v0_2,v0_3) v1) fun r=>some ((.lit (.bool r)),[]):=by
 rw [aH]
 unfold iO
 simp -implicitDefEqProofs only [adT,Yx,N4,wD,↓syP,syA,syD,simprocAttr,syE,ah,ag,ae,syW,xQ,bT,fl]
def i4 (v0:(Int×Int×Int×Int)) (v1:(List Int)) (v2:(Int×Int×Int×Int×Int×Int×Int)) (v3:Int):Option Bool:=
 ob (iO v0 v1) fun x26=>
 bif x26 then
 ob (aK v2) fun x27=>
 bif !x27 then
 bif v2.1==v3 then
 bif decide (0≤v2.2.1) then
 some (decide (v2.2.1<5))
 else
 some false
 else
 some false
 else
 some false
 else
 some false
theorem Cg (k:Nat) (v0_0 v0_1 v0_2 v0_3:Int) (v1:List Int) (v2_0 v2_1 v2_2 v2_3 v2_4 v2_5 v2_6 v3:Int):xC (k+5) none 196 [.agg [.lit (.int .i64 v0_0),.lit (.int .i64 v0_1),.lit (.int .i64 v0_2),.lit (.int .i64 v0_3)],.ro (List.map (aG .u64) v1),.agg [.lit (.int .i64 v2_0),.lit (.int .i64 v2_1),.lit (.int .i64 v2_2),.lit (.int .u64 v2_3),.lit (.int .u64 v2_4),.lit (.int .u64 v2_5),.lit (.int .i64 v2_6)],.lit (.int .i64 v3)]=ob (i4 (v0_0,v0_1,v0_2,v0_3) v1 (v2_0,v2_1,v2_2,v2_3,v2_4,v2_5,v2_6) v3) fun r=>some ((.lit (.bool r)),[]):=by
 rw [aH]
 unfold i4
 simp -implicitDefEqProofs only [ag6,ab1,N5,Oh,Oy,MI,w9,↓syP,syA,syD,simprocAttr,syE,ah,ag,ae,syW,xQ,eZ,B3]
def iw (v0:(Int×Int×Int×Int)) (v1:Int):Option Int:=
 ob (bU v0) fun x36=>
 bif !x36 then
 some ((-1))
 else
 ob (eF 0 0 (IntKind.i64.wrap (v0.1 - 1))) fun x37=>
 bif !x37 then
 some ((-1))
 else
 bif IntKind.u64.wrap v0.2.2.1 !=0 then
 some (IntKind.i64.wrap (6+IntKind.i64.wrap (v1.tmod (IntKind.u64.wrap v0.2.2.1))))
 else
 none
theorem Eb (k:Nat) (v0_0 v0_1 v0_2 v0_3 v1:Int):xC (k+12) none 203 [.agg [.lit (.int .i64 v0_0),.lit (.int .i64 v0_1),.lit (.int .i64 v0_2),.lit (.int .i64 v0_3)],.lit (.int .u64 v1)]=ob (iw (v0_0,v0_1,v0_2,v0_3) v1) fun r=>some ((.lit (.int .i64 r)),[]):=by
 rw [aH]
 unfold iw
 simp -implicitDefEqProofs only [Yg,XM,Ae,gM,adt,Y8,aeC,YO,↓syP,syA,syD,simprocAttr,syE,ah,ag,ae,syW,xQ,mD,bT]
def lR (v0:(Int×Int×Int×Int)) (v1:Int):Option Int:=
 ob (bU v0) fun x42=>
 bif !x42 then
 some ((-1))
 else
 ob (eF 0 0 (IntKind.i64.wrap (v0.1 - 1))) fun x43=>
 bif !x43 then
 some ((-1))
 else
 bif IntKind.u64.wrap v0.2.2.1 !=0 then
 some (IntKind.i64.wrap (IntKind.i64.wrap (6+v0.2.2.1)+IntKind.i64.wrap (v1.tmod (IntKind.u64.wrap v0.2.2.1))))
 else
 none
theorem D8 (k:Nat) (v0_0 v0_1 v0_2 v0_3 v1:Int):xC (k+12) none 205 [.agg [.lit (.int .i64 v0_0),.lit (.int .i64 v0_1),.lit (.int .i64 v0_2),.lit (.int .i64 v0_3)],.lit (.int .u64 v1)]=ob (lR (v0_0,v0_1,v0_2,v0_3) v1) fun r=>some ((.lit (.int .i64 r)),[]):=by
 rw [aH]
 unfold lR
 simp -implicitDefEqProofs only [Yg,XM,Ae,gM,aeJ,acn,agI,aaQ,↓syP,syA,syD,simprocAttr,syE,ah,ag,ae,syW,xQ,mD,bT]
def lT (v0:(Int×Int×Int×Int)) (v1:(List Int)) (v2:(Int×Int×Int×Int×Int×Int×Int)):Option ((List Int)×(Int×Int×Int×Int×Int×Int×Int)):=
 ob (aO 8 v1) fun xU=>
 ob (i4 v0 v1 v2 3) fun xw=>
 bif !xw then
 some (xU,v2)
 else
 bif decide (0≤v2.2.1∧v2.2.1.toNat<5) then
 bif v2.2.1.toNat==0 then
 ob (aE xU 5) fun xj=>
 some (xU,(v2.1,1,v2.2.2.1,v2.2.2.2.1,xj,v2.2.2.2.2.2))
 else
 bif v2.2.1.toNat==1 then
 ob (iw v0 v2.2.2.2.2.1) fun xP=>
 ob (aE xU xP) fun xN=>
 bif IntKind.u64.wrap v0.2.2.1 !=0 then
 bif xN==IntKind.u64.wrap (IntKind.u64.wrap (v2.2.2.2.2.1.tdiv (IntKind.u64.wrap v0.2.2.1))*2) then
 some (xU,(v2.1,2,v2.2.2.1,v2.2.2.2.1,v2.2.2.2.2.1,xN,v2.2.2.2.2.2.2))
 else
 bif IntKind.u64.wrap v0.2.2.1 !=0 then
 ob (dS xN (IntKind.u64.wrap (IntKind.u64.wrap (v2.2.2.2.2.1.tdiv (IntKind.u64.wrap v0.2.2.1))*2))) fun x64=>
 bif decide (x64<0) then
 ob (a7 (v2.1,v2.2.1,v2.2.2.1,v2.2.2.2.1,v2.2.2.2.2.1,xN,v2.2.2.2.2.2.2) 2 v2.2.2.2.1) fun xc=>
 some (xU,(xc.1,0,xc.2.2))
 else
 some (xU,(v2.1,0,v2.2.2.1,v2.2.2.2.1,v2.2.2.2.2.1,xN,v2.2.2.2.2.2.2))
 else
 none
 else
 none
 else
 bif v2.2.1.toNat==2 then
 ob (dw xU 5 v2.2.2.2.2.1 (IntKind.u64.wrap (v2.2.2.2.2.1+1))) fun x66=>
 bif x66.2 then
 some (x66.1,(v2.1,3,v2.2.2))
 else
 some (x66.1,(v2.1,0,v2.2.2))
 else
 bif v2.2.1.toNat==3 then
 ob (lR v0 v2.2.2.2.2.1) fun x67=>
 ob (bo xU x67 v2.2.2.2.1) fun x68=>
 some (x68,(v2.1,4,v2.2.2))
 else
 bif v2.2.1.toNat==4 then
 ob (iw v0 v2.2.2.2.2.1) fun x69=>
 bif IntKind.u64.wrap v0.2.2.1 !=0 then
 ob (bo xU x69 (IntKind.u64.wrap (IntKind.u64.wrap (IntKind.u64.wrap (v2.2.2.2.2.1.tdiv (IntKind.u64.wrap v0.2.2.1))*2)+1))) fun x70=>
 ob (a7 v2 1 v2.2.2.2.1) fun x71=>
 some (x70,(x71.1,0,x71.2.2))
 else
 none
 else
 none
 else
 none
theorem Ky (k:Nat) (v0_0 v0_1 v0_2 v0_3:Int) (v1:List Int) (v2_0 v2_1 v2_2 v2_3 v2_4 v2_5 v2_6:Int):xC (k+24) none 167 [.agg [.lit (.int .i64 v0_0),.lit (.int .i64 v0_1),.lit (.int .i64 v0_2),.lit (.int .i64 v0_3)],.ro (List.map (aG .u64) v1),.agg [.lit (.int .i64 v2_0),.lit (.int .i64 v2_1),.lit (.int .i64 v2_2),.lit (.int .u64 v2_3),.lit (.int .u64 v2_4),.lit (.int .u64 v2_5),.lit (.int .i64 v2_6)]]=ob (lT (v0_0,v0_1,v0_2,v0_3) v1 (v2_0,v2_1,v2_2,v2_3,v2_4,v2_5,v2_6)) fun r=>some ((.tup [.ro (List.map (aG .u64) r.1),.agg [.lit (.int .i64 r.2.1),.lit (.int .i64 r.2.2.1),.lit (.int .i64 r.2.2.2.1),.lit (.int .u64 r.2.2.2.2.1),.lit (.int .u64 r.2.2.2.2.2.1),.lit (.int .u64 r.2.2.2.2.2.2.1),.lit (.int .i64 r.2.2.2.2.2.2.2)]]),[]):=by
 rw [aH]
 unfold lT
 simp -implicitDefEqProofs only [agQ,acm,ae8,aal,ag3,abT,agz,Zp,aek,ab9,adn,acx,aeH,aau,ae9,YC,↓syP,syA,syD,simprocAttr,syE,ah,ag,ae,syW,xQ,b9,dZ,iY,f5,f7,Cg,Eb,D8]
def iR (v0:(Int×Int×Int×Int)) (v1:Int):Option Int:=
 bif IntKind.u64.wrap v0.2.2.1 !=0 then
 some (IntKind.u64.wrap (IntKind.u64.wrap (IntKind.u64.wrap (v1.tdiv (IntKind.u64.wrap v0.2.2.1))*2)+1))
 else
 none
theorem KU (k:Nat) (v0_0 v0_1 v0_2 v0_3 v1:Int):xC (k+1) none 204 [.agg [.lit (.int .i64 v0_0),.lit (.int .i64 v0_1),.lit (.int .i64 v0_2),.lit (.int .i64 v0_3)],.lit (.int .u64 v1)]=ob (iR (v0_0,v0_1,v0_2,v0_3) v1) fun r=>some ((.lit (.int .u64 r)),[]):=by
 rw [aH]
 unfold iR
 simp -implicitDefEqProofs only [adR,ZU,↓syP,syA,syD,simprocAttr,syE,ah,ag,ae,syW,xQ]
def mb (v0:(Int×Int×Int×Int)) (v1:(List Int)) (v2:(Int×Int×Int×Int×Int×Int×Int)):Option ((List Int)×(Int×Int×Int×Int×Int×Int×Int)):=
 ob (aO 8 v1) fun xL=>
 ob (i4 v0 v1 v2 4) fun xb=>
 bif !xb then
 some (xL,v2)
 else
 bif v2.2.1==0 then
 ob (aE xL 4) fun x111=>
 some (xL,(v2.1,1,v2.2.2.1,v2.2.2.2.1,x111,v2.2.2.2.2.2))
 else
 bif v2.2.1==1 then
 ob (iw v0 v2.2.2.2.2.1) fun x112=>
 ob (aE xL x112) fun xp=>
 ob (iR v0 v2.2.2.2.2.1) fun x114=>
 ob (dS xp x114) fun x115=>
 bif x115==0 then
 some (xL,(v2.1,2,v2.2.2.1,v2.2.2.2.1,v2.2.2.2.2.1,xp,v2.2.2.2.2.2.2))
 else
 bif decide (x115<0) then
 ob (a7 (v2.1,0,v2.2.2.1,v2.2.2.2.1,v2.2.2.2.2.1,xp,v2.2.2.2.2.2.2) 3 0) fun x116=>
 some (xL,x116)
 else
 some (xL,(v2.1,0,v2.2.2.1,v2.2.2.2.1,v2.2.2.2.2.1,xp,v2.2.2.2.2.2.2))
 else
 bif v2.2.1==2 then
 ob (dw xL 4 v2.2.2.2.2.1 (IntKind.u64.wrap (v2.2.2.2.2.1+1))) fun x117=>
 bif x117.2 then
 some (x117.1,(v2.1,3,v2.2.2))
 else
 some (x117.1,(v2.1,0,v2.2.2))
 else
 bif v2.2.1==3 then
 ob (lR v0 v2.2.2.2.2.1) fun x118=>
 ob (aE xL x118) fun x119=>
 some (xL,(v2.1,4,v2.2.2.1,x119,v2.2.2.2.2))
 else
 ob (iw v0 v2.2.2.2.2.1) fun x120=>
 ob (iR v0 v2.2.2.2.2.1) fun x121=>
 ob (bo xL x120 (IntKind.u64.wrap (x121+1))) fun x122=>
 ob (a7 v2 1 v2.2.2.2.1) fun x123=>
 some (x122,x123)
theorem JV (k:Nat) (v0_0 v0_1 v0_2 v0_3:Int) (v1:List Int) (v2_0 v2_1 v2_2 v2_3 v2_4 v2_5 v2_6:Int):xC (k+13) none 168 [.agg [.lit (.int .i64 v0_0),.lit (.int .i64 v0_1),.lit (.int .i64 v0_2),.lit (.int .i64 v0_3)],.ro (List.map (aG .u64) v1),.agg [.lit (.int .i64 v2_0),.lit (.int .i64 v2_1),.lit (.int .i64 v2_2),.lit (.int .u64 v2_3),.lit (.int .u64 v2_4),.lit (.int .u64 v2_5),.lit (.int .i64 v2_6)]]=ob (mb (v0_0,v0_1,v0_2,v0_3) v1 (v2_0,v2_1,v2_2,v2_3,v2_4,v2_5,v2_6)) fun r=>some ((.tup [.ro (List.map (aG .u64) r.1),.agg [.lit (.int .i64 r.2.1),.lit (.int .i64 r.2.2.1),.lit (.int .i64 r.2.2.2.1),.lit (.int .u64 r.2.2.2.2.1),.lit (.int .u64 r.2.2.2.2.2.1),.lit (.int .u64 r.2.2.2.2.2.2.1),.lit (.int .i64 r.2.2.2.2.2.2.2)]]),[]):=by
 rw [aH]
 unfold mb
 simp -implicitDefEqProofs only [afT,YA,OI,Aq,↓syP,syA,syD,simprocAttr,syE,ah,ag,ae,syW,xQ,b9,dZ,iY,f5,f7,Cg,Eb,D8,KU]
def br (v0:(Int×Int×Int×Int)) (v1:(List Int)) (v2:(Int×Int×Int×Int×Int×Int×Int)):Option ((List Int)×(Int×Int×Int×Int×Int×Int×Int)):=
 bif v2.1==3 then
 ob (lT v0 v1 v2) fun x142=>
 some x142
 else
 bif v2.1==4 then
 ob (mb v0 v1 v2) fun x143=>
 some x143
 else
 ob (aO 8 v1) fun x144=>
 some (x144,v2)
theorem pK (k:Nat) (v0_0 v0_1 v0_2 v0_3:Int) (v1:List Int) (v2_0 v2_1 v2_2 v2_3 v2_4 v2_5 v2_6:Int):xC (k+26) none 135 [.agg [.lit (.int .i64 v0_0),.lit (.int .i64 v0_1),.lit (.int .i64 v0_2),.lit (.int .i64 v0_3)],.ro (List.map (aG .u64) v1),.agg [.lit (.int .i64 v2_0),.lit (.int .i64 v2_1),.lit (.int .i64 v2_2),.lit (.int .u64 v2_3),.lit (.int .u64 v2_4),.lit (.int .u64 v2_5),.lit (.int .i64 v2_6)]]=ob (br (v0_0,v0_1,v0_2,v0_3) v1 (v2_0,v2_1,v2_2,v2_3,v2_4,v2_5,v2_6)) fun r=>some ((.tup [.ro (List.map (aG .u64) r.1),.agg [.lit (.int .i64 r.2.1),.lit (.int .i64 r.2.2.1),.lit (.int .i64 r.2.2.2.1),.lit (.int .u64 r.2.2.2.2.1),.lit (.int .u64 r.2.2.2.2.2.1),.lit (.int .u64 r.2.2.2.2.2.2.1),.lit (.int .i64 r.2.2.2.2.2.2.2)]]),[]):=by
 rw [aH]
 unfold br
 simp -implicitDefEqProofs only [adN,acF,↓syP,syA,syD,simprocAttr,syE,ah,ag,ae,syW,xQ,Ky,JV]
end Go.Ab
set_option maxRecDepth 100000
set_option linter.unusedVariables false
set_option linter.unusedSimpArgs false
namespace Go.Ab
open Go.Proofs
def iT (k:Nat) (v0:(Int×Int×Int×Int)) (v1:Tyt) (v2:(List Int)) (v3:Int) (v4:Tyw):Option Bool:=
 ob (bU v0) fun x5=>
 bif x5 then
 ob (dx v0) fun x6=>
 bif (↑v2.length:Int)==x6 then
 ob (da (k+4) v1) fun x7=>
 bif x7 then
 bif decide (0≤v3) then
 bif decide (v3<v0.1) then
 bif decide (0≤v4.1) then
 bif decide (v4.1<16) then
 ob (fX (k+3) v1 v4.2.1) fun x8=>
 some x8
 else
 some false
 else
 some false
 else
 some false
 else
 some false
 else
 some false
 else
 some false
 else
 some false
theorem BP (k:Nat) (v0_0 v0_1 v0_2 v0_3:Int) (v1:Tyt) (v2:List Int) (v3 v4_0:Int) (v4_1:Tye) (v4_2_0 v4_2_1 v4_2_2 v4_2_3 v4_2_4 v4_2_5 v4_2_6 v4_3 v4_4:Int):xC (k+24) none 95 [.agg [.lit (.int .i64 v0_0),.lit (.int .i64 v0_1),.lit (.int .i64 v0_2),.lit (.int .i64 v0_3)],.ro (List.map ao v1),.ro (List.map (aG .u64) v2),.lit (.int .i64 v3),.agg [.lit (.int .i64 v4_0),.ro (List.map aX v4_1),.lit (.int .i64 v4_2_0),.lit (.int .i64 v4_2_1),.lit (.int .i64 v4_2_2),.lit (.int .u64 v4_2_3),.lit (.int .u64 v4_2_4),.lit (.int .u64 v4_2_5),.lit (.int .i64 v4_2_6),.lit (.int .i64 v4_3),.lit (.int .i64 v4_4)]]=ob (iT k (v0_0,v0_1,v0_2,v0_3) v1 v2 v3 (v4_0,v4_1,(v4_2_0,v4_2_1,v4_2_2,v4_2_3,v4_2_4,v4_2_5,v4_2_6),v4_3,v4_4)) fun r=>some ((.lit (.bool r)),[]):=by
 rw [aH]
 unfold iT
 simp -implicitDefEqProofs only [ail,ahD,Tp,TV,S7,Te,Ub,S2,SV,Bt,↓syP,syA,syD,simprocAttr,syE,ah,ag,ae,syW,xQ,de,bT,fl,oQ]
def bv (k:Nat) (v0:(List Int)) (v1:Int)  : Nat→Int→Option Int
 | 0,_=>none
 | n+1,sV=>
 bif decide (sV<(↑v0.length:Int)) then
 ob (idx v0 sV) fun x22=>
 bif v1==x22 then
 some (sV)
 else
 bv k v0 v1  n (IntKind.i64.wrap (sV+(1:Int)))
 else
 some ((-1:Int))
theorem lJ (k:Nat) (v0:List Int) (v1:Int):∀ (n:Nat) (sV:Int) ⦃j18:V⦄,rt none (itX (xX (xS k) 61 0 k false) Jm (0) (aw (xX (xS k) 61 0 k false) (av (xS k).P Tryz.f61) Jv) n ⟨[.ro (List.map (aG IntKind.i64) v0),.lit (.int .i64 v1),uu,uu,.lit (.int .i64 (0:Int)),j18,.ro (List.map (aG IntKind.i64) v0),.lit (.int .i64 (↑v0.length:Int)),.lit (.int .i64 sV),.junk,.junk,.junk,.junk,.junk,.junk,.junk,.junk,.junk,.junk],[]⟩)=ob (bv k v0 v1  n sV) fun r=>some ((.lit (.int .i64 r)),[]):=by
 intro n
 induction n with
 | zero=>intros;rfl
 | succ n ih=>
  intro sV j18
  rw [bv]
  simp -implicitDefEqProofs only [ahX,afC,afJ,L2,rU,↓syP,syA,syD,simprocAttr,syE,ah,ag,ae,syW,xQ,Uj,ih]
def dE (k:Nat) (v0:(List Int)) (v1:Int):Option Int:=
 bv k v0 v1 k 0
theorem gE (k:Nat) (v0:List Int) (v1:Int):xC (k+1) none 61 [.ro (List.map (aG .i64) v0),.lit (.int .i64 v1)]=ob (dE k v0 v1) fun r=>some ((.lit (.int .i64 r)),[]):=by
 rw [aH]
 unfold dE
 simp -implicitDefEqProofs only [ahX,afC,afJ,L2,rU,↓syP,syA,syD,simprocAttr,syE,ah,ag,ae,syW,xQ,lJ k v0 v1]
def gq (v0:(Int×Int×Int×Int×Int×Int×Int)):Option Bool:=
 bif v0.1==5 then
 ob (aK v0) fun x30=>
 bif !x30 then
 some (v0.2.1==3)
 else
 some false
 else
 some false
theorem CV (k:Nat) (v0_0 v0_1 v0_2 v0_3 v0_4 v0_5 v0_6:Int):xC (k+2) none 69 [.agg [.lit (.int .i64 v0_0),.lit (.int .i64 v0_1),.lit (.int .i64 v0_2),.lit (.int .u64 v0_3),.lit (.int .u64 v0_4),.lit (.int .u64 v0_5),.lit (.int .i64 v0_6)]]=ob (gq (v0_0,v0_1,v0_2,v0_3,v0_4,v0_5,v0_6)) fun r=>some ((.lit (.bool r)),[]):=by
 rw [aH]
 unfold gq
 simp -implicitDefEqProofs only [aiH,ahf,Tm,SJ,B7,↓syP,syA,syD,simprocAttr,syE,ah,ag,ae,syW,xQ,eZ]
def gC (v0:Tyw):Option Bool:=
 bif v0.1==8 then
 ob (gq v0.2.2.1) fun xq=>
 some xq
 else
 some false
theorem DW (k:Nat) (v0_0:Int) (v0_1:Tye) (v0_2_0 v0_2_1 v0_2_2 v0_2_3 v0_2_4 v0_2_5 v0_2_6 v0_3 v0_4:Int):xC (k+3) none 31 [.agg [.lit (.int .i64 v0_0),.ro (List.map aX v0_1),.lit (.int .i64 v0_2_0),.lit (.int .i64 v0_2_1),.lit (.int .i64 v0_2_2),.lit (.int .u64 v0_2_3),.lit (.int .u64 v0_2_4),.lit (.int .u64 v0_2_5),.lit (.int .i64 v0_2_6),.lit (.int .i64 v0_3),.lit (.int .i64 v0_4)]]=ob (gC (v0_0,v0_1,(v0_2_0,v0_2_1,v0_2_2,v0_2_3,v0_2_4,v0_2_5,v0_2_6),v0_3,v0_4)) fun r=>some ((.lit (.bool r)),[]):=by
 rw [aH]
 unfold gC
 simp -implicitDefEqProofs only [aiz,ahG,SY,BE,↓syP,syA,syD,simprocAttr,syE,ah,ag,ae,syW,xQ,CV]
def nI (v0:Int):Option Tyw:=
 ob (aJ 1 v0 0) fun x36=>
 some (0,[],x36,0,0)
theorem rE (k:Nat) (v0:Int):xC (k+2) none 60 [.lit (.int .i64 v0)]=ob (nI v0) fun r=>some ((.agg [.lit (.int .i64 r.1),.ro (List.map aX r.2.1),.lit (.int .i64 r.2.2.1.1),.lit (.int .i64 r.2.2.1.2.1),.lit (.int .i64 r.2.2.1.2.2.1),.lit (.int .u64 r.2.2.1.2.2.2.1),.lit (.int .u64 r.2.2.1.2.2.2.2.1),.lit (.int .u64 r.2.2.1.2.2.2.2.2.1),.lit (.int .i64 r.2.2.1.2.2.2.2.2.2),.lit (.int .i64 r.2.2.2.1),.lit (.int .i64 r.2.2.2.2)]),[]):=by
 rw [aH]
 unfold nI
 simp -implicitDefEqProofs only [ah3,ahR,↓syP,syA,syD,simprocAttr,syE,ah,ag,ae,syW,xQ,mh]
 all_goals simp -implicitDefEqProofs only [List.map_nil]
end Go.Ab
set_option maxRecDepth 100000
set_option linter.unusedVariables false
set_option linter.unusedSimpArgs false
namespace Go.Ab
open Go.Proofs
def eT (k:Nat) (v0:(Int×Int×Int×Int)) (v1:Tyt) (v2:(List Int)) (v3:Tys):Option Bool:=
 ob (bU v0) fun x6=>
 bif x6 then
 ob (dx v0) fun x7=>
 bif (↑v2.length:Int)==x7 then
 ob (da (k+4) v1) fun x8=>
 bif x8 then
 bif decide (0≤v3.1) then
 bif decide (v3.1<6) then
 bif decide (0<(↑v3.2.1.length:Int)) then
 ob (idx v3.2.1 0) fun x9=>
 bif decide (0≤x9) then
 ob (idx v3.2.1 0) fun x10=>
 some (decide (x10<(↑v1.length:Int)))
 else
 some false
 else
 some false
 else
 some false
 else
 some false
 else
 some false
 else
 some false
 else
 some false
theorem mV (k:Nat) (v0_0 v0_1 v0_2 v0_3:Int) (v1:Tyt) (v2:List Int) (v3_0:Int) (v3_1:List Int) (v3_2_0 v3_2_1 v3_2_2 v3_2_3 v3_2_4 v3_2_5 v3_2_6:Int):xC (k+24) none 85 [.agg [.lit (.int .i64 v0_0),.lit (.int .i64 v0_1),.lit (.int .i64 v0_2),.lit (.int .i64 v0_3)],.ro (List.map ao v1),.ro (List.map (aG .u64) v2),.agg [.lit (.int .i64 v3_0),.ro (List.map (aG .i64) v3_1),.lit (.int .i64 v3_2_0),.lit (.int .i64 v3_2_1),.lit (.int .i64 v3_2_2),.lit (.int .u64 v3_2_3),.lit (.int .u64 v3_2_4),.lit (.int .u64 v3_2_5),.lit (.int .i64 v3_2_6)]]=ob (eT k (v0_0,v0_1,v0_2,v0_3) v1 v2 (v3_0,v3_1,(v3_2_0,v3_2_1,v3_2_2,v3_2_3,v3_2_4,v3_2_5,v3_2_6))) fun r=>some ((.lit (.bool r)),[]):=by
 rw [aH]
 unfold eT
 simp -implicitDefEqProofs only [ah9,ahr,SU,Tx,Ta,Tf,S5,SL,SQ,BJ,↓syP,syA,syD,simprocAttr,syE,ah,ag,ae,syW,xQ,de,bT,fl]
def fA (k : Nat) (v0 : (Int × Int × Int × Int)) (v1 : (List (Int × List Int))) (v2 : (List Int)) (v3 : Int) (v4 : (Int × List Int × Int × Int × Int × Int × Int × Int × Int)) : Option ((List Int) × (Int × List Int × Int × Int × Int × Int × Int × Int × Int) × (List (Int × Int × Int))) :=
 ob (aO 8 v2) fun xT =>
 ob (aO 8 v4.2.1) fun xE =>
 ob (eT (k + 15) v0 v1 v2 v4) fun x40 =>
 bif !x40 then
 some (xT,(v4.1,xE,v4.2.2),[])
 else
 ob (idx xE 0) fun xe =>
 bif v4.1 == 0 then
 ob (aE xT 3) fun x42 =>
 bif x42 != 0 then
 bif room 1 24 then
 bif decide (1 ≤ (↑xE.length : Int)) then
 some (xT,(0,(List.drop (Int.toNat 1) xE),(0,0,0,0,0,0,0)),([(1,xe,v3)]))
 else
 none
 else
 none
 else
 some (xT,(1,xE,v4.2.2),[])
 else
 bif v4.1 == 1 then
 ob (dv xT 0 1) fun x43 =>
 ob (aJ 3 v3 (IntKind.u64.wrap xe)) fun x44 =>
 some (x43.1,(2,xE,x44),[])
 else
 bif v4.1 == 2 then
 bif v4.2.2.1 == 3 then
 ob (br v0 xT v4.2.2) fun xi =>
 ob (aK xi.2) fun xr =>
 bif !xr then
 some (xi.1,(v4.1,xE,xi.2),[])
 else
 bif xi.2.2.2.2.2.2.2 != 2 then
 bif room 1 24 then
 some (xi.1,(3,xE,xi.2),([(0,xe,v3)]))
 else
 none
 else
 some (xi.1,(5,xE,xi.2),[])
 else
 bif v4.2.2.1 == 4 then
 ob (br v0 xT v4.2.2) fun xh =>
 ob (aK xh.2) fun x48 =>
 bif !x48 then
 some (xh.1,(v4.1,xE,xh.2),[])
 else
 bif xh.2.2.2.2.2.2.2 != 2 then
 bif room 1 24 then
 some (xh.1,(3,xE,xh.2),([(0,xe,v3)]))
 else
 none
 else
 some (xh.1,(5,xE,xh.2),[])
 else
 ob (co (k + 20) v0 xT v4.2.2) fun xn =>
 ob (aK xn.2) fun x50 =>
 bif !x50 then
 some (xn.1,(v4.1,xE,xn.2),[])
 else
 bif xn.2.2.2.2.2.2.2 != 2 then
 bif room 1 24 then
 some (xn.1,(3,xE,xn.2),([(0,xe,v3)]))
 else
 none
 else
 some (xn.1,(5,xE,xn.2),[])
 else
 bif v4.1 == 3 then
 ob (aE xT 1) fun x51 =>
 bif x51 != 0 then
 bif decide (1 ≤ (↑xE.length : Int)) then
 some (xT,(0,(List.drop (Int.toNat 1) xE),(0,0,0,0,0,0,0)),[])
 else
 none
 else
 ob (aJ 6 v3 0) fun x52 =>
 some (xT,(4,xE,x52),[])
 else
 bif v4.1 == 4 then
 bif v4.2.2.1 == 3 then
 ob (br v0 xT v4.2.2) fun x53 =>
 ob (aK x53.2) fun xV =>
 bif xV then
 bif decide (1 ≤ (↑xE.length : Int)) then
 some (x53.1,(0,(List.drop (Int.toNat 1) xE),(0,0,0,0,0,0,0)),[])
 else
 none
 else
 some (x53.1,(v4.1,xE,x53.2),[])
 else
 bif v4.2.2.1 == 4 then
 ob (br v0 xT v4.2.2) fun x55 =>
 ob (aK x55.2) fun x56 =>
 bif x56 then
 bif decide (1 ≤ (↑xE.length : Int)) then
 some (x55.1,(0,(List.drop (Int.toNat 1) xE),(0,0,0,0,0,0,0)),[])
 else
 none
 else
 some (x55.1,(v4.1,xE,x55.2),[])
 else
 ob (co (k + 20) v0 xT v4.2.2) fun xo =>
 ob (aK xo.2) fun x58 =>
 bif x58 then
 bif decide (1 ≤ (↑xE.length : Int)) then
 some (xo.1,(0,(List.drop (Int.toNat 1) xE),(0,0,0,0,0,0,0)),[])
 else
 none
 else
 some (xo.1,(v4.1,xE,xo.2),[])
 else
 bif v4.1 == 5 then
 ob (dv xT 0 18446744073709551615) fun xU =>
 bif room 1 24 then
 bif xU.2 == 1 then
 bif room 2 24 then
 bif decide (1 ≤ (↑xE.length : Int)) then
 some (xU.1,(0,(List.drop (Int.toNat 1) xE),(0,0,0,0,0,0,0)),([(1,xe,v3),(5,0,v3)]))
 else
 none
 else
 none
 else
 bif decide (1 ≤ (↑xE.length : Int)) then
 some (xU.1,(0,(List.drop (Int.toNat 1) xE),(0,0,0,0,0,0,0)),([(1,xe,v3)]))
 else
 none
 else
 none
 else
 none
theorem o7 (k : Nat) (v0_0 v0_1 v0_2 v0_3 : Int) (v1 : List (Int × List Int)) (v2 : List Int) (v3 v4_0 : Int) (v4_1 : List Int) (v4_2_0 v4_2_1 v4_2_2 v4_2_3 v4_2_4 v4_2_5 v4_2_6 : Int) : xC (k + 40) none 86 [.agg [.lit (.int .i64 v0_0),.lit (.int .i64 v0_1),.lit (.int .i64 v0_2),.lit (.int .i64 v0_3)],.ro (List.map ao v1),.ro (List.map (aG .u64) v2),.lit (.int .i64 v3),.agg [.lit (.int .i64 v4_0),.ro (List.map (aG .i64) v4_1),.lit (.int .i64 v4_2_0),.lit (.int .i64 v4_2_1),.lit (.int .i64 v4_2_2),.lit (.int .u64 v4_2_3),.lit (.int .u64 v4_2_4),.lit (.int .u64 v4_2_5),.lit (.int .i64 v4_2_6)]] = ob (fA k (v0_0,v0_1,v0_2,v0_3) v1 v2 v3 (v4_0,v4_1,(v4_2_0,v4_2_1,v4_2_2,v4_2_3,v4_2_4,v4_2_5,v4_2_6))) fun r => some ((.tup [.ro (List.map (aG .u64) r.1),.agg [.lit (.int .i64 r.2.1.1),.ro (List.map (aG .i64) r.2.1.2.1),.lit (.int .i64 r.2.1.2.2.1),.lit (.int .i64 r.2.1.2.2.2.1),.lit (.int .i64 r.2.1.2.2.2.2.1),.lit (.int .u64 r.2.1.2.2.2.2.2.1),.lit (.int .u64 r.2.1.2.2.2.2.2.2.1),.lit (.int .u64 r.2.1.2.2.2.2.2.2.2.1),.lit (.int .i64 r.2.1.2.2.2.2.2.2.2.2)],.ro (List.map aX r.2.2)]),[]) := by
  rw [aH]
  unfold fA
  simp -implicitDefEqProofs only [aiy,ahW,adw,aby,adl,aa1,afF,Zo,M8,LM,AN,w6,agF,abz,agY,Yq,agG,Zw,agy,aaM,adB,abe,afx,aba,↓syP,syA,syD,simprocAttr,syE,ah,ag,ae,syW,xQ,b9,Bv,mh,eZ,uy,pK,mV]
  all_goals simp -implicitDefEqProofs only [List.map_nil]
def gw (v0:Tys):Option Bool:=
 some (v0.1 !=0)
theorem Dh (k:Nat) (v0_0:Int) (v0_1:List Int) (v0_2_0 v0_2_1 v0_2_2 v0_2_3 v0_2_4 v0_2_5 v0_2_6:Int):xC (k+1) none 28 [.agg [.lit (.int .i64 v0_0),.ro (List.map (aG .i64) v0_1),.lit (.int .i64 v0_2_0),.lit (.int .i64 v0_2_1),.lit (.int .i64 v0_2_2),.lit (.int .u64 v0_2_3),.lit (.int .u64 v0_2_4),.lit (.int .u64 v0_2_5),.lit (.int .i64 v0_2_6)]]=ob (gw (v0_0,v0_1,(v0_2_0,v0_2_1,v0_2_2,v0_2_3,v0_2_4,v0_2_5,v0_2_6))) fun r=>some ((.lit (.bool r)),[]):=by
 rw [aH]
 unfold gw
 simp -implicitDefEqProofs only [aiK,ahC,↓syP,syA,syD,simprocAttr,syE,ah,ag,ae,syW,xQ]
def ij (v0:(List Int)):Option Tys:=
 ob (aO 8 v0) fun x86=>
 some (0,x86,(0,0,0,0,0,0,0))
theorem mS (k:Nat) (v0:List Int):xC (k+2) none 63 [.ro (List.map (aG .i64) v0)]=ob (ij v0) fun r=>some ((.agg [.lit (.int .i64 r.1),.ro (List.map (aG .i64) r.2.1),.lit (.int .i64 r.2.2.1),.lit (.int .i64 r.2.2.2.1),.lit (.int .i64 r.2.2.2.2.1),.lit (.int .u64 r.2.2.2.2.2.1),.lit (.int .u64 r.2.2.2.2.2.2.1),.lit (.int .u64 r.2.2.2.2.2.2.2.1),.lit (.int .i64 r.2.2.2.2.2.2.2.2)]),[]):=by
 rw [aH]
 unfold ij
 simp -implicitDefEqProofs only [ais,ahy,↓syP,syA,syD,simprocAttr,syE,ah,ag,ae,syW,xQ]
end Go.Ab
set_option maxRecDepth 100000
set_option linter.unusedVariables false
set_option linter.unusedSimpArgs false
namespace Go.Ab
open Go.Proofs
def u2 {β:Type} (k:Nat) (c:Int×Int×Int×Int) (m:List Int) (f:Int×Int×Int×Int×Int×Int×Int) (K:List Int×(Int×Int×Int×Int×Int×Int×Int)→Option β):Option β:=
 (bif f.1==0 then (bif f.1==0 then ob (fb (k+31) c m f) K else (bif f.1==3 then (bif f.1==3 then ob (br c m f) K else ob (co (k+40) c m f) K) else (bif f.1==4 then ob (br c m f) K else ob (co (k+40) c m f) K))) else (bif f.1==1 then (bif f.1==1 then ob (fb (k+31) c m f) K else (bif f.1==3 then (bif f.1==3 then ob (br c m f) K else ob (co (k+40) c m f) K) else (bif f.1==4 then ob (br c m f) K else ob (co (k+40) c m f) K))) else (bif f.1==2 then ob (fb (k+31) c m f) K else (bif f.1==3 then (bif f.1==3 then ob (br c m f) K else ob (co (k+40) c m f) K) else (bif f.1==4 then ob (br c m f) K else ob (co (k+40) c m f) K)))))
def gW (k : Nat) (v0 : (Int × Int × Int × Int)) (v1 : (List (Int × List Int))) (v2 : (List Int)) (v3 : Int) (v4 : (Int × List (Int × Int × Int) × (Int × Int × Int × Int × Int × Int × Int) × Int × Int)) (v5 : Int) : Option ((List Int) × (Int × List (Int × Int × Int) × (Int × Int × Int × Int × Int × Int × Int) × Int × Int) × (List (Int × Int × Int))) :=
 ob (aO 8 v2) fun xD =>
 ob (aO 24 v4.2.1) fun xB =>
 ob (iT (k + 35) v0 v1 v2 v3 v4) fun x472 =>
 bif !x472 then
 some (xD,(v4.1,xB,v4.2.2),[])
 else
 bif v4.1 == 0 then
 u2 k v0 xD v4.2.2.1 fun xf =>
 ob (aK xf.2) fun x474 =>
 bif !x474 then
 some (xf.1,(v4.1,xB,xf.2,v4.2.2.2),[])
 else
 bif xf.2.2.2.2.2.2.2 != 1 then
 some (xf.1,(1,xB,(0,0,0,0,0,0,0),v4.2.2.2),[])
 else
 ob (dF (k + 36) v1 xB (IntKind.i64.wrap xf.2.2.2.2.1)) fun x475 =>
 bif room 1 24 then
 some (xf.1,(9,x475,(0,0,0,0,0,0,0),v4.2.2.2),([(2,IntKind.i64.wrap xf.2.2.2.2.1,v3)]))
 else
 none
 else
 bif v4.1 == 1 then
 ob (dv xD 1 1) fun x518 =>
 ob (aJ 4 v3 0) fun x519 =>
 some (x518.1,(2,xB,x519,v0.2.2.2,v4.2.2.2.2),[])
 else
 bif v4.1 == 2 then
 ob (fo v5 v3 v0.1) fun x520 =>
 u2 k v0 xD v4.2.2.1 fun xW =>
 ob (aK xW.2) fun x522 =>
 bif !x522 then
 some (xW.1,(v4.1,xB,xW.2,v4.2.2.2),[])
 else
 bif xW.2.2.2.2.2.2.2 == 1 then
 some (xW.1,(4,xB,xW.2,v4.2.2.2),[])
 else
 bif v4.1 == 2 then
 bif decide (0 ≤ x520) then
 ob (aJ 2 x520 0) fun x523 =>
 some (xW.1,(3,xB,x523,v4.2.2.2),[])
 else
 bif decide (v4.2.2.2.1 ≤ 0) then
 ob (aJ 5 v3 0) fun x524 =>
 some (xW.1,(5,xB,x524,v4.2.2.2),[])
 else
 ob (aJ 4 v3 0) fun x525 =>
 some (xW.1,(2,xB,x525,(IntKind.i64.wrap (v4.2.2.2.1 - 1)),v4.2.2.2.2),[])
 else
 bif decide (v4.2.2.2.1 ≤ 0) then
 ob (aJ 5 v3 0) fun x526 =>
 some (xW.1,(5,xB,x526,v4.2.2.2),[])
 else
 ob (aJ 4 v3 0) fun x527 =>
 some (xW.1,(2,xB,x527,(IntKind.i64.wrap (v4.2.2.2.1 - 1)),v4.2.2.2.2),[])
 else
 bif v4.1 == 3 then
 ob (fo v5 v3 v0.1) fun x626 =>
 u2 k v0 xD v4.2.2.1 fun xZ =>
 ob (aK xZ.2) fun x628 =>
 bif !x628 then
 some (xZ.1,(v4.1,xB,xZ.2,v4.2.2.2),[])
 else
 bif xZ.2.2.2.2.2.2.2 == 1 then
 some (xZ.1,(4,xB,xZ.2,v4.2.2.2),[])
 else
 bif v4.1 == 2 then
 bif decide (0 ≤ x626) then
 ob (aJ 2 x626 0) fun x629 =>
 some (xZ.1,(3,xB,x629,v4.2.2.2),[])
 else
 bif decide (v4.2.2.2.1 ≤ 0) then
 ob (aJ 5 v3 0) fun x630 =>
 some (xZ.1,(5,xB,x630,v4.2.2.2),[])
 else
 ob (aJ 4 v3 0) fun x631 =>
 some (xZ.1,(2,xB,x631,(IntKind.i64.wrap (v4.2.2.2.1 - 1)),v4.2.2.2.2),[])
 else
 bif decide (v4.2.2.2.1 ≤ 0) then
 ob (aJ 5 v3 0) fun x632 =>
 some (xZ.1,(5,xB,x632,v4.2.2.2),[])
 else
 ob (aJ 4 v3 0) fun x633 =>
 some (xZ.1,(2,xB,x633,(IntKind.i64.wrap (v4.2.2.2.1 - 1)),v4.2.2.2.2),[])
 else
 bif v4.1 == 4 then
 ob (dv xD 1 18446744073709551615) fun x732 =>
 bif x732.2 == 1 then
 ob (aJ 6 v3 0) fun x733 =>
 ob (dF (k + 36) v1 xB (IntKind.i64.wrap v4.2.2.1.2.2.2.1)) fun x734 =>
 bif room 1 24 then
 some (x732.1,(14,x734,x733,v4.2.2.2),([(2,IntKind.i64.wrap v4.2.2.1.2.2.2.1,v3)]))
 else
 none
 else
 ob (dF (k + 36) v1 xB (IntKind.i64.wrap v4.2.2.1.2.2.2.1)) fun x735 =>
 bif room 1 24 then
 some (x732.1,(9,x735,(0,0,0,0,0,0,0),v4.2.2.2),([(2,IntKind.i64.wrap v4.2.2.1.2.2.2.1,v3)]))
 else
 none
 else
 bif v4.1 == 5 then
 u2 k v0 xD v4.2.2.1 fun x736 =>
 ob (aK x736.2) fun x737 =>
 some (x736.1,(6,xB,x736.2,v4.2.2.2),[])
 else
 bif v4.1 == 6 then
 ob (dv xD 1 18446744073709551615) fun x766 =>
 some (x766.1,(7,xB,v4.2.2.1,v4.2.2.2.1,0),[])
 else
 bif v4.1 == 7 then
 bif decide (v4.2.2.2.2 < 0) then
 some (xD,(8,xB,(v4.2.2.1.1,v4.2.2.1.2.1,v4.2.2.1.2.2.1,0,v4.2.2.1.2.2.2.2),v4.2.2.2.1,0),[])
 else
 bif decide (IntKind.i64.wrap (2 + IntKind.i64.wrap (2 * v0.1)) ≤ v4.2.2.2.2) then
 some (xD,(8,xB,(v4.2.2.1.1,v4.2.2.1.2.1,v4.2.2.1.2.2.1,0,v4.2.2.1.2.2.2.2),v4.2.2.2.1,0),[])
 else
 bif v4.2.2.2.2 == 0 then
 ob (aE xD 4) fun x767 =>
 bif IntKind.i64.wrap (v4.2.2.2.2 + 1) == IntKind.i64.wrap (2 + IntKind.i64.wrap (2 * v0.1)) then
 some (xD,(8,xB,(v4.2.2.1.1,v4.2.2.1.2.1,v4.2.2.1.2.2.1,0,v4.2.2.1.2.2.2.2),v4.2.2.2.1,0),[])
 else
 some (xD,(v4.1,xB,(v4.2.2.1.1,v4.2.2.1.2.1,v4.2.2.1.2.2.1,x767,v4.2.2.1.2.2.2.2),v4.2.2.2.1,(IntKind.i64.wrap (v4.2.2.2.2 + 1))),[])
 else
 bif v4.2.2.2.2 == 1 then
 ob (aE xD 5) fun x768 =>
 bif x768 != v4.2.2.1.2.2.2.1 then
 some (xD,(1,xB,(0,0,0,0,0,0,0),v4.2.2.2),[])
 else
 bif IntKind.i64.wrap (v4.2.2.2.2 + 1) == IntKind.i64.wrap (2 + IntKind.i64.wrap (2 * v0.1)) then
 some (xD,(8,xB,(v4.2.2.1.1,v4.2.2.1.2.1,v4.2.2.1.2.2.1,0,v4.2.2.1.2.2.2.2),v4.2.2.2.1,0),[])
 else
 some (xD,(v4.1,xB,v4.2.2.1,v4.2.2.2.1,(IntKind.i64.wrap (v4.2.2.2.2 + 1))),[])
 else
 bif v4.2.2.2.2.tmod 2 == 0 then
 ob (gp v0 (IntKind.i64.wrap ((IntKind.i64.wrap (v4.2.2.2.2 - 2)).tdiv 2))) fun x769 =>
 ob (aE xD x769) fun x770 =>
 bif IntKind.i64.wrap (v4.2.2.2.2 + 1) == IntKind.i64.wrap (2 + IntKind.i64.wrap (2 * v0.1)) then
 some (xD,(8,xB,(v4.2.2.1.1,v4.2.2.1.2.1,v4.2.2.1.2.2.1,0,v4.2.2.1.2.2.2.2),v4.2.2.2.1,0),[])
 else
 some (xD,(v4.1,xB,(v4.2.2.1.1,v4.2.2.1.2.1,v4.2.2.1.2.2.1,x770,v4.2.2.1.2.2.2.2),v4.2.2.2.1,(IntKind.i64.wrap (v4.2.2.2.2 + 1))),[])
 else
 ob (dc v0 (IntKind.i64.wrap ((IntKind.i64.wrap (v4.2.2.2.2 - 2)).tdiv 2))) fun x771 =>
 ob (aE xD x771) fun x772 =>
 ob (dS x772 v4.2.2.1.2.2.2.1) fun x773 =>
 bif decide (0 < x773) then
 some (xD,(1,xB,(0,0,0,0,0,0,0),v4.2.2.2),[])
 else
 bif IntKind.i64.wrap (v4.2.2.2.2 + 1) == IntKind.i64.wrap (2 + IntKind.i64.wrap (2 * v0.1)) then
 some (xD,(8,xB,(v4.2.2.1.1,v4.2.2.1.2.1,v4.2.2.1.2.2.1,0,v4.2.2.1.2.2.2.2),v4.2.2.2.1,0),[])
 else
 some (xD,(v4.1,xB,v4.2.2.1,v4.2.2.2.1,(IntKind.i64.wrap (v4.2.2.2.2 + 1))),[])
 else
 bif v4.1 == 8 then
 u2 k v0 xD v4.2.2.1 fun x774 =>
 ob (aK x774.2) fun x775 =>
 bif x775 then
 some (x774.1,(1,xB,(0,0,0,0,0,0,0),v4.2.2.2),[])
 else
 some (x774.1,(v4.1,xB,x774.2,v4.2.2.2),[])
 else
 bif v4.1 == 9 then
 ob (dY (k + 37) v1 xB) fun x804 =>
 bif x804.1 == 1 then
 ob (gg (k + 36) v1 xB) fun x805 =>
 some (xD,(v4.1,x805,v4.2.2),[])
 else
 bif x804.1 == 2 then
 some (xD,(10,xB,v4.2.2),[])
 else
 bif x804.1 == 3 then
 some (xD,(15,xB,v4.2.2),[])
 else
 ob (aJ 1 v3 0) fun x806 =>
 some (xD,(0,xB,x806,v4.2.2.2),[])
 else
 bif v4.1 == 10 then
 ob (dY (k + 37) v1 xB) fun x807 =>
 bif x807.1 != 2 then
 some (xD,(9,xB,(0,0,0,0,0,0,0),v4.2.2.2),[])
 else
 ob (dv xD 0 1) fun x808 =>
 bif room 1 24 then
 ob (gg (k + 36) v1 xB) fun x809 =>
 ob (aJ 0 v3 (IntKind.u64.wrap x807.2)) fun x810 =>
 some (x808.1,(11,x809,x810,v4.2.2.2),([(3,x807.2,v3)]))
 else
 none
 else
 bif v4.1 == 11 then
 u2 k v0 xD v4.2.2.1 fun xm =>
 ob (aK xm.2) fun x812 =>
 bif !x812 then
 some (xm.1,(v4.1,xB,xm.2,v4.2.2.2),[])
 else
 bif xm.2.2.2.2.2.2.2 == 2 then
 ob (aJ 3 v3 xm.2.2.2.2.1) fun x813 =>
 some (xm.1,(12,xB,x813,v4.2.2.2),[])
 else
 some (xm.1,(13,xB,(0,0,0,0,0,0,0),v4.2.2.2),[])
 else
 bif v4.1 == 12 then
 u2 k v0 xD v4.2.2.1 fun xg =>
 ob (aK xg.2) fun x857 =>
 bif !x857 then
 some (xg.1,(v4.1,xB,xg.2,v4.2.2.2),[])
 else
 bif xg.2.2.2.2.2.2.2 == 2 then
 ob (dF (k + 36) v1 xB (IntKind.i64.wrap xg.2.2.2.2.1)) fun x858 =>
 bif room 1 24 then
 some (xg.1,(9,x858,(0,0,0,0,0,0,0),v4.2.2.2),([(2,IntKind.i64.wrap xg.2.2.2.2.1,v3)]))
 else
 none
 else
 some (xg.1,(13,xB,(0,0,0,0,0,0,0),v4.2.2.2),[])
 else
 bif v4.1 == 13 then
 ob (aE xD 1) fun x901 =>
 bif x901 == 0 then
 ob (aJ 6 v3 0) fun x902 =>
 some (xD,(14,xB,x902,v4.2.2.2),[])
 else
 some (xD,(9,xB,(0,0,0,0,0,0,0),v4.2.2.2),[])
 else
 bif v4.1 == 14 then
 u2 k v0 xD v4.2.2.1 fun x903 =>
 ob (aK x903.2) fun x904 =>
 bif x904 then
 some (x903.1,(9,xB,(0,0,0,0,0,0,0),v4.2.2.2),[])
 else
 some (x903.1,(v4.1,xB,x903.2,v4.2.2.2),[])
 else
 bif v4.1 == 15 then
 ob (dY (k + 37) v1 xB) fun xx =>
 bif xx.1 != 3 then
 some (xD,(9,xB,(0,0,0,0,0,0,0),v4.2.2.2),[])
 else
 ob (dv xD 0 18446744073709551615) fun xy =>
 bif room 1 24 then
 bif xy.2 == 1 then
 bif room 2 24 then
 ob (gg (k + 36) v1 xB) fun x935 =>
 bif (↑x935.length : Int) == 0 then
 ob (aJ 1 v3 0) fun x936 =>
 some (xy.1,(0,x935,x936,v4.2.2.2),([(4,xx.2,v3),(5,0,v3)]))
 else
 some (xy.1,(9,x935,(0,0,0,0,0,0,0),v4.2.2.2),([(4,xx.2,v3),(5,0,v3)]))
 else
 none
 else
 ob (gg (k + 36) v1 xB) fun x937 =>
 bif (↑x937.length : Int) == 0 then
 ob (aJ 1 v3 0) fun x938 =>
 some (xy.1,(0,x937,x938,v4.2.2.2),([(4,xx.2,v3)]))
 else
 some (xy.1,(9,x937,(0,0,0,0,0,0,0),v4.2.2.2),([(4,xx.2,v3)]))
 else
 none
 else
 none
theorem wy (k : Nat) (v0_0 v0_1 v0_2 v0_3 : Int) (v1 : List (Int × List Int)) (v2 : List Int) (v3 v4_0 : Int) (v4_1 : List (Int × Int × Int)) (v4_2_0 v4_2_1 v4_2_2 v4_2_3 v4_2_4 v4_2_5 v4_2_6 v4_3 v4_4 v5 : Int) : xC (k + 60) none 83 [.agg [.lit (.int .i64 v0_0),.lit (.int .i64 v0_1),.lit (.int .i64 v0_2),.lit (.int .i64 v0_3)],.ro (List.map ao v1),.ro (List.map (aG .u64) v2),.lit (.int .i64 v3),.agg [.lit (.int .i64 v4_0),.ro (List.map aX v4_1),.lit (.int .i64 v4_2_0),.lit (.int .i64 v4_2_1),.lit (.int .i64 v4_2_2),.lit (.int .u64 v4_2_3),.lit (.int .u64 v4_2_4),.lit (.int .u64 v4_2_5),.lit (.int .i64 v4_2_6),.lit (.int .i64 v4_3),.lit (.int .i64 v4_4)],.lit (.int .u64 v5)] = ob (gW k (v0_0,v0_1,v0_2,v0_3) v1 v2 v3 (v4_0,v4_1,(v4_2_0,v4_2_1,v4_2_2,v4_2_3,v4_2_4,v4_2_5,v4_2_6),v4_3,v4_4) v5) fun r => some ((.tup [.ro (List.map (aG .u64) r.1),.agg [.lit (.int .i64 r.2.1.1),.ro (List.map aX r.2.1.2.1),.lit (.int .i64 r.2.1.2.2.1.1),.lit (.int .i64 r.2.1.2.2.1.2.1),.lit (.int .i64 r.2.1.2.2.1.2.2.1),.lit (.int .u64 r.2.1.2.2.1.2.2.2.1),.lit (.int .u64 r.2.1.2.2.1.2.2.2.2.1),.lit (.int .u64 r.2.1.2.2.1.2.2.2.2.2.1),.lit (.int .i64 r.2.1.2.2.1.2.2.2.2.2.2),.lit (.int .i64 r.2.1.2.2.2.1),.lit (.int .i64 r.2.1.2.2.2.2)],.ro (List.map aX r.2.2)]),[]) := by
  rw [aH]
  unfold gW u2
  simp (maxSteps := 2000000) -implicitDefEqProofs only [aik,ahA,agx,ZB,aeu,aaZ,aez,Yv,Ox,wC,afk,aat,Og,AW,aeP,aax,aeO,aaC,afI,aaT,OR,OA,As,Ak,adM,Z0,adX,abh,adI,abF,aeq,aaI,adH,ZX,ae5,aah,ad6,aaH,afE,aaw,LG,AX,aeV,YQ,My,Lo,AK,wB,afc,ab8,afz,aa5,afq,abl,agZ,ZS,agV,ZV,↓syP,syA,syD,simprocAttr,syE,ah,ag,ae,syW,xQ,b9,Bv,mh,eZ,kw,eS,f7,C6,uy,pK,F3,uw,Kb,Cm,BP]
  all_goals simp -implicitDefEqProofs only [List.map_nil]
end Go.Ab
