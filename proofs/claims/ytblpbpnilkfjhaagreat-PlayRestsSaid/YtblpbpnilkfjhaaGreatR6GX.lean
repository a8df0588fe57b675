import Derived.Test.YtblpbpnilkfjhaaGreatR6Run
import Derived.Test.YtblpbpnilkfjhaaGreatR6Facts
import Derived.Test.YtblpbpnilkfjhaaGreatR6Man
import Derived.Test.YtblpbpnilkfjhaaGreatR6BY
import Derived.Test.YtblpbpnilkfjhaaGreatR6BX
import Derived.Test.YtblpbpnilkfjhaaGreatR6B3
import Derived.Test.YtblpbpnilkfjhaaGreatR6B4
import Derived.Test.YtblpbpnilkfjhaaGreatR6B5
import Derived.Test.YtblpbpnilkfjhaaGreatR6BW
set_option linter.unusedVariables false
set_option linter.unusedSimpArgs false
set_option maxRecDepth 100000
set_option linter.unusedVariables false
set_option linter.unusedSimpArgs false
namespace Go.Ab
open Go.Proofs
def bJ (k:Nat) (v0:Tyt)  : Nat→Int→Option Bool
 | 0,_=>none
 | n+1,s3=>
 bif decide (s3<(↑v0.length:Int)) then
 bif decide (s3≤(40:Int)) then
 ob (idx v0 s3) fun x6=>
 bif decide ((40:Int)<(↑x6.2.length:Int)) then
 some (false)
 else
 bJ k v0  n (IntKind.i64.wrap (s3+(1:Int)))
 else
 some (decide ((↑v0.length:Int)≤(40:Int)))
 else
 some (decide ((↑v0.length:Int)≤(40:Int)))
theorem lV (k:Nat) (v0:Tyt):∀ (n:Nat) (s3:Int),rt none (itX (xX (xS k) 21 0 k false) rX (0) (au (xX (xS k) 21 0 k false) (ap (xS k).P Tryz.f21) Iz) n ⟨[.ro (List.map an v0),uu,.lit (.bool false),.lit (.int .i64 s3),.junk,.junk,.junk,.junk,.junk,.junk,.junk,.junk,.junk,.junk,.junk,.junk,.junk,.junk,.junk,.junk,.junk,uu,uu,uu],[]⟩)=ob (bJ k v0  n s3) fun r=>some ((.lit (.bool r)),[]):=by
 intro n
 induction n with
 | zero=>intros;rfl
 | succ n ih=>
  intro s3
  rw [bJ]
  simp (maxSteps:=2000000) -implicitDefEqProofs only [ajz,aiK,aff,Lv,La,rr,rB,↓syP,syA,syD,simprocAttr,syE,ah,ag,ae,syW,xQ,SX,ih]
def dx (k:Nat) (v0:Tyt):Option Bool:=
 bJ k v0 k 0
theorem oT (k:Nat) (v0:Tyt):xC (k+1) none 21 [.ro (List.map an v0)]=ob (dx k v0) fun r=>some ((.lit (.bool r)),[]):=by
 rw [aH]
 unfold dx
 simp (maxSteps:=2000000) -implicitDefEqProofs only [ajz,aiK,aff,Lv,La,rr,rB,↓syP,syA,syD,simprocAttr,syE,ah,ag,ae,syW,xQ,lV k v0]
def fN (v0:(Int×List Int)):Option Bool:=
 bif decide (v0.1<0) then
 some true
 else
 some (decide (20<v0.1))
theorem Az (k:Nat) (v0_0:Int) (v0_1:List Int):xC (k+1) none 99 [.agg [.lit (.int .i64 v0_0),.ro (List.map (aF .i64) v0_1)]]=ob (fN (v0_0,v0_1)) fun r=>some ((.lit (.bool r)),[]):=by
 rw [aH]
 unfold fN
 simp (maxSteps:=2000000) -implicitDefEqProofs only [aew,ZR,DN,lg,↓syP,syA,syD,simprocAttr,syE,ah,ag,ae,syW,xQ]
def aE (k:Nat) (v0:Tyt)  : Nat→Int→Option Int
 | 0,_=>none
 | n+1,sT=>
 bif decide (sT<(↑v0.length:Int)) then
 ob (idx v0 sT) fun x17=>
 ob (fN (x17.1,x17.2)) fun x18=>
 bif x18 then
 some (sT)
 else
 aE k v0  n (IntKind.i64.wrap (sT+(1:Int)))
 else
 some ((-1:Int))
theorem dO (k:Nat) (v0:Tyt):∀ (n:Nat) (sT:Int) ⦃j11:V⦄,rt none (itX (xX (xS (k+8)) 147 0 (k+8) false) Da (0) (au (xX (xS (k+8)) 147 0 (k+8) false) (ap (xS (k+8)).P Tryz.f147) Cp) n ⟨[.ro (List.map an v0),.fn (Fn.func (99:FuncId)) [] [],uu,uu,.lit (.int .i64 (0:Int)),j11,.ro (List.map an v0),.lit (.int .i64 (↑v0.length:Int)),.lit (.int .i64 sT),.junk,.junk,.junk,.junk,.junk,.junk,.junk,.junk,.junk,.junk],[]⟩)=ob (aE k v0  n sT) fun r=>some ((.lit (.int .i64 r)),[]):=by
 intro n
 induction n with
 | zero=>intros;rfl
 | succ n ih=>
  intro sT j11
  rw [aE]
  simp (maxSteps:=2000000) -implicitDefEqProofs only [Kc,GF,FQ,nC,fW,↓syP,syA,syD,simprocAttr,syE,ah,ag,ae,syW,xQ,Az,N6,ih]
def be (k:Nat) (v0:Tyt):Option Int:=
 aE k v0 (k+8) 0
theorem eV (k:Nat) (v0:Tyt):xC (k+9) none 147 [.ro (List.map an v0),.fn (Fn.func (99:FuncId)) [] []]=ob (be k v0) fun r=>some ((.lit (.int .i64 r)),[]):=by
 rw [aH]
 unfold be
 simp (maxSteps:=2000000) -implicitDefEqProofs only [Kc,GF,FQ,nC,fW,↓syP,syA,syD,simprocAttr,syE,ah,ag,ae,syW,xQ,dO k v0]
def aT (k:Nat) (v0:Tyt):Option Bool:=
 ob (be (k+8) v0) fun x20=>
 some (decide (0≤x20))
theorem bu (k:Nat) (v0:Tyt):xC (k+18) none 98 [.ro (List.map an v0),.fn (Fn.func (99:FuncId)) [] []]=ob (aT k v0) fun r=>some ((.lit (.bool r)),[]):=by
 rw [aH]
 unfold aT
 simp (maxSteps:=2000000) -implicitDefEqProofs only [aef,abE,Kc,GF,FQ,nC,fW,↓syP,syA,syD,simprocAttr,syE,ah,ag,ae,syW,xQ,eV]
def dh (k:Nat) (v0:Tyt) (o0:Int→List Bool→Option Bool):Nat→List Int→Int→Int→List Bool→Int→Option Bool
 | 0,_,_,_,_,_=>none
 | n+1,sO,sb,sZ,sU,sP=>
 bif decide (sZ<sb) then
 ob (idx sO sZ) fun xP=>
 bif decide (xP≤sP) then
 some (false)
 else
 bif decide ((↑v0.length:Int)≤xP) then
 some (false)
 else
 bif decide ((0:Int)≤xP∧xP.toNat<v0.length) then
 ob (sU[xP.toNat]?) fun xN=>
 bif xN then
 some (false)
 else
 bif decide ((0:Int)≤xP∧xP.toNat<v0.length) then
 ob (sU[xP.toNat]?) fun x64=>
 dh k v0 o0 n (sO) (sb) (IntKind.i64.wrap (sZ+(1:Int))) (sU.set xP.toNat true) (sP)
 else
 none
 else
 none
 else
 o0 (IntKind.i64.wrap (sP+(1:Int))) (sU)
theorem pb (k:Nat) (v0:Tyt) (n23:Nat) (o0:Int→List Bool→Option Bool) (ho0:∀ (sF:Int) (sI:List Bool) ⦃sM:Bool⦄ ⦃j40 j41 j50:V⦄,rt none (bq (itX (xX (xS (k+17)) 148 0 (k+17) false) kN (7) (au (xX (xS (k+17)) 148 0 (k+17) false) (ap (xS (k+17)).P Tryz.f148) mc) n23 ⟨[.yld 6,.ptr 5 0 0 0,uu,j40,j41,uu,j50,.ro (List.map an v0),.lit (.int .i64 (↑v0.length:Int)),.lit (.int .i64 sF),.junk,.junk,.junk,.junk,.junk,.junk,.junk,.junk,.junk,.junk,.junk,.junk,.junk,.junk,.junk,.junk,.junk,.junk],[.box [.ro (List.map an v0)],.box [.lit (.bool false)],.rows 1 (List.map mC sI) 0 true,.rows 0 [] 0 true,.box [.own 2 0 v0.length],.box [.ro (List.map an v0)],(.loop ⟨LoopState.ready,none,56,[.ro (List.map an v0),.ptr 0 0 0 0,.ptr 1 0 0 0,.ptr 4 0 0 0,uu,uu,.ro (List.map an v0),.lit (.int .i64 (↑v0.length:Int)),.lit (.bool (decide ((30:Int)<(↑v0.length:Int)))),.lit (.bool false),.ro (List.map an v0),.lit (.bool sM),.lit (.bool sM),.ro (List.map an v0),.lit (.int .i64 (↑v0.length:Int)),.own 2 0 v0.length,.ro (List.map an v0),.fn (Fn.func (148:FuncId)) [] [.ptr 5 0 0 0],uu,uu,uu,uu,uu,uu,uu,uu,uu,uu,uu,uu,uu,uu,uu,uu,uu,uu,uu,uu],[(18:Tmp),(19:Tmp)],D1,Ea⟩)]⟩) (rfK (au (xX (xS (k+18)) 56 0 (k+18) false) (ap (xS (k+18)).P Tryz.f56) AZ) [.ro (List.map an v0),.ptr 0 0 0 0,.ptr 1 0 0 0,.ptr 4 0 0 0,uu,uu,.ro (List.map an v0),.lit (.int .i64 (↑v0.length:Int)),.lit (.bool (decide ((30:Int)<(↑v0.length:Int)))),.lit (.bool false),.ro (List.map an v0),.lit (.bool sM),.lit (.bool sM),.ro (List.map an v0),.lit (.int .i64 (↑v0.length:Int)),.own 2 0 v0.length,.ro (List.map an v0),.fn (Fn.func (148:FuncId)) [] [.ptr 5 0 0 0],uu,uu,uu,uu,uu,uu,uu,uu,uu,uu,uu,uu,uu,uu,uu,uu,uu,uu,uu,uu] (6)))=ob (o0 sF sI) fun r=>some ((.lit (.bool r)),[])):∀ (n:Nat) (sO:List Int) (sb sZ:Int) (sU:List Bool) (sP:Int) ⦃sg:Int⦄ ⦃se si:Bool⦄ ⦃j37:V⦄,rt none (bq (itX (xX (xS (k+17)) 148 0 (k+17) false) us (9) (au (xX (xS (k+17)) 148 0 (k+17) false) (eq (xX (xS (k+17)) 148 0 (k+17) false) kN 7 (au (xX (xS (k+17)) 148 0 (k+17) false) (ap (xS (k+17)).P Tryz.f148) mc) n23) uM) n ⟨[.yld 6,.ptr 5 0 0 0,uu,.lit (.int .i64 sP),.ptr 8 0 0 0,uu,j37,.ro (List.map an v0),.lit (.int .i64 (↑v0.length:Int)),.lit (.int .i64 sP),.lit (.bool si),.lit (.int .i64 sP),.rp [.lit (.int .i64 sg),.ro (List.map (aF IntKind.i64) sO)],.agg [.lit (.int .i64 sg),.ro (List.map (aF IntKind.i64) sO)],.ptr 8 0 0 1,.ro (List.map (aF IntKind.i64) sO),.lit (.int .i64 sb),.lit (.int .i64 sZ),.junk,.junk,.junk,.junk,.junk,.junk,.junk,.junk,.junk,.junk],[.box [.ro (List.map an v0)],.box [.lit (.bool false)],.rows 1 (List.map mC sU) 0 true,.rows 0 [] 0 true,.box [.own 2 0 v0.length],.box [.ro (List.map an v0)],(.loop ⟨LoopState.ready,none,56,[.ro (List.map an v0),.ptr 0 0 0 0,.ptr 1 0 0 0,.ptr 4 0 0 0,uu,uu,.ro (List.map an v0),.lit (.int .i64 (↑v0.length:Int)),.lit (.bool (decide ((30:Int)<(↑v0.length:Int)))),.lit (.bool false),.ro (List.map an v0),.lit (.bool se),.lit (.bool se),.ro (List.map an v0),.lit (.int .i64 (↑v0.length:Int)),.own 2 0 v0.length,.ro (List.map an v0),.fn (Fn.func (148:FuncId)) [] [.ptr 5 0 0 0],uu,uu,uu,uu,uu,uu,uu,uu,uu,uu,uu,uu,uu,uu,uu,uu,uu,uu,uu,uu],[(18:Tmp),(19:Tmp)],D1,Ea⟩),.rows 0 [] 0 true,.box [.lit (.int .i64 sg),.ro (List.map (aF IntKind.i64) sO)]]⟩) (rfK (au (xX (xS (k+18)) 56 0 (k+18) false) (ap (xS (k+18)).P Tryz.f56) AZ) [.ro (List.map an v0),.ptr 0 0 0 0,.ptr 1 0 0 0,.ptr 4 0 0 0,uu,uu,.ro (List.map an v0),.lit (.int .i64 (↑v0.length:Int)),.lit (.bool (decide ((30:Int)<(↑v0.length:Int)))),.lit (.bool false),.ro (List.map an v0),.lit (.bool se),.lit (.bool se),.ro (List.map an v0),.lit (.int .i64 (↑v0.length:Int)),.own 2 0 v0.length,.ro (List.map an v0),.fn (Fn.func (148:FuncId)) [] [.ptr 5 0 0 0],uu,uu,uu,uu,uu,uu,uu,uu,uu,uu,uu,uu,uu,uu,uu,uu,uu,uu,uu,uu] (6)))=ob (dh k v0 o0 n sO sb sZ sU sP) fun r=>some ((.lit (.bool r)),[]):=by
 intro n
 induction n with
 | zero=>intros;rfl
 | succ n ih=>
  intro sO sb sZ sU sP sg se si j37
  rw [dh]
  simp (maxSteps:=2000000) -implicitDefEqProofs only [ae4,aej,aem,Ja,H3,eN,eL,IW,HC,m6,nm,nn,uC,aef,abE,aew,ZR,DN,lg,Jj,Gn,aH (g:=100),Kc,GF,FQ,nC,fW,Jh,GE,Fy,nV,nQ,fT,fZ,↓syP,syA,syD,simprocAttr,syE,ah,ag,ae,syW,xQ,bu,Gr,ih,ho0]
def cq (k:Nat) (v0:Tyt)  : Nat→Int→List Bool→Option Bool
 | 0,_,_=>none
 | n+1,sF,sI=>
 bif decide (sF<(↑v0.length:Int)) then
 ob (idx v0 sF) fun x58=>
 dh k v0 (fun sF sI=>cq k v0  n sF sI) (k+17) (x58.2) ((↑x58.2.length:Int)) ((0:Int)) (sI) (sF)
 else
 some (true)
theorem pd (k:Nat) (v0:Tyt):∀ (n:Nat) (sF:Int) (sI:List Bool) ⦃sM:Bool⦄ ⦃j40 j41 j50:V⦄,rt none (bq (itX (xX (xS (k+17)) 148 0 (k+17) false) kN (7) (au (xX (xS (k+17)) 148 0 (k+17) false) (ap (xS (k+17)).P Tryz.f148) mc) n ⟨[.yld 6,.ptr 5 0 0 0,uu,j40,j41,uu,j50,.ro (List.map an v0),.lit (.int .i64 (↑v0.length:Int)),.lit (.int .i64 sF),.junk,.junk,.junk,.junk,.junk,.junk,.junk,.junk,.junk,.junk,.junk,.junk,.junk,.junk,.junk,.junk,.junk,.junk],[.box [.ro (List.map an v0)],.box [.lit (.bool false)],.rows 1 (List.map mC sI) 0 true,.rows 0 [] 0 true,.box [.own 2 0 v0.length],.box [.ro (List.map an v0)],(.loop ⟨LoopState.ready,none,56,[.ro (List.map an v0),.ptr 0 0 0 0,.ptr 1 0 0 0,.ptr 4 0 0 0,uu,uu,.ro (List.map an v0),.lit (.int .i64 (↑v0.length:Int)),.lit (.bool (decide ((30:Int)<(↑v0.length:Int)))),.lit (.bool false),.ro (List.map an v0),.lit (.bool sM),.lit (.bool sM),.ro (List.map an v0),.lit (.int .i64 (↑v0.length:Int)),.own 2 0 v0.length,.ro (List.map an v0),.fn (Fn.func (148:FuncId)) [] [.ptr 5 0 0 0],uu,uu,uu,uu,uu,uu,uu,uu,uu,uu,uu,uu,uu,uu,uu,uu,uu,uu,uu,uu],[(18:Tmp),(19:Tmp)],D1,Ea⟩)]⟩) (rfK (au (xX (xS (k+18)) 56 0 (k+18) false) (ap (xS (k+18)).P Tryz.f56) AZ) [.ro (List.map an v0),.ptr 0 0 0 0,.ptr 1 0 0 0,.ptr 4 0 0 0,uu,uu,.ro (List.map an v0),.lit (.int .i64 (↑v0.length:Int)),.lit (.bool (decide ((30:Int)<(↑v0.length:Int)))),.lit (.bool false),.ro (List.map an v0),.lit (.bool sM),.lit (.bool sM),.ro (List.map an v0),.lit (.int .i64 (↑v0.length:Int)),.own 2 0 v0.length,.ro (List.map an v0),.fn (Fn.func (148:FuncId)) [] [.ptr 5 0 0 0],uu,uu,uu,uu,uu,uu,uu,uu,uu,uu,uu,uu,uu,uu,uu,uu,uu,uu,uu,uu] (6)))=ob (cq k v0  n sF sI) fun r=>some ((.lit (.bool r)),[]):=by
 intro n
 induction n with
 | zero=>intros;rfl
 | succ n ih=>
  intro sF sI sM j40 j41 j50
  rw [cq]
  simp (maxSteps:=2000000) -implicitDefEqProofs only [ae4,aej,aem,Ja,H3,eN,eL,IW,HC,m6,nm,nn,uC,aef,abE,aew,ZR,DN,lg,Jj,Gn,aH (g:=100),Kc,GF,FQ,nC,fW,Jh,GE,Fy,nV,nQ,fT,fZ,↓syP,syA,syD,simprocAttr,syE,ah,ag,ae,syW,xQ,bu,FE,ih,pb k v0 _ (fun sF sI=>cq k v0  n sF sI) ih]
def dc (k:Nat) (v0:Tyt):Option Bool:=
 bif decide (30<(↑v0.length:Int)) then
 some false
 else
 ob (aT k v0) fun xc=>
 bif xc then
 some false
 else
 bif decide (0≤(↑v0.length:Int)∧(↑v0.length:Int)≤9223372036854775807∧(↑v0.length:Int)*1≤70368744177664) then
 cq k v0 (k+17) 0 (List.replicate v0.length false)
 else
 none
theorem da (k:Nat) (v0:Tyt):xC (k+19) none 56 [.ro (List.map an v0)]=ob (dc k v0) fun r=>some ((.lit (.bool r)),[]):=by
 rw [aH]
 unfold dc
 simp (maxSteps:=2000000) -implicitDefEqProofs only [ae4,aej,aem,Ja,H3,eN,eL,IW,HC,m6,nm,nn,uC,aef,abE,aew,ZR,DN,lg,Jj,Gn,aH (g:=100),Kc,GF,FQ,nC,fW,Jh,GE,Fy,nV,nQ,fT,fZ,↓syP,syA,syD,simprocAttr,syE,ah,ag,ae,syW,xQ,bu,pd k v0]
def bK (k : Nat) (v0 : (List Int)) (v1 : (List Int))  : Nat → Int → Option Bool
 | 0,_ => none
 | n + 1,sV =>
 bif decide (sV < (↑v0.length : Int)) then
 ob (idx v0 sV) fun x79 =>
 ob (idx v1 sV) fun x80 =>
 bif x79 != x80 then
 some (false)
 else
 bK k v0 v1  n (IntKind.i64.wrap (sV + (1 : Int)))
 else
 some (true)
theorem lz (k:Nat) (v0 v1:List Int):∀ (n:Nat) (sV:Int) ⦃j73:V⦄,rt none (itX (xX (xS k) 91 0 k false) IA (0) (au (xX (xS k) 91 0 k false) (ap (xS k).P Tryz.f91) Jf) n ⟨[.ro (List.map (aF IntKind.i64) v0),.ro (List.map (aF IntKind.i64) v1),uu,uu,.lit (.bool false),j73,.ro (List.map (aF IntKind.i64) v0),.lit (.int .i64 (↑v0.length:Int)),.ro (List.map (aF IntKind.i64) v1),.lit (.int .i64 (↑v1.length:Int)),.lit (.bool ((↑v0.length:Int)!=(↑v1.length:Int))),.ro (List.map (aF IntKind.i64) v0),.lit (.int .i64 (↑v0.length:Int)),.lit (.int .i64 sV),.junk,.junk,.junk,.junk,.junk,.junk,.junk,.junk,.junk,.junk,.junk,.junk],[]⟩)=ob (bK k v0 v1  n sV) fun r=>some ((.lit (.bool r)),[]):=by
 intro n
 induction n with
 | zero=>intros;rfl
 | succ n ih=>
  intro sV j73
  rw [bK]
  simp (maxSteps:=2000000) -implicitDefEqProofs only [ajn,agp,aiS,KU,pQ,↓syP,syA,syD,simprocAttr,syE,ah,ag,ae,syW,xQ,Tg,ih]
def cL (k:Nat) (v0:(List Int)) (v1:(List Int)):Option Bool:=
 bif (↑v0.length:Int)!=(↑v1.length:Int) then
 some false
 else
 bK k v0 v1 k 0
theorem kV (k:Nat) (v0 v1:List Int):xC (k+1) none 91 [.ro (List.map (aF .i64) v0),.ro (List.map (aF .i64) v1)]=ob (cL k v0 v1) fun r=>some ((.lit (.bool r)),[]):=by
 rw [aH]
 unfold cL
 simp (maxSteps:=2000000) -implicitDefEqProofs only [ajn,agp,aiS,KU,pQ,↓syP,syA,syD,simprocAttr,syE,ah,ag,ae,syW,xQ,lz k v0 v1]
def gh (k:Nat) (v0:(Int×List Int)) (v1:(Int×List Int)):Option Bool:=
 bif v0.1==v1.1 then
 ob (cL k v0.2 v1.2) fun x82=>
 some x82
 else
 some false
theorem uB (k:Nat) (v0_0:Int) (v0_1:List Int) (v1_0:Int) (v1_1:List Int):xC (k+2) none 90 [.agg [.lit (.int .i64 v0_0),.ro (List.map (aF .i64) v0_1)],.agg [.lit (.int .i64 v1_0),.ro (List.map (aF .i64) v1_1)]]=ob (gh k (v0_0,v0_1) (v1_0,v1_1)) fun r=>some ((.lit (.bool r)),[]):=by
 rw [aH]
 unfold gh
 simp (maxSteps:=2000000) -implicitDefEqProofs only [ai7,af0,Lj,ri,↓syP,syA,syD,simprocAttr,syE,ah,ag,ae,syW,xQ,kV]
def az (k:Nat) (v0:Tyt) (v1:Tyt)  : Nat→Int→Option Bool
 | 0,_=>none
 | n+1,sW=>
 bif decide (sW<(↑v0.length:Int)) then
 ob (idx v0 sW) fun x96=>
 ob (idx v1 sW) fun xv=>
 ob (gh (k+6) (x96.1,x96.2) (xv.1,xv.2)) fun x98=>
 bif !x98 then
 some (false)
 else
 az k v0 v1  n (IntKind.i64.wrap (sW+(1:Int)))
 else
 some (true)
theorem dK (k:Nat) (v0 v1:Tyt):∀ (n:Nat) (sW:Int) ⦃j87 j88:V⦄,rt none (itX (xX (xS (k+8)) 89 0 (k+8) false) Ie (0) (au (xX (xS (k+8)) 89 0 (k+8) false) (ap (xS (k+8)).P Tryz.f89) HV) n ⟨[.ro (List.map an v0),.ro (List.map an v1),.fn (Fn.func (90:FuncId)) [] [],uu,uu,uu,.lit (.bool false),j87,j88,j88,.ro (List.map an v0),.lit (.int .i64 (↑v0.length:Int)),.ro (List.map an v1),.lit (.int .i64 (↑v1.length:Int)),.lit (.bool ((↑v0.length:Int)!=(↑v1.length:Int))),.ro (List.map an v0),.lit (.int .i64 (↑v0.length:Int)),.lit (.int .i64 sW),.junk,.junk,.junk,.junk,.junk,.junk,.junk,.junk,.junk,.junk,.junk,.junk,.junk,.junk],[]⟩)=ob (az k v0 v1  n sW) fun r=>some ((.lit (.bool r)),[]):=by
 intro n
 induction n with
 | zero=>intros;rfl
 | succ n ih=>
  intro sW j87 j88
  rw [az]
  simp (maxSteps:=2000000) -implicitDefEqProofs only [afZ,aez,aeA,IQ,nh,↓syP,syA,syD,simprocAttr,syE,ah,ag,ae,syW,xQ,uB,Ul,ih]
def ba (k:Nat) (v0:Tyt) (v1:Tyt):Option Bool:=
 bif (↑v0.length:Int)!=(↑v1.length:Int) then
 some false
 else
 az k v0 v1 (k+8) 0
theorem eS (k:Nat) (v0 v1:Tyt):xC (k+9) none 89 [.ro (List.map an v0),.ro (List.map an v1),.fn (Fn.func (90:FuncId)) [] []]=ob (ba k v0 v1) fun r=>some ((.lit (.bool r)),[]):=by
 rw [aH]
 unfold ba
 simp (maxSteps:=2000000) -implicitDefEqProofs only [afZ,aez,aeA,IQ,nh,↓syP,syA,syD,simprocAttr,syE,ah,ag,ae,syW,xQ,dK k v0 v1]
def gF (k:Nat) (v0:Tyt) (v1:Tyt):Option Bool:=
 ob (ba k v0 v1) fun xq=>
 some xq
theorem CA (k:Nat) (v0 v1:Tyt):xC (k+10) none 44 [.ro (List.map an v0),.ro (List.map an v1)]=ob (gF k v0 v1) fun r=>some ((.lit (.bool r)),[]):=by
 rw [aH]
 unfold gF
 simp (maxSteps:=2000000) -implicitDefEqProofs only [aj2,ajb,afZ,aez,aeA,IQ,nh,ai7,af0,Lj,ri,↓syP,syA,syD,simprocAttr,syE,ah,ag,ae,syW,xQ,eS]
def cp (k:Nat) (v0:Tyt) (v1:Int) (o0:Int→Option Int):Nat→List Int→Int→Int→Int→Option Int
 | 0,_,_,_,_=>none
 | n+1,sG,sE,sC,sH=>
 bif decide (sC<sE) then
 ob (idx sG sC) fun x137=>
 bif x137==v1 then
 some (sH)
 else
 cp k v0 v1 o0 n (sG) (sE) (IntKind.i64.wrap (sC+(1:Int))) (sH)
 else
 o0 (IntKind.i64.wrap (sH+(1:Int)))
theorem mQ (k:Nat) (v0:Tyt) (v1:Int) (n108:Nat) (o0:Int→Option Int) (ho0:∀ (sD:Int) ⦃sR:Bool⦄ ⦃j122 j123 j130:V⦄,rt none (bq (itX (xX (xS (k+18)) 148 0 (k+18) false) kN (4) (au (xX (xS (k+18)) 148 0 (k+18) false) (ap (xS (k+18)).P Tryz.f148) mc) n108 ⟨[.yld 3,.ptr 2 0 0 0,uu,j122,j123,uu,j130,.ro (List.map an v0),.lit (.int .i64 (↑v0.length:Int)),.lit (.int .i64 sD),.junk,.junk,.junk,.junk,.junk,.junk,.junk,.junk,.junk,.junk,.junk,.junk,.junk,.junk,.junk,.junk,.junk,.junk],[.box [.lit (.int .i64 v1)],.box [.lit (.int .i64 (0:Int))],.box [.ro (List.map an v0)],(.loop ⟨LoopState.ready,none,101,[.ro (List.map an v0),.lit (.int .i64 v1),uu,.ptr 0 0 0 0,.ptr 1 0 0 0,uu,uu,.ro (List.map an v0),.lit (.bool sR),.ro (List.map an v0),.fn (Fn.func (148:FuncId)) [] [.ptr 2 0 0 0],uu,uu,uu,uu,uu,uu],[(11:Tmp),(12:Tmp)],uV,wc⟩)]⟩) (rfK (au (xX (xS (k+19)) 101 0 (k+19) false) (ap (xS (k+19)).P Tryz.f101) pR) [.ro (List.map an v0),.lit (.int .i64 v1),uu,.ptr 0 0 0 0,.ptr 1 0 0 0,uu,uu,.ro (List.map an v0),.lit (.bool sR),.ro (List.map an v0),.fn (Fn.func (148:FuncId)) [] [.ptr 2 0 0 0],uu,uu,uu,uu,uu,uu] (3)))=ob (o0 sD) fun r=>some ((.lit (.int .i64 r)),[])):∀ (n:Nat) (sG:List Int) (sE sC sH:Int) ⦃sd:Int⦄ ⦃sf sh:Bool⦄ ⦃j120:V⦄,rt none (bq (itX (xX (xS (k+18)) 148 0 (k+18) false) us (6) (au (xX (xS (k+18)) 148 0 (k+18) false) (eq (xX (xS (k+18)) 148 0 (k+18) false) kN 4 (au (xX (xS (k+18)) 148 0 (k+18) false) (ap (xS (k+18)).P Tryz.f148) mc) n108) uM) n ⟨[.yld 3,.ptr 2 0 0 0,uu,.lit (.int .i64 sH),.ptr 5 0 0 0,uu,j120,.ro (List.map an v0),.lit (.int .i64 (↑v0.length:Int)),.lit (.int .i64 sH),.lit (.bool sh),.lit (.int .i64 sH),.rp [.lit (.int .i64 sd),.ro (List.map (aF IntKind.i64) sG)],.agg [.lit (.int .i64 sd),.ro (List.map (aF IntKind.i64) sG)],.ptr 5 0 0 1,.ro (List.map (aF IntKind.i64) sG),.lit (.int .i64 sE),.lit (.int .i64 sC),.junk,.junk,.junk,.junk,.junk,.junk,.junk,.junk,.junk,.junk],[.box [.lit (.int .i64 v1)],.box [.lit (.int .i64 (0:Int))],.box [.ro (List.map an v0)],(.loop ⟨LoopState.ready,none,101,[.ro (List.map an v0),.lit (.int .i64 v1),uu,.ptr 0 0 0 0,.ptr 1 0 0 0,uu,uu,.ro (List.map an v0),.lit (.bool sf),.ro (List.map an v0),.fn (Fn.func (148:FuncId)) [] [.ptr 2 0 0 0],uu,uu,uu,uu,uu,uu],[(11:Tmp),(12:Tmp)],uV,wc⟩),.rows 0 [] 0 true,.box [.lit (.int .i64 sd),.ro (List.map (aF IntKind.i64) sG)]]⟩) (rfK (au (xX (xS (k+19)) 101 0 (k+19) false) (ap (xS (k+19)).P Tryz.f101) pR) [.ro (List.map an v0),.lit (.int .i64 v1),uu,.ptr 0 0 0 0,.ptr 1 0 0 0,uu,uu,.ro (List.map an v0),.lit (.bool sf),.ro (List.map an v0),.fn (Fn.func (148:FuncId)) [] [.ptr 2 0 0 0],uu,uu,uu,uu,uu,uu] (3)))=ob (cp k v0 v1 o0 n sG sE sC sH) fun r=>some ((.lit (.int .i64 r)),[]):=by
 intro n
 induction n with
 | zero=>intros;rfl
 | succ n ih=>
  intro sG sE sC sH sd sf sh j120
  rw [cp]
  simp (maxSteps:=2000000) -implicitDefEqProofs only [Jj,Gn,aH (g:=100),Vl,RT,PX,C1,ep,eu,mi,pw,Jh,GE,Fy,nV,nQ,fT,fZ,↓syP,syA,syD,simprocAttr,syE,ah,ag,ae,syW,xQ,da,Gr,ih,ho0]
def bP (k:Nat) (v0:Tyt) (v1:Int)  : Nat→Int→Option Int
 | 0,_=>none
 | n+1,sD=>
 bif decide (sD<(↑v0.length:Int)) then
 ob (idx v0 sD) fun x135=>
 cp k v0 v1 (fun sD=>bP k v0 v1  n sD) (k+18) (x135.2) ((↑x135.2.length:Int)) ((0:Int)) (sD)
 else
 some ((-1:Int))
theorem mH (k:Nat) (v0:Tyt) (v1:Int):∀ (n:Nat) (sD:Int) ⦃sR:Bool⦄ ⦃j122 j123 j130:V⦄,rt none (bq (itX (xX (xS (k+18)) 148 0 (k+18) false) kN (4) (au (xX (xS (k+18)) 148 0 (k+18) false) (ap (xS (k+18)).P Tryz.f148) mc) n ⟨[.yld 3,.ptr 2 0 0 0,uu,j122,j123,uu,j130,.ro (List.map an v0),.lit (.int .i64 (↑v0.length:Int)),.lit (.int .i64 sD),.junk,.junk,.junk,.junk,.junk,.junk,.junk,.junk,.junk,.junk,.junk,.junk,.junk,.junk,.junk,.junk,.junk,.junk],[.box [.lit (.int .i64 v1)],.box [.lit (.int .i64 (0:Int))],.box [.ro (List.map an v0)],(.loop ⟨LoopState.ready,none,101,[.ro (List.map an v0),.lit (.int .i64 v1),uu,.ptr 0 0 0 0,.ptr 1 0 0 0,uu,uu,.ro (List.map an v0),.lit (.bool sR),.ro (List.map an v0),.fn (Fn.func (148:FuncId)) [] [.ptr 2 0 0 0],uu,uu,uu,uu,uu,uu],[(11:Tmp),(12:Tmp)],uV,wc⟩)]⟩) (rfK (au (xX (xS (k+19)) 101 0 (k+19) false) (ap (xS (k+19)).P Tryz.f101) pR) [.ro (List.map an v0),.lit (.int .i64 v1),uu,.ptr 0 0 0 0,.ptr 1 0 0 0,uu,uu,.ro (List.map an v0),.lit (.bool sR),.ro (List.map an v0),.fn (Fn.func (148:FuncId)) [] [.ptr 2 0 0 0],uu,uu,uu,uu,uu,uu] (3)))=ob (bP k v0 v1  n sD) fun r=>some ((.lit (.int .i64 r)),[]):=by
 intro n
 induction n with
 | zero=>intros;rfl
 | succ n ih=>
  intro sD sR j122 j123 j130
  rw [bP]
  simp (maxSteps:=2000000) -implicitDefEqProofs only [Jj,Gn,aH (g:=100),Vl,RT,PX,C1,ep,eu,mi,pw,Jh,GE,Fy,nV,nQ,fT,fZ,↓syP,syA,syD,simprocAttr,syE,ah,ag,ae,syW,xQ,da,FE,ih,mQ k v0 v1 _ (fun sD=>bP k v0 v1  n sD) ih]
def eU (k:Nat) (v0:Tyt) (v1:Int):Option Int:=
 ob (dc k v0) fun x138=>
 bif x138 then
 bP k v0 v1 (k+18) 0
 else
 some ((-1))
theorem u6 (k:Nat) (v0:Tyt) (v1:Int):xC (k+20) none 101 [.ro (List.map an v0),.lit (.int .i64 v1)]=ob (eU k v0 v1) fun r=>some ((.lit (.int .i64 r)),[]):=by
 rw [aH]
 unfold eU
 simp (maxSteps:=2000000) -implicitDefEqProofs only [Jj,Gn,aH (g:=100),Vl,RT,PX,C1,ep,eu,mi,pw,Jh,GE,Fy,nV,nQ,fT,fZ,↓syP,syA,syD,simprocAttr,syE,ah,ag,ae,syW,xQ,da,mH k v0 v1]
end Go.Ab
set_option maxRecDepth 100000
set_option linter.unusedVariables false
set_option linter.unusedSimpArgs false
namespace Go.Ab
open Go.Proofs
def eM (v0:Int) (v1:Int) (v2:Int):Option Bool:=
 bif decide (v1≤v0) then
 some (decide (v0≤v2))
 else
 some false
theorem mn (k:Nat) (v0 v1 v2:Int):xC (k+1) none 93 [.lit (.int .i64 v0),.lit (.int .i64 v1),.lit (.int .i64 v2)]=ob (eM v0 v1 v2) fun r=>some ((.lit (.bool r)),[]):=by
 rw [aH]
 unfold eM
 simp (maxSteps:=2000000) -implicitDefEqProofs only [akH,ajA,Td,AO,↓syP,syA,syD,simprocAttr,syE,ah,ag,ae,syW,xQ]
def cw (v0:(Int×Int×Int×Int)):Option Bool:=
 ob (eM v0.1 1 8) fun x5=>
 bif x5 then
 ob (eM v0.2.1 1 16) fun x6=>
 bif x6 then
 bif wa IntKind.i64 v0.2.1 (IntKind.i64.wrap (v0.2.1 - 1))==0 then
 ob (eM v0.2.2.1 1 16) fun x7=>
 bif x7 then
 ob (eM v0.2.2.2 0 4) fun x8=>
 some x8
 else
 some false
 else
 some false
 else
 some false
 else
 some false
theorem cD (k:Nat) (v0_0 v0_1 v0_2 v0_3:Int):xC (k+2) none 50 [.agg [.lit (.int .i64 v0_0),.lit (.int .i64 v0_1),.lit (.int .i64 v0_2),.lit (.int .i64 v0_3)]]=ob (cw (v0_0,v0_1,v0_2,v0_3)) fun r=>some ((.lit (.bool r)),[]):=by
 rw [aH]
 unfold cw
 simp (maxSteps:=2000000) -implicitDefEqProofs only [ajZ,ajv,Tm,TF,SV,S4,Bv,↓syP,syA,syD,simprocAttr,syE,ah,ag,ae,syW,xQ,mn]
def fA (v0:(Int×Int×Int×Int)) (v1:Int):Option Int:=
 some (IntKind.i64.wrap (IntKind.i64.wrap (6+IntKind.i64.wrap (2*v0.2.2.1))+IntKind.i64.wrap (v1*IntKind.i64.wrap (3+v0.2.1))))
theorem lL (k:Nat) (v0_0 v0_1 v0_2 v0_3 v1:Int):xC (k+1) none 72 [.agg [.lit (.int .i64 v0_0),.lit (.int .i64 v0_1),.lit (.int .i64 v0_2),.lit (.int .i64 v0_3)],.lit (.int .i64 v1)]=ob (fA (v0_0,v0_1,v0_2,v0_3) v1) fun r=>some ((.lit (.int .i64 r)),[]):=by
 rw [aH]
 unfold fA
 simp (maxSteps:=2000000) -implicitDefEqProofs only [aki,ai5,↓syP,syA,syD,simprocAttr,syE,ah,ag,ae,syW,xQ]
def dM (v0:(Int×Int×Int×Int)):Option Int:=
 ob (cw v0) fun x16=>
 bif !x16 then
 some 0
 else
 ob (fA v0 v0.1) fun x17=>
 some x17
theorem gM (k:Nat) (v0_0 v0_1 v0_2 v0_3:Int):xC (k+3) none 103 [.agg [.lit (.int .i64 v0_0),.lit (.int .i64 v0_1),.lit (.int .i64 v0_2),.lit (.int .i64 v0_3)]]=ob (dM (v0_0,v0_1,v0_2,v0_3)) fun r=>some ((.lit (.int .i64 r)),[]):=by
 rw [aH]
 unfold dM
 simp (maxSteps:=2000000) -implicitDefEqProofs only [ags,ads,↓syP,syA,syD,simprocAttr,syE,ah,ag,ae,syW,xQ,cD,lL]
def ip (v0:(List Int)) (v1:Int):Option Bool:=
 bif decide (0≤v1) then
 some (decide (v1<(↑v0.length:Int)))
 else
 some false
theorem pk (k:Nat) (v0:List Int) (v1:Int):xC (k+1) none 66 [.ro (List.map (aF .u64) v0),.lit (.int .i64 v1)]=ob (ip v0 v1) fun r=>some ((.lit (.bool r)),[]):=by
 rw [aH]
 unfold ip
 simp (maxSteps:=2000000) -implicitDefEqProofs only [akc,ajd,Ud,AJ,↓syP,syA,syD,simprocAttr,syE,ah,ag,ae,syW,xQ]
def aL (v0:(List Int)) (v1:Int):Option Int:=
 ob (ip v0 v1) fun x22=>
 bif !x22 then
 some 0
 else
 ob (idx v0 v1) fun x23=>
 some x23
theorem dg (k:Nat) (v0:List Int) (v1:Int):xC (k+2) none 27 [.ro (List.map (aF .u64) v0),.lit (.int .i64 v1)]=ob (aL v0 v1) fun r=>some ((.lit (.int .u64 r)),[]):=by
 rw [aH]
 unfold aL
 simp (maxSteps:=2000000) -implicitDefEqProofs only [akI,aiZ,↓syP,syA,syD,simprocAttr,syE,ah,ag,ae,syW,xQ,pk]
def bw (v0:(List Int)) (v1:Int) (v2:Int):Option (List Int):=
 ob (aQ 8 v0) fun xd=>
 ob (ip v0 v1) fun xw=>
 bif !xw then
 some xd
 else
 ob (idx v0 v1) fun xs=>
 bif decide (0≤v1∧v1.toNat<xd.length) then
 ob (xd[v1.toNat]?) fun x34=>
 ob (idx v0 v1) fun x35=>
 some (xd.set v1.toNat v2)
 else
 none
theorem dX (k:Nat) (v0:List Int) (v1 v2:Int):xC (k+11) none 88 [.ro (List.map (aF .u64) v0),.lit (.int .i64 v1),.lit (.int .u64 v2)]=ob (bw v0 v1 v2) fun r=>some ((.ro (List.map (aF .u64) r)),[]):=by
 rw [aH]
 unfold bw
 simp (maxSteps:=2000000) -implicitDefEqProofs only [akK,aja,Vb,Rd,ag2,acQ,↓syP,syA,syD,simprocAttr,syE,ah,ag,ae,syW,xQ,pk]
def du (v0:(List Int)) (v1:Int) (v2:Int):Option ((List Int)×Int):=
 ob (aQ 8 v0) fun xt=>
 ob (ip v0 v1) fun xh=>
 bif !xh then
 some (xt,0)
 else
 ob (idx v0 v1) fun x48=>
 bif decide (0≤v1∧v1.toNat<xt.length) then
 ob (xt[v1.toNat]?) fun xo=>
 ob (idx v0 v1) fun x50=>
 some ((xt.set v1.toNat (IntKind.u64.wrap (x48+v2))),x50)
 else
 none
theorem AP (k:Nat) (v0:List Int) (v1 v2:Int):xC (k+11) none 138 [.ro (List.map (aF .u64) v0),.lit (.int .i64 v1),.lit (.int .u64 v2)]=ob (du v0 v1 v2) fun r=>some ((.tup [.ro (List.map (aF .u64) r.1),.lit (.int .u64 r.2)]),[]):=by
 rw [aH]
 unfold du
 simp (maxSteps:=2000000) -implicitDefEqProofs only [aia,adU,Vb,Rd,ahb,aaT,↓syP,syA,syD,simprocAttr,syE,ah,ag,ae,syW,xQ,pk]
def dv (v0 : (List Int)) (v1 : Int) (v2 : Int) (v3 : Int) : Option ((List Int) × Bool) :=
 ob (aQ 8 v0) fun xN =>
 ob (ip v0 v1) fun x64 =>
 bif !x64 then
 some (xN,false)
 else
 ob (idx v0 v1) fun xc =>
 bif xc != v2 then
 bif decide (0 ≤ v1 ∧ v1.toNat < xN.length) then
 ob (xN[v1.toNat]?) fun x66 =>
 ob (idx v0 v1) fun x67 =>
 some ((xN.set v1.toNat xc),false)
 else
 none
 else
 bif decide (0 ≤ v1 ∧ v1.toNat < xN.length) then
 ob (xN[v1.toNat]?) fun x68 =>
 ob (idx v0 v1) fun x69 =>
 some ((xN.set v1.toNat v3),true)
 else
 none
theorem i8 (k:Nat) (v0:List Int) (v1 v2 v3:Int):xC (k+11) none 191 [.ro (List.map (aF .u64) v0),.lit (.int .i64 v1),.lit (.int .u64 v2),.lit (.int .u64 v3)]=ob (dv v0 v1 v2 v3) fun r=>some ((.tup [.ro (List.map (aF .u64) r.1),.lit (.bool r.2)]),[]):=by
 rw [aH]
 unfold dv
 simp (maxSteps:=2000000) -implicitDefEqProofs only [Vb,Rd,aiz,adA,ahh,abQ,↓syP,syA,syD,simprocAttr,syE,ah,ag,ae,syW,xQ,pk]
def aM (v0:Int) (v1:Int) (v2:Int):Option (Int×Int×Int×Int×Int×Int×Int):=
 some (v0,0,v1,v2,0,0,0)
theorem mg (k:Nat) (v0 v1 v2:Int):xC (k+1) none 104 [.lit (.int .i64 v0),.lit (.int .i64 v1),.lit (.int .u64 v2)]=ob (aM v0 v1 v2) fun r=>some ((.agg [.lit (.int .i64 r.1),.lit (.int .i64 r.2.1),.lit (.int .i64 r.2.2.1),.lit (.int .u64 r.2.2.2.1),.lit (.int .u64 r.2.2.2.2.1),.lit (.int .u64 r.2.2.2.2.2.1),.lit (.int .i64 r.2.2.2.2.2.2)]),[]):=by
 rw [aH]
 unfold aM
 simp (maxSteps:=2000000) -implicitDefEqProofs only [afz,adQ,↓syP,syA,syD,simprocAttr,syE,ah,ag,ae,syW,xQ]
def aN (v0:(Int×Int×Int×Int×Int×Int×Int)):Option Bool:=
 some (v0.2.2.2.2.2.2 !=0)
theorem fd (k:Nat) (v0_0 v0_1 v0_2 v0_3 v0_4 v0_5 v0_6:Int):xC (k+1) none 110 [.agg [.lit (.int .i64 v0_0),.lit (.int .i64 v0_1),.lit (.int .i64 v0_2),.lit (.int .u64 v0_3),.lit (.int .u64 v0_4),.lit (.int .u64 v0_5),.lit (.int .i64 v0_6)]]=ob (aN (v0_0,v0_1,v0_2,v0_3,v0_4,v0_5,v0_6)) fun r=>some ((.lit (.bool r)),[]):=by
 rw [aH]
 unfold aN
 simp (maxSteps:=2000000) -implicitDefEqProofs only [afu,abx,↓syP,syA,syD,simprocAttr,syE,ah,ag,ae,syW,xQ]
def a9 (v0:(Int×Int×Int×Int×Int×Int×Int)) (v1:Int) (v2:Int):Option (Int×Int×Int×Int×Int×Int×Int):=
 some (v0.1,0,v0.2.2.1,v2,0,0,v1)
theorem f7 (k:Nat) (v0_0 v0_1 v0_2 v0_3 v0_4 v0_5 v0_6 v1 v2:Int):xC (k+1) none 193 [.agg [.lit (.int .i64 v0_0),.lit (.int .i64 v0_1),.lit (.int .i64 v0_2),.lit (.int .u64 v0_3),.lit (.int .u64 v0_4),.lit (.int .u64 v0_5),.lit (.int .i64 v0_6)],.lit (.int .i64 v1),.lit (.int .u64 v2)]=ob (a9 (v0_0,v0_1,v0_2,v0_3,v0_4,v0_5,v0_6) v1 v2) fun r=>some ((.agg [.lit (.int .i64 r.1),.lit (.int .i64 r.2.1),.lit (.int .i64 r.2.2.1),.lit (.int .u64 r.2.2.2.1),.lit (.int .u64 r.2.2.2.2.1),.lit (.int .u64 r.2.2.2.2.2.1),.lit (.int .i64 r.2.2.2.2.2.2)]),[]):=by
 rw [aH]
 unfold a9
 simp (maxSteps:=2000000) -implicitDefEqProofs only [afM,ab0,↓syP,syA,syD,simprocAttr,syE,ah,ag,ae,syW,xQ]
def lu (v0:Int) (v1:Int):Option Int:=
 bif decide (v1<0) then
 some v0
 else
 bif decide (16≤v1) then
 some v0
 else
 bif decide (0≤v1) then
 some (orI IntKind.u64 v0 (Sa IntKind.u64 1 v1))
 else
 none
theorem Kq (k:Nat) (v0 v1:Int):xC (k+1) none 214 [.lit (.int .u64 v0),.lit (.int .i64 v1)]=ob (lu v0 v1) fun r=>some ((.lit (.int .u64 r)),[]):=by
 rw [aH]
 unfold lu
 simp (maxSteps:=2000000) -implicitDefEqProofs only [afe,adx,MH,wP,↓syP,syA,syD,simprocAttr,syE,ah,ag,ae,syW,xQ]
def dZ (v0:Int):Option Int:=
 some (Tp IntKind.u64 v0 16)
theorem mT (k:Nat) (v0:Int):xC (k+1) none 213 [.lit (.int .u64 v0)]=ob (dZ v0) fun r=>some ((.lit (.int .u64 r)),[]):=by
 rw [aH]
 unfold dZ
 simp (maxSteps:=2000000) -implicitDefEqProofs only [agl,adj,↓syP,syA,syD,simprocAttr,syE,ah,ag,ae,syW,xQ]
def fp (v0:(Int×Int×Int×Int)) (v1:Int):Option Int:=
 ob (cw v0) fun x80=>
 bif !x80 then
 some ((-1))
 else
 ob (eM v1 0 (IntKind.i64.wrap (v0.1 - 1))) fun x81=>
 bif !x81 then
 some ((-1))
 else
 ob (fA v0 v1) fun x82=>
 some (IntKind.i64.wrap (x82+2))
theorem pU (k:Nat) (v0_0 v0_1 v0_2 v0_3 v1:Int):xC (k+12) none 32 [.agg [.lit (.int .i64 v0_0),.lit (.int .i64 v0_1),.lit (.int .i64 v0_2),.lit (.int .i64 v0_3)],.lit (.int .i64 v1)]=ob (fp (v0_0,v0_1,v0_2,v0_3) v1) fun r=>some ((.lit (.int .i64 r)),[]):=by
 rw [aH]
 unfold fp
 simp (maxSteps:=2000000) -implicitDefEqProofs only [akF,ajI,Ze,Vq,uz,gJ,akd,aje,↓syP,syA,syD,simprocAttr,syE,ah,ag,ae,syW,xQ,mn,cD,lL]
def dp (v0:Int):Option Int:=
 some (wa IntKind.u64 v0 65535)
theorem oe (k:Nat) (v0:Int):xC (k+1) none 192 [.lit (.int .u64 v0)]=ob (dp v0) fun r=>some ((.lit (.int .u64 r)),[]):=by
 rw [aH]
 unfold dp
 simp (maxSteps:=2000000) -implicitDefEqProofs only [agQ,aaa,↓syP,syA,syD,simprocAttr,syE,ah,ag,ae,syW,xQ]
def ii (v0:(Int×Int×Int×Int)) (v1:Int):Option Int:=
 ob (cw v0) fun x89=>
 bif !x89 then
 some ((-1))
 else
 ob (eM v1 0 (IntKind.i64.wrap (v0.1 - 1))) fun x90=>
 bif !x90 then
 some ((-1))
 else
 ob (fA v0 v1) fun x91=>
 some x91
theorem mN (k:Nat) (v0_0 v0_1 v0_2 v0_3 v1:Int):xC (k+12) none 107 [.agg [.lit (.int .i64 v0_0),.lit (.int .i64 v0_1),.lit (.int .i64 v0_2),.lit (.int .i64 v0_3)],.lit (.int .i64 v1)]=ob (ii (v0_0,v0_1,v0_2,v0_3) v1) fun r=>some ((.lit (.int .i64 r)),[]):=by
 rw [aH]
 unfold ii
 simp (maxSteps:=2000000) -implicitDefEqProofs only [Ze,Vq,uz,gJ,aiM,acO,agP,ZH,↓syP,syA,syD,simprocAttr,syE,ah,ag,ae,syW,xQ,mn,cD,lL]
def dy (v0:(Int×Int×Int×Int)) (v1:Int):Option Int:=
 ob (cw v0) fun x98=>
 bif !x98 then
 some ((-1))
 else
 ob (eM v1 0 (IntKind.i64.wrap (v0.1 - 1))) fun x99=>
 bif !x99 then
 some ((-1))
 else
 ob (fA v0 v1) fun xq=>
 some (IntKind.i64.wrap (xq+1))
theorem iu (k:Nat) (v0_0 v0_1 v0_2 v0_3 v1:Int):xC (k+12) none 108 [.agg [.lit (.int .i64 v0_0),.lit (.int .i64 v0_1),.lit (.int .i64 v0_2),.lit (.int .i64 v0_3)],.lit (.int .i64 v1)]=ob (dy (v0_0,v0_1,v0_2,v0_3) v1) fun r=>some ((.lit (.int .i64 r)),[]):=by
 rw [aH]
 unfold dy
 simp (maxSteps:=2000000) -implicitDefEqProofs only [Ze,Vq,uz,gJ,aeR,aaR,air,abo,↓syP,syA,syD,simprocAttr,syE,ah,ag,ae,syW,xQ,mn,cD,lL]
def gf (v0:(Int×Int×Int×Int)) (v1:Int) (v2:Int):Option Int:=
 ob (cw v0) fun x107=>
 bif !x107 then
 some ((-1))
 else
 ob (eM v1 0 (IntKind.i64.wrap (v0.1 - 1))) fun x108=>
 bif !x108 then
 some ((-1))
 else
 ob (fA v0 v1) fun xL=>
 some (IntKind.i64.wrap (IntKind.i64.wrap (xL+3)+IntKind.i64.wrap (wa IntKind.u64 v2 (IntKind.u64.wrap (IntKind.i64.wrap (v0.2.1 - 1))))))
theorem pD (k:Nat) (v0_0 v0_1 v0_2 v0_3 v1 v2:Int):xC (k+12) none 109 [.agg [.lit (.int .i64 v0_0),.lit (.int .i64 v0_1),.lit (.int .i64 v0_2),.lit (.int .i64 v0_3)],.lit (.int .i64 v1),.lit (.int .u64 v2)]=ob (gf (v0_0,v0_1,v0_2,v0_3) v1 v2) fun r=>some ((.lit (.int .i64 r)),[]):=by
 rw [aH]
 unfold gf
 simp (maxSteps:=2000000) -implicitDefEqProofs only [Ze,Vq,uz,gJ,ahl,acD,afD,aal,↓syP,syA,syD,simprocAttr,syE,ah,ag,ae,syW,xQ,mn,cD,lL]
def ft (v0:Int) (v1:Int):Option Int:=
 some (IntKind.i64.wrap (IntKind.u64.wrap (v0 - v1)))
theorem lD (k:Nat) (v0 v1:Int):xC (k+1) none 106 [.lit (.int .u64 v0),.lit (.int .u64 v1)]=ob (ft v0 v1) fun r=>some ((.lit (.int .i64 r)),[]):=by
 rw [aH]
 unfold ft
 simp (maxSteps:=2000000) -implicitDefEqProofs only [agr,aaW,↓syP,syA,syD,simprocAttr,syE,ah,ag,ae,syW,xQ]
def fc (k:Nat) (v0:(Int×Int×Int×Int))  : Nat→Int→List Int→Int→Nat→Option (List Int)
 | 0,_,_,_,_=>none
 | n+1,sE,sK,sS,sC=>
 bif decide (sS<sE) then
 ck (sC==1||sC==0) (
 bif room (sK++[(0:Int)]).length 8 then
 fc k v0  n (sE) (sK++[(0:Int)]) (IntKind.i64.wrap (sS+(1:Int))) (1)
 else
 none)
 else
 some (sK)
theorem mD (k:Nat) (v0_0 v0_1 v0_2 v0_3:Int):∀ (n:Nat) (sE:Int) (sK:List Int) (sS:Int) (sC:Nat) ⦃sA:Nat⦄,rt none (itX (xX (xS (k+3)) 59 0 (k+3) false) H6 (3) (au (xX (xS (k+3)) 59 0 (k+3) false) (ap (xS (k+3)).P Tryz.f59) H5) n ⟨[.agg [.lit (.int .i64 v0_0),.lit (.int .i64 v0_1),.lit (.int .i64 v0_2),.lit (.int .i64 v0_3)],.ptr 0 0 0 0,.own 1 0 0,.own 2 sA sK.length,.agg [.lit (.int .i64 v0_0),.lit (.int .i64 v0_1),.lit (.int .i64 v0_2),.lit (.int .i64 v0_3)],.lit (.int .i64 sE),.lit (.int .i64 sS),.junk,.junk,.junk,.junk,.junk,uu],[.box [.lit (.int .i64 v0_0),.lit (.int .i64 v0_1),.lit (.int .i64 v0_2),.lit (.int .i64 v0_3)],.rows 0 [] 0 true,.rows sC (List.map (aF IntKind.u64) sK) sA true]⟩)=ob (fc k (v0_0,v0_1,v0_2,v0_3)  n sE sK sS sC) fun r=>some ((.ro (List.map (aF .u64) r)),[]):=by
 intro n
 induction n with
 | zero=>intros;rfl
 | succ n ih=>
  intro sE sK sS sC sA
  rw [fc]
  simp (maxSteps:=2000000) -implicitDefEqProofs only [ajO,afW,aie,MP,pr,↓syP,syA,syD,simprocAttr,syE,ah,ag,ae,syW,xQ,gM,Tv,ih]
def lB (k:Nat) (v0:(Int×Int×Int×Int)):Option (List Int):=
 ob (dM v0) fun x123=>
 fc k v0 (k+3) x123 ([]) 0 0
theorem pn (k:Nat) (v0_0 v0_1 v0_2 v0_3:Int):xC (k+4) none 59 [.agg [.lit (.int .i64 v0_0),.lit (.int .i64 v0_1),.lit (.int .i64 v0_2),.lit (.int .i64 v0_3)]]=ob (lB k (v0_0,v0_1,v0_2,v0_3)) fun r=>some ((.ro (List.map (aF .u64) r)),[]):=by
 rw [aH]
 unfold lB
 have hl0:=fun (x124:Int)=>mD k v0_0 v0_1 v0_2 v0_3 (k+3) (x124) ([]) ((0:Int)) (0)
 try simp -implicitDefEqProofs only [List.map_nil,List.length_nil] at hl0
 simp (maxSteps:=2000000) -implicitDefEqProofs only [ajO,afW,aie,MP,pr,↓syP,syA,syD,simprocAttr,syE,ah,ag,ae,syW,xQ,gM,mD k v0_0 v0_1 v0_2 v0_3,hl0]
def cJ (v0:Int) (v1:Int):Option Bool:=
 bif decide (0≤v0) then
 some (decide (v0<v1))
 else
 some false
theorem iv (k:Nat) (v0 v1:Int):xC (k+1) none 81 [.lit (.int .i64 v0),.lit (.int .i64 v1)]=ob (cJ v0 v1) fun r=>some ((.lit (.bool r)),[]):=by
 rw [aH]
 unfold cJ
 simp (maxSteps:=2000000) -implicitDefEqProofs only [akB,ai9,Ts,BD,↓syP,syA,syD,simprocAttr,syE,ah,ag,ae,syW,xQ]
def fl (v0 : Int) (v1 : Int) (v2 : Int) : Option Int :=
 bif decide (v2 < 2) then
 some ((-1))
 else
 ob (cJ v1 v2) fun x126 =>
 bif !x126 then
 some ((-1))
 else
 bif IntKind.u64.wrap (IntKind.u64.wrap v2 - 1) != 0 then
 bif IntKind.u64.wrap v2 != 0 then
 some (IntKind.i64.wrap ((IntKind.u64.wrap (IntKind.u64.wrap (IntKind.u64.wrap v1 + 1) + v0.tmod (IntKind.u64.wrap (IntKind.u64.wrap v2 - 1)))).tmod (IntKind.u64.wrap v2)))
 else
 none
 else
 none
theorem BJ (k:Nat) (v0 v1 v2:Int):xC (k+2) none 161 [.lit (.int .u64 v0),.lit (.int .i64 v1),.lit (.int .i64 v2)]=ob (fl v0 v1 v2) fun r=>some ((.lit (.int .i64 r)),[]):=by
 rw [aH]
 unfold fl
 simp (maxSteps:=2000000) -implicitDefEqProofs only [aib,aci,Ng,Ai,↓syP,syA,syD,simprocAttr,syE,ah,ag,ae,syW,xQ,iv]
def eZ (v0:(Int×Int×Int×Int)) (v1:(List Int)) (v2:(Int×Int×Int×Int×Int×Int×Int)) (v3:Int) (v4:Int):Option Bool:=
 ob (cw v0) fun x132=>
 bif x132 then
 ob (dM v0) fun x133=>
 bif (↑v1.length:Int)==x133 then
 ob (aN v2) fun x134=>
 bif !x134 then
 bif decide (0≤v2.2.2.1) then
 bif decide (v2.2.2.1<v0.1) then
 bif v2.1==v3 then
 bif decide (0≤v2.2.1) then
 some (decide (v2.2.1<v4))
 else
 some false
 else
 some false
 else
 some false
 else
 some false
 else
 some false
 else
 some false
 else
 some false
theorem kA (k:Nat) (v0_0 v0_1 v0_2 v0_3:Int) (v1:List Int) (v2_0 v2_1 v2_2 v2_3 v2_4 v2_5 v2_6 v3 v4:Int):xC (k+4) none 188 [.agg [.lit (.int .i64 v0_0),.lit (.int .i64 v0_1),.lit (.int .i64 v0_2),.lit (.int .i64 v0_3)],.ro (List.map (aF .u64) v1),.agg [.lit (.int .i64 v2_0),.lit (.int .i64 v2_1),.lit (.int .i64 v2_2),.lit (.int .u64 v2_3),.lit (.int .u64 v2_4),.lit (.int .u64 v2_5),.lit (.int .i64 v2_6)],.lit (.int .i64 v3),.lit (.int .i64 v4)]=ob (eZ (v0_0,v0_1,v0_2,v0_3) v1 (v2_0,v2_1,v2_2,v2_3,v2_4,v2_5,v2_6) v3 v4) fun r=>some ((.lit (.bool r)),[]):=by
 rw [aH]
 unfold eZ
 simp (maxSteps:=2000000) -implicitDefEqProofs only [aik,ac1,MJ,N9,L7,Np,Om,Oj,NA,uy,↓syP,syA,syD,simprocAttr,syE,ah,ag,ae,syW,xQ,cD,gM,fd]
def kC (v0 : (Int × Int × Int × Int)) (v1 : (List Int)) (v2 : (Int × Int × Int × Int × Int × Int × Int)) : Option ((List Int) × (Int × Int × Int × Int × Int × Int × Int)) :=
 ob (aQ 8 v1) fun xO =>
 ob (eZ v0 v1 v2 5 5) fun x153 =>
 bif x153 then
 bif decide (0 ≤ v2.2.1 ∧ v2.2.1.toNat < 5) then
 bif v2.2.1.toNat == 0 then
 ob (aL xO 2) fun xl =>
 some (xO,(v2.1,1,v2.2.2.1,v2.2.2.2.1,xl,v2.2.2.2.2.2))
 else
 bif v2.2.1.toNat == 1 then
 ob (aL xO 2) fun xx =>
 ob (dZ xx) fun xI =>
 ob (dZ v2.2.2.2.2.1) fun x157 =>
 bif xI != x157 then
 ob (a9 (v2.1,2,v2.2.2.1,v2.2.2.2.1,v2.2.2.2.2.1,xx,v2.2.2.2.2.2.2) 4 0) fun x158 =>
 some (xO,x158)
 else
 some (xO,(v2.1,2,v2.2.2.1,v2.2.2.2.1,v2.2.2.2.2.1,xx,v2.2.2.2.2.2.2))
 else
 bif v2.2.1.toNat == 2 then
 ob (lu v2.2.2.2.2.2.1 v2.2.2.1) fun x159 =>
 ob (dv xO 2 v2.2.2.2.2.2.1 x159) fun xm =>
 bif xm.2 then
 some (xm.1,(v2.1,3,v2.2.2))
 else
 some (xm.1,(v2.1,1,v2.2.2))
 else
 bif v2.2.1.toNat == 3 then
 ob (fp v0 v2.2.2.1) fun x161 =>
 ob (aL xO x161) fun xa =>
 bif xa != 0 then
 some (xO,(v2.1,4,v2.2.2.1,v2.2.2.2.1,v2.2.2.2.2.1,xa,v2.2.2.2.2.2.2))
 else
 some (xO,(v2.1,v2.2.1,v2.2.2.1,v2.2.2.2.1,v2.2.2.2.2.1,xa,v2.2.2.2.2.2.2))
 else
 bif v2.2.1.toNat == 4 then
 ob (fp v0 v2.2.2.1) fun xJ =>
 ob (bw xO xJ 0) fun x164 =>
 ob (a9 v2 1 0) fun xK =>
 some (x164,xK)
 else
 none
 else
 none
 else
 some (xO,v2)
theorem F3 (k:Nat) (v0_0 v0_1 v0_2 v0_3:Int) (v1:List Int) (v2_0 v2_1 v2_2 v2_3 v2_4 v2_5 v2_6:Int):xC (k+14) none 165 [.agg [.lit (.int .i64 v0_0),.lit (.int .i64 v0_1),.lit (.int .i64 v0_2),.lit (.int .i64 v0_3)],.ro (List.map (aF .u64) v1),.agg [.lit (.int .i64 v2_0),.lit (.int .i64 v2_1),.lit (.int .i64 v2_2),.lit (.int .u64 v2_3),.lit (.int .u64 v2_4),.lit (.int .u64 v2_5),.lit (.int .i64 v2_6)]]=ob (kC (v0_0,v0_1,v0_2,v0_3) v1 (v2_0,v2_1,v2_2,v2_3,v2_4,v2_5,v2_6)) fun r=>some ((.tup [.ro (List.map (aF .u64) r.1),.agg [.lit (.int .i64 r.2.1),.lit (.int .i64 r.2.2.1),.lit (.int .i64 r.2.2.2.1),.lit (.int .u64 r.2.2.2.2.1),.lit (.int .u64 r.2.2.2.2.2.1),.lit (.int .u64 r.2.2.2.2.2.2.1),.lit (.int .i64 r.2.2.2.2.2.2.2)]]),[]):=by
 rw [aH]
 unfold kC
 simp (maxSteps:=2000000) -implicitDefEqProofs only [ahZ,ab6,On,Am,aip,acn,ae1,adM,ahp,acu,afX,aap,ae8,acq,↓syP,syA,syD,simprocAttr,syE,ah,ag,ae,syW,xQ,dg,dX,i8,f7,Kq,mT,pU,kA]
end Go.Ab
set_option maxRecDepth 100000
set_option linter.unusedVariables false
set_option linter.unusedSimpArgs false
namespace Go.Ab
open Go.Proofs
def ki (v0:(Int×Int×Int×Int)) (v1:(List Int)) (v2:(Int×Int×Int×Int×Int×Int×Int)):Option Bool:=
 bif v2.1==6 then
 ob (cw v0) fun x8=>
 bif x8 then
 ob (dM v0) fun x9=>
 bif (↑v1.length:Int)==x9 then
 ob (aN v2) fun x10=>
 bif !x10 then
 bif decide (0≤v2.2.1) then
 some (decide (v2.2.1≤2))
 else
 some false
 else
 some false
 else
 some false
 else
 some false
 else
 bif v2.1==7 then
 ob (cw v0) fun x11=>
 bif x11 then
 ob (dM v0) fun x12=>
 bif (↑v1.length:Int)==x12 then
 ob (aN v2) fun x13=>
 bif !x13 then
 bif decide (0≤v2.2.1) then
 some (decide (v2.2.1≤2))
 else
 some false
 else
 some false
 else
 some false
 else
 some false
 else
 some false
theorem GK (k:Nat) (v0_0 v0_1 v0_2 v0_3:Int) (v1:List Int) (v2_0 v2_1 v2_2 v2_3 v2_4 v2_5 v2_6:Int):xC (k+15) none 189 [.agg [.lit (.int .i64 v0_0),.lit (.int .i64 v0_1),.lit (.int .i64 v0_2),.lit (.int .i64 v0_3)],.ro (List.map (aF .u64) v1),.agg [.lit (.int .i64 v2_0),.lit (.int .i64 v2_1),.lit (.int .i64 v2_2),.lit (.int .u64 v2_3),.lit (.int .u64 v2_4),.lit (.int .u64 v2_5),.lit (.int .i64 v2_6)]]=ob (ki (v0_0,v0_1,v0_2,v0_3) v1 (v2_0,v2_1,v2_2,v2_3,v2_4,v2_5,v2_6)) fun r=>some ((.lit (.bool r)),[]):=by
 rw [aH]
 unfold ki
 simp (maxSteps:=2000000) -implicitDefEqProofs only [ahz,abc,L4,Mw,MT,M2,Mx,wy,Zl,VL,aH (g:=190),Ya,ON,Zc,PC,↓syP,syA,syD,simprocAttr,syE,ah,ag,ae,syW,xQ,cD,gM,fd]
def gU (v0:Int) (v1:Int):Option Int:=
 some (orI IntKind.u64 (Sa IntKind.u64 v0 16) (wa IntKind.u64 v1 65535))
theorem wW (k:Nat) (v0 v1:Int):xC (k+1) none 233 [.lit (.int .u64 v0),.lit (.int .u64 v1)]=ob (gU v0 v1) fun r=>some ((.lit (.int .u64 r)),[]):=by
 rw [aH]
 unfold gU
 simp (maxSteps:=2000000) -implicitDefEqProofs only [agw,aaQ,↓syP,syA,syD,simprocAttr,syE,ah,ag,ae,syW,xQ]
def cT (k:Nat) (v0:Int)  : Nat→Int→Option Int
 | 0,_=>none
 | n+1,sQ=>
 bif decide (sQ<(16:Int)) then
 bif decide ((0:Int)≤sQ) then
 bif wa IntKind.u64 (Tp IntKind.u64 v0 sQ) (1:Int)==(1:Int) then
 some (sQ)
 else
 cT k v0  n (IntKind.i64.wrap (sQ+(1:Int)))
 else
 none
 else
 some ((-1:Int))
theorem n8 (k:Nat) (v0:Int):∀ (n:Nat) (sQ:Int) ⦃j26:V⦄,rt none (bq (itX (xX (xS (k+9)) 234 0 (k+9) false) mW (3) (au (xX (xS (k+9)) 234 0 (k+9) false) (ap (xS (k+9)).P Tryz.f234) BL) n ⟨[.yld 2,.ptr 1 0 0 0,uu,j26,.lit (.int .i64 sQ),.junk,.junk,.junk,.junk,.junk,.junk,.junk,.junk,.junk,.junk,.junk,.junk,.junk,.junk],[.box [.lit (.int .i64 (0:Int))],.box [.lit (.int .u64 v0)],(.loop ⟨LoopState.ready,none,195,[.lit (.int .u64 v0),uu,.ptr 0 0 0 0,uu,.lit (.int .u64 v0),.fn (Fn.func (234:FuncId)) [] [.ptr 1 0 0 0],uu,uu],[(6:Tmp)],G7,GV⟩)]⟩) (rfK (au (xX (xS (k+10)) 195 0 (k+10) false) (ap (xS (k+10)).P Tryz.f195) CJ) [.lit (.int .u64 v0),uu,.ptr 0 0 0 0,uu,.lit (.int .u64 v0),.fn (Fn.func (234:FuncId)) [] [.ptr 1 0 0 0],uu,uu] (2)))=ob (cT k v0  n sQ) fun r=>some ((.lit (.int .i64 r)),[]):=by
 intro n
 induction n with
 | zero=>intros;rfl
 | succ n ih=>
  intro sQ j26
  rw [cT]
  simp (maxSteps:=2000000) -implicitDefEqProofs only [aaE,Yx,YR,GX,kv,kD,nD,A1,abi,X0,aH (g:=220),ac8,Vc,VP,FU,Gl,od,nY,↓syP,syA,syD,simprocAttr,syE,ah,ag,ae,syW,xQ,M5,ih]
def gB (k:Nat) (v0:Int):Option Int:=
 cT k v0 (k+9) 0
theorem oS (k:Nat) (v0:Int):xC (k+11) none 195 [.lit (.int .u64 v0)]=ob (gB k v0) fun r=>some ((.lit (.int .i64 r)),[]):=by
 rw [aH]
 unfold gB
 simp (maxSteps:=2000000) -implicitDefEqProofs only [aaE,Yx,YR,GX,kv,kD,nD,A1,abi,X0,aH (g:=220),ac8,Vc,VP,FU,Gl,od,nY,↓syP,syA,syD,simprocAttr,syE,ah,ag,ae,syW,xQ,n8 k v0]
def kE (k:Nat) (v0:Int):Option (Int×Int):=
 ob (dp v0) fun xw=>
 ob (dZ v0) fun xs=>
 ob (gU (IntKind.u64.wrap (xs+1)) (wa IntKind.u64 xw (IntKind.u64.wrap (xw - 1)))) fun x34=>
 ob (gB k xw) fun x35=>
 some (x34,x35)
theorem Gh (k:Nat) (v0:Int):xC (k+12) none 216 [.lit (.int .u64 v0)]=ob (kE k v0) fun r=>some ((.tup [.lit (.int .u64 r.1),.lit (.int .i64 r.2)]),[]):=by
 rw [aH]
 unfold kE
 simp (maxSteps:=2000000) -implicitDefEqProofs only [aeO,Z9,↓syP,syA,syD,simprocAttr,syE,ah,ag,ae,syW,xQ,mT,oe,wW,oS]
def fP (k:Nat) (v0:Int):Option (Int×Int):=
 ob (kE k v0) fun xe=>
 some (xe.1,(IntKind.u64.wrap (bif decide (xe.2<0) then 0 else xe.2)))
theorem AF (k:Nat) (v0:Int):xC (k+13) none 215 [.lit (.int .u64 v0)]=ob (fP k v0) fun r=>some ((.tup [.lit (.int .u64 r.1),.lit (.int .u64 r.2)]),[]):=by
 rw [aH]
 unfold fP
 simp (maxSteps:=2000000) -implicitDefEqProofs only [Ya,ON,↓syP,syA,syD,simprocAttr,syE,ah,ag,ae,syW,xQ,Gh]
def kF (v0:Int):Option Int:=
 ob (dZ v0) fun xi=>
 ob (gU (IntKind.u64.wrap (xi+1)) 0) fun xt=>
 some xt
theorem Hc (k:Nat) (v0:Int):xC (k+2) none 218 [.lit (.int .u64 v0)]=ob (kF v0) fun r=>some ((.lit (.int .u64 r)),[]):=by
 rw [aH]
 unfold kF
 simp (maxSteps:=2000000) -implicitDefEqProofs only [afa,acd,↓syP,syA,syD,simprocAttr,syE,ah,ag,ae,syW,xQ,mT,wW]
def fL (v0:Int):Option (Int×Int):=
 ob (kF v0) fun xy=>
 ob (dp v0) fun xz=>
 some (xy,xz)
theorem Av (k:Nat) (v0:Int):xC (k+3) none 217 [.lit (.int .u64 v0)]=ob (fL v0) fun r=>some ((.tup [.lit (.int .u64 r.1),.lit (.int .u64 r.2)]),[]):=by
 rw [aH]
 unfold fL
 simp (maxSteps:=2000000) -implicitDefEqProofs only [Zc,PC,↓syP,syA,syD,simprocAttr,syE,ah,ag,ae,syW,xQ,oe,Hc]
def eG (k:Nat) (v0:(Int×Int×Int×Int)) (v1:(List Int)) (v2:(List Int))  : Nat→List Int→Int→Option (List Int)
 | 0,_,_=>none
 | n+1,sc,sa=>
 bif decide (sa<(↑v2.length:Int)) then
 ob (idx v2 sa) fun x68=>
 ob (fp (v0.1,v0.2.1,v0.2.2.1,v0.2.2.2) x68) fun x69=>
 ob (bw sc x69 (1:Int)) fun x70=>
 eG k v0 v1 v2  n (x70) (IntKind.i64.wrap (sa+(1:Int)))
 else
 some (sc)
theorem pB (k:Nat) (v0_0 v0_1 v0_2 v0_3:Int) (v1 v2:List Int):∀ (n:Nat) (sc:List Int) (sa:Int) ⦃j60:V⦄,rt none (itX (xX (xS (k+12)) 194 0 (k+12) false) B4 (2) (au (xX (xS (k+12)) 194 0 (k+12) false) (ap (xS (k+12)).P Tryz.f194) B9) n ⟨[.agg [.lit (.int .i64 v0_0),.lit (.int .i64 v0_1),.lit (.int .i64 v0_2),.lit (.int .i64 v0_3)],.ro (List.map (aF IntKind.u64) sc),.ro (List.map (aF IntKind.i64) v2),.ptr 0 0 0 0,uu,uu,.own 1 0 0,uu,j60,.ro (List.map (aF IntKind.i64) v2),.lit (.int .i64 (↑v2.length:Int)),.lit (.int .i64 sa),.junk,.junk,.junk,.junk,.junk,.junk,.junk,.junk,.junk,uu],[.box [.lit (.int .i64 v0_0),.lit (.int .i64 v0_1),.lit (.int .i64 v0_2),.lit (.int .i64 v0_3)],.rows 0 [] 0 true]⟩)=ob (eG k (v0_0,v0_1,v0_2,v0_3) v1 v2  n sc sa) fun r=>some ((.ro (List.map (aF .u64) r)),[]):=by
 intro n
 induction n with
 | zero=>intros;rfl
 | succ n ih=>
  intro sc sa j60
  rw [eG]
  simp (maxSteps:=2000000) -implicitDefEqProofs only [adB,YT,WT,Hb,oa,↓syP,syA,syD,simprocAttr,syE,ah,ag,ae,syW,xQ,dX,pU,MK,ih]
def fS (k:Nat) (v0:(Int×Int×Int×Int)) (v1:(List Int)) (v2:(List Int)):Option (List Int):=
 eG k v0 v1 v2 (k+12) v1 0
theorem FI (k:Nat) (v0_0 v0_1 v0_2 v0_3:Int) (v1 v2:List Int):xC (k+13) none 194 [.agg [.lit (.int .i64 v0_0),.lit (.int .i64 v0_1),.lit (.int .i64 v0_2),.lit (.int .i64 v0_3)],.ro (List.map (aF .u64) v1),.ro (List.map (aF .i64) v2)]=ob (fS k (v0_0,v0_1,v0_2,v0_3) v1 v2) fun r=>some ((.ro (List.map (aF .u64) r)),[]):=by
 rw [aH]
 unfold fS
 simp (maxSteps:=2000000) -implicitDefEqProofs only [adB,YT,WT,Hb,oa,↓syP,syA,syD,simprocAttr,syE,ah,ag,ae,syW,xQ,pB k v0_0 v0_1 v0_2 v0_3 v1 v2]
def gL (k:Nat) (v0:(Int×Int×Int×Int)) (v1:(List Int)) (v2:(Int×Int×Int×Int×Int×Int×Int)):Option ((List Int)×(Int×Int×Int×Int×Int×Int×Int)):=
 ob (aQ 8 v1) fun xu=>
 ob (ki v0 v1 v2) fun x94=>
 bif !x94 then
 some (xu,v2)
 else
 bif v2.2.1==0 then
 ob (aL xu 2) fun x95=>
 some (xu,(v2.1,1,v2.2.2.1,v2.2.2.2.1,x95,v2.2.2.2.2.2))
 else
 bif v2.2.1==1 then
 bif v2.1==6 then
 ob (fP (k+2) v2.2.2.2.2.1) fun x96=>
 ob (dv xu 2 v2.2.2.2.2.1 x96.1) fun xv=>
 bif !xv.2 then
 some (xv.1,(v2.1,0,v2.2.2))
 else
 ob (dp v2.2.2.2.2.1) fun x98=>
 bif x98==0 then
 ob (a9 (v2.1,0,v2.2.2) 3 0) fun x99=>
 some (xv.1,x99)
 else
 some (xv.1,(v2.1,2,v2.2.2.1,v2.2.2.2.1,v2.2.2.2.2.1,x96.2,v2.2.2.2.2.2.2))
 else
 bif v2.1==7 then
 ob (fL v2.2.2.2.2.1) fun xq=>
 ob (dv xu 2 v2.2.2.2.2.1 xq.1) fun x101=>
 bif !x101.2 then
 some (x101.1,(v2.1,0,v2.2.2))
 else
 ob (dp v2.2.2.2.2.1) fun x102=>
 bif x102==0 then
 ob (a9 (v2.1,0,v2.2.2) 3 0) fun x103=>
 some (x101.1,x103)
 else
 some (x101.1,(v2.1,2,v2.2.2.1,v2.2.2.2.1,v2.2.2.2.2.1,xq.2,v2.2.2.2.2.2.2))
 else
 none
 else
 bif v2.1==6 then
 bif decide (v2.2.2.2.2.2.1<8) then
 ob (fS (k+2) v0 xu [IntKind.i64.wrap v2.2.2.2.2.2.1]) fun x104=>
 ob (a9 v2 1 v2.2.2.2.2.2.1) fun x105=>
 some (x104,x105)
 else
 ob (fS (k+2) v0 xu [(-1)]) fun x106=>
 ob (a9 v2 1 v2.2.2.2.2.2.1) fun x107=>
 some (x106,x107)
 else
 ob (gB (k+4) v2.2.2.2.2.2.1) fun x108=>
 ob (fS (k+2) v0 xu [x108]) fun xL=>
 ob (dp v2.2.2.2.2.2.1) fun xb=>
 bif wa IntKind.u64 xb (IntKind.u64.wrap (xb - 1))==0 then
 ob (dp v2.2.2.2.2.1) fun x111=>
 ob (a9 (v2.1,v2.2.1,v2.2.2.1,v2.2.2.2.1,v2.2.2.2.2.1,xb,v2.2.2.2.2.2.2) 1 x111) fun x112=>
 some (xL,x112)
 else
 bif xb==0 then
 ob (dp v2.2.2.2.2.1) fun xr=>
 ob (a9 (v2.1,v2.2.1,v2.2.2.1,v2.2.2.2.1,v2.2.2.2.2.1,xb,v2.2.2.2.2.2.2) 1 xr) fun x114=>
 some (xL,x114)
 else
 some (xL,(v2.1,v2.2.1,v2.2.2.1,v2.2.2.2.1,v2.2.2.2.2.1,(wa IntKind.u64 xb (IntKind.u64.wrap (xb - 1))),v2.2.2.2.2.2.2))
theorem FT (k:Nat) (v0_0 v0_1 v0_2 v0_3:Int) (v1:List Int) (v2_0 v2_1 v2_2 v2_3 v2_4 v2_5 v2_6:Int):xC (k+16) none 166 [.agg [.lit (.int .i64 v0_0),.lit (.int .i64 v0_1),.lit (.int .i64 v0_2),.lit (.int .i64 v0_3)],.ro (List.map (aF .u64) v1),.agg [.lit (.int .i64 v2_0),.lit (.int .i64 v2_1),.lit (.int .i64 v2_2),.lit (.int .u64 v2_3),.lit (.int .u64 v2_4),.lit (.int .u64 v2_5),.lit (.int .i64 v2_6)]]=ob (gL k (v0_0,v0_1,v0_2,v0_3) v1 (v2_0,v2_1,v2_2,v2_3,v2_4,v2_5,v2_6)) fun r=>some ((.tup [.ro (List.map (aF .u64) r.1),.agg [.lit (.int .i64 r.2.1),.lit (.int .i64 r.2.2.1),.lit (.int .i64 r.2.2.2.1),.lit (.int .u64 r.2.2.2.2.1),.lit (.int .u64 r.2.2.2.2.2.1),.lit (.int .u64 r.2.2.2.2.2.2.1),.lit (.int .i64 r.2.2.2.2.2.2.2)]]),[]):=by
 rw [aH]
 unfold gL
 simp (maxSteps:=2000000) -implicitDefEqProofs only [ah0,acK,LV,M8,K3,wF,wp,ww,Zl,VL,aH (g:=190),Ya,ON,Zc,PC,↓syP,syA,syD,simprocAttr,syE,ah,ag,ae,syW,xQ,dg,i8,f7,oe,GK,oS,AF,Av,FI]
end Go.Ab
set_option maxRecDepth 100000
set_option linter.unusedVariables false
set_option linter.unusedSimpArgs false
namespace Go.Ab
open Go.Proofs
def kx (v0:(Int×Int×Int×Int)) (v1:(List Int)) (v2:(Int×Int×Int×Int×Int×Int×Int)):Option ((List Int)×(Int×Int×Int×Int×Int×Int×Int)):=
 ob (aQ 8 v1) fun xj=>
 ob (eZ v0 v1 v2 0 4) fun x15=>
 bif x15 then
 bif v2.2.1==0 then
 ob (dy v0 v2.2.2.1) fun x16=>
 ob (aL xj x16) fun x17=>
 some (xj,(v2.1,1,v2.2.2.1,v2.2.2.2.1,x17,v2.2.2.2.2.2))
 else
 bif v2.2.1==1 then
 ob (ii v0 v2.2.2.1) fun x18=>
 ob (aL xj x18) fun x19=>
 bif decide (IntKind.u64.wrap v0.2.1≤IntKind.u64.wrap (v2.2.2.2.2.1 - x19)) then
 ob (a9 (v2.1,2,v2.2.2.1,v2.2.2.2.1,v2.2.2.2.2.1,x19,v2.2.2.2.2.2.2) 2 v2.2.2.2.1) fun x20=>
 some (xj,x20)
 else
 some (xj,(v2.1,2,v2.2.2.1,v2.2.2.2.1,v2.2.2.2.2.1,x19,v2.2.2.2.2.2.2))
 else
 bif v2.2.1==2 then
 ob (gf v0 v2.2.2.1 v2.2.2.2.2.1) fun x21=>
 ob (bw xj x21 v2.2.2.2.1) fun x22=>
 some (x22,(v2.1,3,v2.2.2))
 else
 bif v2.2.1==3 then
 ob (dy v0 v2.2.2.1) fun x23=>
 ob (bw xj x23 (IntKind.u64.wrap (v2.2.2.2.2.1+1))) fun x24=>
 ob (a9 v2 1 v2.2.2.2.1) fun x25=>
 some (x24,x25)
 else
 none
 else
 some (xj,v2)
theorem GO (k:Nat) (v0_0 v0_1 v0_2 v0_3:Int) (v1:List Int) (v2_0 v2_1 v2_2 v2_3 v2_4 v2_5 v2_6:Int):xC (k+24) none 207 [.agg [.lit (.int .i64 v0_0),.lit (.int .i64 v0_1),.lit (.int .i64 v0_2),.lit (.int .i64 v0_3)],.ro (List.map (aF .u64) v1),.agg [.lit (.int .i64 v2_0),.lit (.int .i64 v2_1),.lit (.int .i64 v2_2),.lit (.int .u64 v2_3),.lit (.int .u64 v2_4),.lit (.int .u64 v2_5),.lit (.int .i64 v2_6)]]=ob (kx (v0_0,v0_1,v0_2,v0_3) v1 (v2_0,v2_1,v2_2,v2_3,v2_4,v2_5,v2_6)) fun r=>some ((.tup [.ro (List.map (aF .u64) r.1),.agg [.lit (.int .i64 r.2.1),.lit (.int .i64 r.2.2.1),.lit (.int .i64 r.2.2.2.1),.lit (.int .u64 r.2.2.2.2.1),.lit (.int .u64 r.2.2.2.2.2.1),.lit (.int .u64 r.2.2.2.2.2.2.1),.lit (.int .i64 r.2.2.2.2.2.2.2)]]),[]):=by
 rw [aH]
 unfold kx
 simp (maxSteps:=2000000) -implicitDefEqProofs only [aio,ZU,NG,uw,afN,Z7,ah5,act,ahr,ac9,af9,ab4,↓syP,syA,syD,simprocAttr,syE,ah,ag,ae,syW,xQ,dg,dX,f7,mN,iu,pD,kA]
def lO (v0:(Int×Int×Int×Int)) (v1:(List Int)) (v2:(Int×Int×Int×Int×Int×Int×Int)):Option ((List Int)×(Int×Int×Int×Int×Int×Int×Int)):=
 ob (aQ 8 v1) fun xT=>
 ob (eZ v0 v1 v2 1 7) fun x55=>
 bif !x55 then
 some (xT,v2)
 else
 ob (ii v0 v2.2.2.1) fun x56=>
 ob (dy v0 v2.2.2.1) fun xp=>
 bif v2.2.1==0 then
 ob (aL xT xp) fun x58=>
 some (xT,(v2.1,(IntKind.i64.wrap (v2.2.1+1)),v2.2.2.1,v2.2.2.2.1,(IntKind.u64.wrap (x58 - 1)),v2.2.2.2.2.2))
 else
 bif v2.2.1==1 then
 ob (bw xT xp v2.2.2.2.2.1) fun xV=>
 some (xV,(v2.1,(IntKind.i64.wrap (v2.2.1+1)),v2.2.2))
 else
 bif v2.2.1==2 then
 ob (aL xT x56) fun x60=>
 ob (ft v2.2.2.2.2.1 x60) fun xk=>
 bif decide (xk<0) then
 some (xT,(v2.1,6,v2.2.2.1,v2.2.2.2.1,v2.2.2.2.2.1,x60,v2.2.2.2.2.2.2))
 else
 some (xT,(v2.1,(IntKind.i64.wrap (v2.2.1+1)),v2.2.2.1,v2.2.2.2.1,v2.2.2.2.2.1,x60,v2.2.2.2.2.2.2))
 else
 bif v2.2.1==3 then
 ob (gf v0 v2.2.2.1 v2.2.2.2.2.1) fun xP=>
 ob (aL xT xP) fun xN=>
 bif v2.2.2.2.2.1 !=v2.2.2.2.2.2.1 then
 ob (a9 (v2.1,v2.2.1,v2.2.2.1,xN,v2.2.2.2.2) 1 xN) fun x64=>
 some (xT,x64)
 else
 some (xT,(v2.1,(IntKind.i64.wrap (v2.2.1+1)),v2.2.2.1,xN,v2.2.2.2.2))
 else
 bif v2.2.1==4 then
 ob (dv xT x56 v2.2.2.2.2.2.1 (IntKind.u64.wrap (v2.2.2.2.2.2.1+1))) fun xc=>
 bif !xc.2 then
 some (xc.1,(v2.1,6,v2.2.2))
 else
 some (xc.1,(v2.1,(IntKind.i64.wrap (v2.2.1+1)),v2.2.2))
 else
 bif v2.2.1==5 then
 ob (bw xT xp (IntKind.u64.wrap (v2.2.2.2.2.1+1))) fun x66=>
 ob (a9 v2 1 v2.2.2.2.1) fun x67=>
 some (x66,x67)
 else
 ob (bw xT xp (IntKind.u64.wrap (v2.2.2.2.2.1+1))) fun x68=>
 ob (a9 v2 3 0) fun x69=>
 some (x68,x69)
theorem J5 (k:Nat) (v0_0 v0_1 v0_2 v0_3:Int) (v1:List Int) (v2_0 v2_1 v2_2 v2_3 v2_4 v2_5 v2_6:Int):xC (k+24) none 208 [.agg [.lit (.int .i64 v0_0),.lit (.int .i64 v0_1),.lit (.int .i64 v0_2),.lit (.int .i64 v0_3)],.ro (List.map (aF .u64) v1),.agg [.lit (.int .i64 v2_0),.lit (.int .i64 v2_1),.lit (.int .i64 v2_2),.lit (.int .u64 v2_3),.lit (.int .u64 v2_4),.lit (.int .u64 v2_5),.lit (.int .i64 v2_6)]]=ob (lO (v0_0,v0_1,v0_2,v0_3) v1 (v2_0,v2_1,v2_2,v2_3,v2_4,v2_5,v2_6)) fun r=>some ((.tup [.ro (List.map (aF .u64) r.1),.agg [.lit (.int .i64 r.2.1),.lit (.int .i64 r.2.2.1),.lit (.int .i64 r.2.2.2.1),.lit (.int .u64 r.2.2.2.2.1),.lit (.int .u64 r.2.2.2.2.2.1),.lit (.int .u64 r.2.2.2.2.2.2.1),.lit (.int .i64 r.2.2.2.2.2.2.2)]]),[]):=by
 rw [aH]
 unfold lO
 simp (maxSteps:=2000000) -implicitDefEqProofs only [afB,ZF,aeW,Zk,↓syP,syA,syD,simprocAttr,syE,ah,ag,ae,syW,xQ,dg,dX,i8,f7,mN,iu,pD,lD,kA]
def ar (k : Nat) (v0 : (Int × Int × Int × Int)) (v1 : (List Int)) (v2 : (Int × Int × Int × Int × Int × Int × Int))  : Nat → List Int → Int → Int → Int → Option ((List Int) × (Int × Int × Int × Int × Int × Int × Int))
 | 0,_,_,_,_ => none
 | n + 1,sB,sL,sN,sA =>
 bif decide (sA < (4 : Int)) then
 bif decide ((0 : Int) ≤ sA ∧ sA.toNat < (4 : Nat)) then
 bif sA.toNat == (0 : Nat) then
 bif sA != v2.2.1 then
 ar k v0 v1 v2  n (sB) (sL) (sN) (IntKind.i64.wrap (sA + (1 : Int)))
 else
 ob (aL sB sL) fun xO =>
 ob (aN (v2.1,v2.2.1,v2.2.2.1,v2.2.2.2.1,v2.2.2.2.2.1,xO,v2.2.2.2.2.2.2)) fun x153 =>
 bif !x153 then
 some ((sB),((v2.1),(IntKind.i64.wrap (v2.2.1 + (1 : Int))),(v2.2.2.1),(v2.2.2.2.1),(v2.2.2.2.2.1),(xO),(v2.2.2.2.2.2.2)))
 else
 some ((sB),((v2.1),(v2.2.1),(v2.2.2.1),(v2.2.2.2.1),(v2.2.2.2.2.1),(xO),(v2.2.2.2.2.2.2)))
 else
 bif sA.toNat == (1 : Nat) then
 bif sA != v2.2.1 then
 ar k v0 v1 v2  n (sB) (sL) (sN) (IntKind.i64.wrap (sA + (1 : Int)))
 else
 ob (aL sB sN) fun xl =>
 ob (ft xl v2.2.2.2.2.2.1) fun xx =>
 bif decide (xx ≤ (0 : Int)) then
 ob (a9 (v2.1,v2.2.1,v2.2.2.1,v2.2.2.2.1,xl,v2.2.2.2.2.2.1,v2.2.2.2.2.2.2) (3 : Int) (0 : Int)) fun xI =>
 ob (aN (xI.1,xI.2.1,xI.2.2.1,xI.2.2.2.1,xI.2.2.2.2.1,xI.2.2.2.2.2.1,xI.2.2.2.2.2.2)) fun x157 =>
 bif !x157 then
 some ((sB),((xI.1),(IntKind.i64.wrap (xI.2.1 + (1 : Int))),(xI.2.2.1),(xI.2.2.2.1),(xI.2.2.2.2.1),(xI.2.2.2.2.2.1),(xI.2.2.2.2.2.2)))
 else
 some ((sB),((xI.1),(xI.2.1),(xI.2.2.1),(xI.2.2.2.1),(xI.2.2.2.2.1),(xI.2.2.2.2.2.1),(xI.2.2.2.2.2.2)))
 else
 ob (aN (v2.1,v2.2.1,v2.2.2.1,v2.2.2.2.1,xl,v2.2.2.2.2.2.1,v2.2.2.2.2.2.2)) fun x158 =>
 bif !x158 then
 some ((sB),((v2.1),(IntKind.i64.wrap (v2.2.1 + (1 : Int))),(v2.2.2.1),(v2.2.2.2.1),(xl),(v2.2.2.2.2.2.1),(v2.2.2.2.2.2.2)))
 else
 some ((sB),((v2.1),(v2.2.1),(v2.2.2.1),(v2.2.2.2.1),(xl),(v2.2.2.2.2.2.1),(v2.2.2.2.2.2.2)))
 else
 bif sA.toNat == (2 : Nat) then
 bif sA != v2.2.1 then
 ar k v0 v1 v2  n (sB) (sL) (sN) (IntKind.i64.wrap (sA + (1 : Int)))
 else
 ob (gf (v0.1,v0.2.1,v0.2.2.1,v0.2.2.2) v2.2.2.1 v2.2.2.2.2.2.1) fun x159 =>
 ob (aL sB x159) fun xm =>
 ob (aN (v2.1,v2.2.1,v2.2.2.1,xm,v2.2.2.2.2.1,v2.2.2.2.2.2.1,v2.2.2.2.2.2.2)) fun x161 =>
 bif !x161 then
 some ((sB),((v2.1),(IntKind.i64.wrap (v2.2.1 + (1 : Int))),(v2.2.2.1),(xm),(v2.2.2.2.2.1),(v2.2.2.2.2.2.1),(v2.2.2.2.2.2.2)))
 else
 some ((sB),((v2.1),(v2.2.1),(v2.2.2.1),(xm),(v2.2.2.2.2.1),(v2.2.2.2.2.2.1),(v2.2.2.2.2.2.2)))
 else
 bif sA.toNat == (3 : Nat) then
 bif sA != v2.2.1 then
 ar k v0 v1 v2  n (sB) (sL) (sN) (IntKind.i64.wrap (sA + (1 : Int)))
 else
 ob (dv sB sL v2.2.2.2.2.2.1 (IntKind.u64.wrap (v2.2.2.2.2.2.1 + (1 : Int)))) fun xa =>
 bif xa.2 then
 ob (a9 (v2.1,v2.2.1,v2.2.2.1,v2.2.2.2.1,v2.2.2.2.2.1,v2.2.2.2.2.2.1,v2.2.2.2.2.2.2) (1 : Int) v2.2.2.2.1) fun xJ =>
 ob (aN (xJ.1,xJ.2.1,xJ.2.2.1,xJ.2.2.2.1,xJ.2.2.2.2.1,xJ.2.2.2.2.2.1,xJ.2.2.2.2.2.2)) fun x164 =>
 bif !x164 then
 some ((xa.1),((xJ.1),(IntKind.i64.wrap (xJ.2.1 + (1 : Int))),(xJ.2.2.1),(xJ.2.2.2.1),(xJ.2.2.2.2.1),(xJ.2.2.2.2.2.1),(xJ.2.2.2.2.2.2)))
 else
 some ((xa.1),((xJ.1),(xJ.2.1),(xJ.2.2.1),(xJ.2.2.2.1),(xJ.2.2.2.2.1),(xJ.2.2.2.2.2.1),(xJ.2.2.2.2.2.2)))
 else
 ob (a9 (v2.1,v2.2.1,v2.2.2.1,v2.2.2.2.1,v2.2.2.2.2.1,v2.2.2.2.2.2.1,v2.2.2.2.2.2.2) (4 : Int) (0 : Int)) fun xK =>
 ob (aN (xK.1,xK.2.1,xK.2.2.1,xK.2.2.2.1,xK.2.2.2.2.1,xK.2.2.2.2.2.1,xK.2.2.2.2.2.2)) fun x166 =>
 bif !x166 then
 some ((xa.1),((xK.1),(IntKind.i64.wrap (xK.2.1 + (1 : Int))),(xK.2.2.1),(xK.2.2.2.1),(xK.2.2.2.2.1),(xK.2.2.2.2.2.1),(xK.2.2.2.2.2.2)))
 else
 some ((xa.1),((xK.1),(xK.2.1),(xK.2.2.1),(xK.2.2.2.1),(xK.2.2.2.2.1),(xK.2.2.2.2.2.1),(xK.2.2.2.2.2.2)))
 else
 none
 else
 none
 else
 some ((sB),((v2.1),(v2.2.1),(v2.2.2.1),(v2.2.2.2.1),(v2.2.2.2.2.1),(v2.2.2.2.2.2.1),(v2.2.2.2.2.2.2)))
theorem pf (k:Nat) (v0_0 v0_1 v0_2 v0_3:Int) (v1:List Int) (v2_0 v2_1 v2_2 v2_3 v2_4 v2_5 v2_6:Int):∀ (n:Nat) (sB:List Int) (sL sN sA:Int) ⦃sj sk:Bool⦄ ⦃j115 j116:V⦄,rt none (itX (xX (xS (k+23)) 209 0 (k+23) false) Cr (9) (au (xX (xS (k+23)) 209 0 (k+23) false) (ap (xS (k+23)).P Tryz.f209) BZ) n ⟨[.agg [.lit (.int .i64 v0_0),.lit (.int .i64 v0_1),.lit (.int .i64 v0_2),.lit (.int .i64 v0_3)],.ro (List.map (aF IntKind.u64) v1),.agg [.lit (.int .i64 v2_0),.lit (.int .i64 v2_1),.lit (.int .i64 v2_2),.lit (.int .u64 v2_3),.lit (.int .u64 v2_4),.lit (.int .u64 v2_5),.lit (.int .i64 v2_6)],.ptr 0 0 0 0,uu,.ptr 1 0 0 0,.own 2 0 0,.ptr 3 0 0 0,.ptr 5 0 0 0,.ptr 6 0 0 0,.ptr 7 0 0 0,.own 8 0 4,j115,j116,.ro (List.map (aF IntKind.u64) v1),.ro (List.map (aF IntKind.u64) sB),.agg [.lit (.int .i64 v0_0),.lit (.int .i64 v0_1),.lit (.int .i64 v0_2),.lit (.int .i64 v0_3)],.ro (List.map (aF IntKind.u64) v1),.agg [.lit (.int .i64 v2_0),.lit (.int .i64 v2_1),.lit (.int .i64 v2_2),.lit (.int .u64 v2_3),.lit (.int .u64 v2_4),.lit (.int .u64 v2_5),.lit (.int .i64 v2_6)],.lit (.bool sj),.lit (.bool sk),uu,uu,.agg [.lit (.int .i64 v0_0),.lit (.int .i64 v0_1),.lit (.int .i64 v0_2),.lit (.int .i64 v0_3)],.ptr 1 0 0 2,.lit (.int .i64 v2_2),.lit (.int .i64 sL),.agg [.lit (.int .i64 v0_0),.lit (.int .i64 v0_1),.lit (.int .i64 v0_2),.lit (.int .i64 v0_3)],.ptr 1 0 0 2,.lit (.int .i64 v2_2),.lit (.int .i64 sN),.fn (Fn.func (229:FuncId)) [] [.ptr 5 0 0 0,.ptr 6 0 0 0,.ptr 1 0 0 0],.fn (Fn.func (230:FuncId)) [] [.ptr 5 0 0 0,.ptr 7 0 0 0,.ptr 1 0 0 0],.fn (Fn.func (231:FuncId)) [] [.ptr 5 0 0 0,.ptr 0 0 0 0,.ptr 1 0 0 0],.fn (Fn.func (232:FuncId)) [] [.ptr 5 0 0 0,.ptr 6 0 0 0,.ptr 1 0 0 0],.own 8 0 4,.own 8 0 4,.lit (.int .i64 (4:Int)),.lit (.int .i64 sA),.junk,.junk,.junk,.junk,.junk,.junk,.junk,.junk,.junk,.junk,.junk,.junk,.junk,.junk,.junk,.junk,.junk,.junk,uu,uu],[.box [.lit (.int .i64 v0_0),.lit (.int .i64 v0_1),.lit (.int .i64 v0_2),.lit (.int .i64 v0_3)],.box [.lit (.int .i64 v2_0),.lit (.int .i64 v2_1),.lit (.int .i64 v2_2),.lit (.int .u64 v2_3),.lit (.int .u64 v2_4),.lit (.int .u64 v2_5),.lit (.int .i64 v2_6)],.rows 0 [] 0 true,.box [.lit (.int .i64 (0:Int)),.lit (.int .i64 (0:Int)),.lit (.int .i64 (0:Int)),.lit (.int .u64 (0:Int)),.lit (.int .u64 (0:Int)),.lit (.int .u64 (0:Int)),.lit (.int .i64 (0:Int))],.rows 0 [] 0 true,.box [.ro (List.map (aF IntKind.u64) sB)],.box [.lit (.int .i64 sL)],.box [.lit (.int .i64 sN)],.rows 1 [[.fn (Fn.func (229:FuncId)) [] [.ptr 5 0 0 0,.ptr 6 0 0 0,.ptr 1 0 0 0]],[.fn (Fn.func (230:FuncId)) [] [.ptr 5 0 0 0,.ptr 7 0 0 0,.ptr 1 0 0 0]],[.fn (Fn.func (231:FuncId)) [] [.ptr 5 0 0 0,.ptr 0 0 0 0,.ptr 1 0 0 0]],[.fn (Fn.func (232:FuncId)) [] [.ptr 5 0 0 0,.ptr 6 0 0 0,.ptr 1 0 0 0]]] 0 true]⟩)=ob (ar k (v0_0,v0_1,v0_2,v0_3) v1 (v2_0,v2_1,v2_2,v2_3,v2_4,v2_5,v2_6)  n sB sL sN sA) fun r=>some ((.tup [.ro (List.map (aF .u64) r.1),.agg [.lit (.int .i64 r.2.1),.lit (.int .i64 r.2.2.1),.lit (.int .i64 r.2.2.2.1),.lit (.int .u64 r.2.2.2.2.1),.lit (.int .u64 r.2.2.2.2.2.1),.lit (.int .u64 r.2.2.2.2.2.2.1),.lit (.int .i64 r.2.2.2.2.2.2.2)]]),[]):=by
 intro n
 induction n with
 | zero=>intros;rfl
 | succ n ih=>
  intro sB sL sN sA sj sk j115 j116
  rw [ar]
  simp (maxSteps:=2000000) -implicitDefEqProofs only [abA,VD,V7,Gb,nN,abY,YH,acZ,V9,aa7,Y9,adP,XE,↓syP,syA,syD,simprocAttr,syE,ah,ag,ae,syW,xQ,dg,i8,fd,f7,mN,iu,pD,lD,kA,Nl,ih]
def ic (k:Nat) (v0:(Int×Int×Int×Int)) (v1:(List Int)) (v2:(Int×Int×Int×Int×Int×Int×Int)):Option ((List Int)×(Int×Int×Int×Int×Int×Int×Int)):=
 ob (aQ 8 v1) fun x167=>
 ob (eZ v0 v1 v2 2 4) fun x168=>
 bif !x168 then
 some (x167,v2)
 else
 ob (ii v0 v2.2.2.1) fun x169=>
 ob (dy v0 v2.2.2.1) fun x170=>
 ar k v0 v1 v2 (k+23) x167 x169 x170 0
theorem DU (k:Nat) (v0_0 v0_1 v0_2 v0_3:Int) (v1:List Int) (v2_0 v2_1 v2_2 v2_3 v2_4 v2_5 v2_6:Int):xC (k+24) none 209 [.agg [.lit (.int .i64 v0_0),.lit (.int .i64 v0_1),.lit (.int .i64 v0_2),.lit (.int .i64 v0_3)],.ro (List.map (aF .u64) v1),.agg [.lit (.int .i64 v2_0),.lit (.int .i64 v2_1),.lit (.int .i64 v2_2),.lit (.int .u64 v2_3),.lit (.int .u64 v2_4),.lit (.int .u64 v2_5),.lit (.int .i64 v2_6)]]=ob (ic k (v0_0,v0_1,v0_2,v0_3) v1 (v2_0,v2_1,v2_2,v2_3,v2_4,v2_5,v2_6)) fun r=>some ((.tup [.ro (List.map (aF .u64) r.1),.agg [.lit (.int .i64 r.2.1),.lit (.int .i64 r.2.2.1),.lit (.int .i64 r.2.2.2.1),.lit (.int .u64 r.2.2.2.2.1),.lit (.int .u64 r.2.2.2.2.2.1),.lit (.int .u64 r.2.2.2.2.2.2.1),.lit (.int .i64 r.2.2.2.2.2.2.2)]]),[]):=by
 rw [aH]
 unfold ic
 simp (maxSteps:=2000000) -implicitDefEqProofs only [abA,VD,V7,Gb,nN,abY,YH,acZ,V9,aa7,Y9,adP,XE,↓syP,syA,syD,simprocAttr,syE,ah,ag,ae,syW,xQ,mN,iu,kA,pf k v0_0 v0_1 v0_2 v0_3 v1 v2_0 v2_1 v2_2 v2_3 v2_4 v2_5 v2_6]
def ff (k:Nat) (v0:(Int×Int×Int×Int)) (v1:(List Int)) (v2:(Int×Int×Int×Int×Int×Int×Int)):Option ((List Int)×(Int×Int×Int×Int×Int×Int×Int)):=
 bif v2.1==0 then
 ob (kx v0 v1 v2) fun x179=>
 some x179
 else
 bif v2.1==1 then
 ob (lO v0 v1 v2) fun x180=>
 some x180
 else
 bif v2.1==2 then
 ob (ic (k+1) v0 v1 v2) fun x181=>
 some x181
 else
 ob (aQ 8 v1) fun x182=>
 some (x182,v2)
theorem EC (k:Nat) (v0_0 v0_1 v0_2 v0_3:Int) (v1:List Int) (v2_0 v2_1 v2_2 v2_3 v2_4 v2_5 v2_6:Int):xC (k+26) none 180 [.agg [.lit (.int .i64 v0_0),.lit (.int .i64 v0_1),.lit (.int .i64 v0_2),.lit (.int .i64 v0_3)],.ro (List.map (aF .u64) v1),.agg [.lit (.int .i64 v2_0),.lit (.int .i64 v2_1),.lit (.int .i64 v2_2),.lit (.int .u64 v2_3),.lit (.int .u64 v2_4),.lit (.int .u64 v2_5),.lit (.int .i64 v2_6)]]=ob (ff k (v0_0,v0_1,v0_2,v0_3) v1 (v2_0,v2_1,v2_2,v2_3,v2_4,v2_5,v2_6)) fun r=>some ((.tup [.ro (List.map (aF .u64) r.1),.agg [.lit (.int .i64 r.2.1),.lit (.int .i64 r.2.2.1),.lit (.int .i64 r.2.2.2.1),.lit (.int .u64 r.2.2.2.2.1),.lit (.int .u64 r.2.2.2.2.2.1),.lit (.int .u64 r.2.2.2.2.2.2.1),.lit (.int .i64 r.2.2.2.2.2.2.2)]]),[]):=by
 rw [aH]
 unfold ff
 simp (maxSteps:=2000000) -implicitDefEqProofs only [ahU,acs,↓syP,syA,syD,simprocAttr,syE,ah,ag,ae,syW,xQ,GO,J5,DU]
end Go.Ab
set_option maxRecDepth 100000
set_option linter.unusedVariables false
set_option linter.unusedSimpArgs false
namespace Go.Ab
open Go.Proofs
def f8 (v0:Int) (v1:Int):Option Bool:=
 bif decide (0≤v0) then
 some (decide (v0≤v1))
 else
 some false
theorem A8 (k:Nat) (v0 v1:Int):xC (k+1) none 172 [.lit (.int .i64 v0),.lit (.int .i64 v1)]=ob (f8 v0 v1) fun r=>some ((.lit (.bool r)),[]):=by
 rw [aH]
 unfold f8
 simp (maxSteps:=2000000) -implicitDefEqProofs only [aiC,aaB,LN,wU,↓syP,syA,syD,simprocAttr,syE,ah,ag,ae,syW,xQ]
def bZ (k:Nat)   : Nat→Tye→Int→Tyt→Int→Option Int
 | 0,_,_,_,_=>none
 | n+1,s3,s4,s5,sJ=>
 bif decide (sJ<s4) then
 ob (idx s3 sJ) fun xd=>
 ob (f8 xd.1 (IntKind.i64.wrap ((↑s5.length:Int) - (1:Int)))) fun xw=>
 bif !xw then
 some (sJ)
 else
 ob (idx s5 xd.1) fun xs=>
 ob (f8 xd.2.1 xs.1) fun x34=>
 bif !x34 then
 some (sJ)
 else
 ob (f8 xd.2.2 (↑xs.2.length:Int)) fun x35=>
 bif !x35 then
 some (sJ)
 else
 bif decide (xd.2.1<xs.1) then
 bif decide ((0:Int)<xd.2.2) then
 some (sJ)
 else
 bZ k   n (s3) (s4) (s5) (IntKind.i64.wrap (sJ+(1:Int)))
 else
 bZ k   n (s3) (s4) (s5) (IntKind.i64.wrap (sJ+(1:Int)))
 else
 some ((-1:Int))
theorem nr (k:Nat)  : ∀ (n:Nat) (s3:Tye) (s4:Int) (s5:Tyt) (sJ:Int) ⦃j12:V⦄,itX (xX (xS (k+17)) 206 0 (k+17) false) Cc (1) (au (xX (xS (k+17)) 206 0 (k+17) false) (ap (xS (k+17)).P Tryz.f206) CO) n ⟨[.ro (List.map aJ s3),.fn (Fn.func (171:FuncId)) [] [.ptr 0 0 0 0],uu,uu,.lit (.int .i64 (0:Int)),j12,.ro (List.map aJ s3),.lit (.int .i64 s4),.lit (.int .i64 sJ),.junk,.junk,.junk,.junk,.junk,.junk,.junk,.junk,.junk,.junk],[.box [.ro (List.map an s5)]]⟩=ob (bZ k   n s3 s4 s5 sJ) fun r=>some ((.lit (.int .i64 r),[.box [.ro (List.map an s5)]])):=by
 intro n
 induction n with
 | zero=>intros;rfl
 | succ n ih=>
  intro s3 s4 s5 sJ j12
  rw [bZ]
  simp (maxSteps:=2000000) -implicitDefEqProofs only [ab2,WI,G4,oj,aah,YD,Z2,UP,GG,Gc,Hn,GS,Gv,Gd,nW,aaU,VJ,UV,Hj,nZ,↓syP,syA,syD,simprocAttr,syE,ah,ag,ae,syW,xQ,A8,NR,ih]
def fX (k:Nat) (v0:Tyt) (v1:Tye):Option Bool:=
 ob (dc k v0) fun xU=>
 bif xU then
 ob (bZ k (k+17) v1 (↑v1.length:Int) v0 0) fun xE=>
 some (!decide (0≤xE))
 else
 some false
theorem nI (k:Nat) (v0:Tyt) (v1:Tye):xC (k+20) none 146 [.ro (List.map an v0),.ro (List.map aJ v1)]=ob (fX k v0 v1) fun r=>some ((.lit (.bool r)),[]):=by
 rw [aH]
 unfold fX
 simp (maxSteps:=2000000) -implicitDefEqProofs only [ab2,WI,G4,oj,aah,YD,Z2,UP,GG,Gc,Hn,GS,Gv,Gd,nW,aaU,VJ,UV,Hj,nZ,↓syP,syA,syD,simprocAttr,syE,ah,ag,ae,syW,xQ,da,nr]
def bg (k:Nat) (v0:Tye) (v1:Tye)  : Nat→Int→Option Bool
 | 0,_=>none
 | n+1,sX=>
 bif decide (sX<(↑v0.length:Int)) then
 ob (idx v0 sX) fun xy=>
 ob (idx v1 sX) fun xz=>
 bif !(xy.1==xz.1&&(xy.2.1==xz.2.1&&xy.2.2==xz.2.2)) then
 some (false)
 else
 bg k v0 v1  n (IntKind.i64.wrap (sX+(1:Int)))
 else
 some (true)
theorem iR (k:Nat) (v0 v1:Tye):∀ (n:Nat) (sX:Int) ⦃j45:V⦄,rt none (itX (xX (xS k) 145 0 k false) CD (0) (au (xX (xS k) 145 0 k false) (ap (xS k).P Tryz.f145) C5) n ⟨[.ro (List.map aJ v0),.ro (List.map aJ v1),uu,uu,.lit (.bool false),j45,.ro (List.map aJ v0),.lit (.int .i64 (↑v0.length:Int)),.ro (List.map aJ v1),.lit (.int .i64 (↑v1.length:Int)),.lit (.bool ((↑v0.length:Int)!=(↑v1.length:Int))),.ro (List.map aJ v0),.lit (.int .i64 (↑v0.length:Int)),.lit (.int .i64 sX),.junk,.junk,.junk,.junk,.junk,.junk,.junk,.junk,.junk,.junk,.junk,.junk],[]⟩)=ob (bg k v0 v1  n sX) fun r=>some ((.lit (.bool r)),[]):=by
 intro n
 induction n with
 | zero=>intros;rfl
 | succ n ih=>
  intro sX j45
  rw [bg]
  simp (maxSteps:=2000000) -implicitDefEqProofs only [ZJ,VA,YF,FG,nE,↓syP,syA,syD,simprocAttr,syE,ah,ag,ae,syW,xQ,Lb,ih]
def dq (k:Nat) (v0:Tye) (v1:Tye):Option Bool:=
 bif (↑v0.length:Int)!=(↑v1.length:Int) then
 some false
 else
 bg k v0 v1 k 0
theorem my (k:Nat) (v0 v1:Tye):xC (k+1) none 145 [.ro (List.map aJ v0),.ro (List.map aJ v1)]=ob (dq k v0 v1) fun r=>some ((.lit (.bool r)),[]):=by
 rw [aH]
 unfold dq
 simp (maxSteps:=2000000) -implicitDefEqProofs only [ZJ,VA,YF,FG,nE,↓syP,syA,syD,simprocAttr,syE,ah,ag,ae,syW,xQ,iR k v0 v1]
def ij (k:Nat) (v0:Tye) (v1:Tye):Option Bool:=
 ob (dq k v0 v1) fun xT=>
 some xT
theorem Fc (k:Nat) (v0 v1:Tye):xC (k+2) none 92 [.ro (List.map aJ v0),.ro (List.map aJ v1)]=ob (ij k v0 v1) fun r=>some ((.lit (.bool r)),[]):=by
 rw [aH]
 unfold ij
 simp (maxSteps:=2000000) -implicitDefEqProofs only [akJ,ajt,↓syP,syA,syD,simprocAttr,syE,ah,ag,ae,syW,xQ,my]
def dW (k:Nat) (v0:Tyt) (v1:Tye):Option (Int×Int):=
 bif (↑v1.length:Int)==0 then
 some (0,0)
 else
 ob (fX k v0 v1) fun x60=>
 bif !x60 then
 some (0,0)
 else
 ob (idx v1 (IntKind.i64.wrap ((↑v1.length:Int) - 1))) fun xk=>
 ob (idx v0 xk.1) fun xP=>
 bif decide (xk.2.1<xP.1) then
 some (1,xk.1)
 else
 bif decide (xk.2.2<(↑xP.2.length:Int)) then
 ob (idx xP.2 xk.2.2) fun xN=>
 some (2,xN)
 else
 some (3,xk.1)
theorem rV (k:Nat) (v0:Tyt) (v1:Tye):xC (k+21) none 162 [.ro (List.map an v0),.ro (List.map aJ v1)]=ob (dW k v0 v1) fun r=>some ((.agg [.lit (.int .i64 r.1),.lit (.int .i64 r.2)]),[]):=by
 rw [aH]
 unfold dW
 simp (maxSteps:=2000000) -implicitDefEqProofs only [ah8,ab1,Oa,Aa,↓syP,syA,syD,simprocAttr,syE,ah,ag,ae,syW,xQ,nI]
def gb (k:Nat) (v0:Tyt) (v1:Tye):Option Tye:=
 ob (aQ 24 v1) fun xH=>
 ob (dW k v0 v1) fun x75=>
 bif x75.1==1 then
 bif decide (0≤IntKind.i64.wrap ((↑xH.length:Int) - 1)∧(IntKind.i64.wrap ((↑xH.length:Int) - 1)).toNat<xH.length) then
 ob (xH[(IntKind.i64.wrap ((↑xH.length:Int) - 1)).toNat]?) fun x76=>
 bif decide (0≤IntKind.i64.wrap ((↑xH.length:Int) - 1)∧(IntKind.i64.wrap ((↑xH.length:Int) - 1)).toNat<xH.length) then
 ob (xH[(IntKind.i64.wrap ((↑xH.length:Int) - 1)).toNat]?) fun x77=>
 some (xH.set (IntKind.i64.wrap ((↑xH.length:Int) - 1)).toNat (x77.1,IntKind.i64.wrap (x76.2.1+1),x77.2.2))
 else
 none
 else
 none
 else
 bif x75.1==2 then
 bif decide (0≤IntKind.i64.wrap ((↑xH.length:Int) - 1)∧(IntKind.i64.wrap ((↑xH.length:Int) - 1)).toNat<xH.length) then
 ob (xH[(IntKind.i64.wrap ((↑xH.length:Int) - 1)).toNat]?) fun x78=>
 bif decide (0≤IntKind.i64.wrap ((↑xH.length:Int) - 1)∧(IntKind.i64.wrap ((↑xH.length:Int) - 1)).toNat<xH.length) then
 ob (xH[(IntKind.i64.wrap ((↑xH.length:Int) - 1)).toNat]?) fun x79=>
 some (xH.set (IntKind.i64.wrap ((↑xH.length:Int) - 1)).toNat (x79.1,x79.2.1,IntKind.i64.wrap (x78.2.2+1)))
 else
 none
 else
 none
 else
 bif x75.1==3 then
 ck (decide (0≤IntKind.i64.wrap ((↑xH.length:Int) - 1)∧(IntKind.i64.wrap ((↑xH.length:Int) - 1)).toNat≤xH.length)) (
 ck (decide ((IntKind.i64.wrap ((↑xH.length:Int) - 1)).toNat≤xH.length)) (
 some (List.take (IntKind.i64.wrap ((↑xH.length:Int) - 1)).toNat xH)))
 else
 some xH
theorem Kg (k:Nat) (v0:Tyt) (v1:Tye):xC (k+22) none 163 [.ro (List.map an v0),.ro (List.map aJ v1)]=ob (gb k v0 v1) fun r=>some ((.ro (List.map aJ r)),[]):=by
 rw [aH]
 unfold gb
 simp (maxSteps:=2000000) -implicitDefEqProofs only [afS,acb,agq,aa9,aH (g:=182),afF,Zo,ahL,ZQ,aeE,acX,↓syP,syA,syD,simprocAttr,syE,ah,ag,ae,syW,xQ,rV]
def dA (k:Nat) (v0:Tyt) (v1:Tye) (v2:Int):Option Tye:=
 ob (aQ 24 v1) fun x89=>
 ob (fX k v0 v1) fun x90=>
 bif !x90 then
 some x89
 else
 ob (f8 v2 (IntKind.i64.wrap ((↑v0.length:Int) - 1))) fun x91=>
 bif !x91 then
 some x89
 else
 bif room (x89++[(v2,0,0)]).length 24 then
 some (x89++[(v2,0,0)])
 else
 none
theorem CZ (k:Nat) (v0:Tyt) (v1:Tye) (v2:Int):xC (k+21) none 181 [.ro (List.map an v0),.ro (List.map aJ v1),.lit (.int .i64 v2)]=ob (dA k v0 v1 v2) fun r=>some ((.ro (List.map aJ r)),[]):=by
 rw [aH]
 unfold dA
 simp (maxSteps:=2000000) -implicitDefEqProofs only [afd,aas,Ol,wQ,↓syP,syA,syD,simprocAttr,syE,ah,ag,ae,syW,xQ,A8,nI]
end Go.Ab
set_option maxRecDepth 100000
set_option linter.unusedVariables false
set_option linter.unusedSimpArgs false
namespace Go.Ab
open Go.Proofs
def cz (k:Nat) (v0:(Int×Int×Int×Int)) (v1:(List Int)) (v2:(Int×Int×Int×Int×Int×Int×Int)):Option ((List Int)×(Int×Int×Int×Int×Int×Int×Int)):=
 bif v2.1==5 then
 ob (kC v0 v1 v2) fun x6=>
 some x6
 else
 bif v2.1==6 then
 bif v2.1==6 then
 ob (gL k v0 v1 v2) fun x7=>
 some x7
 else
 ob (aQ 8 v1) fun x8=>
 some (x8,v2)
 else
 bif v2.1==7 then
 ob (gL k v0 v1 v2) fun x9=>
 some x9
 else
 ob (aQ 8 v1) fun x10=>
 some (x10,v2)
theorem rF (k:Nat) (v0_0 v0_1 v0_2 v0_3:Int) (v1:List Int) (v2_0 v2_1 v2_2 v2_3 v2_4 v2_5 v2_6:Int):xC (k+17) none 134 [.agg [.lit (.int .i64 v0_0),.lit (.int .i64 v0_1),.lit (.int .i64 v0_2),.lit (.int .i64 v0_3)],.ro (List.map (aF .u64) v1),.agg [.lit (.int .i64 v2_0),.lit (.int .i64 v2_1),.lit (.int .i64 v2_2),.lit (.int .u64 v2_3),.lit (.int .u64 v2_4),.lit (.int .u64 v2_5),.lit (.int .i64 v2_6)]]=ob (cz k (v0_0,v0_1,v0_2,v0_3) v1 (v2_0,v2_1,v2_2,v2_3,v2_4,v2_5,v2_6)) fun r=>some ((.tup [.ro (List.map (aF .u64) r.1),.agg [.lit (.int .i64 r.2.1),.lit (.int .i64 r.2.2.1),.lit (.int .i64 r.2.2.2.1),.lit (.int .u64 r.2.2.2.2.1),.lit (.int .u64 r.2.2.2.2.2.1),.lit (.int .u64 r.2.2.2.2.2.2.1),.lit (.int .i64 r.2.2.2.2.2.2.2)]]),[]):=by
 rw [aH]
 unfold cz
 simp (maxSteps:=2000000) -implicitDefEqProofs only [ahB,ZE,Lg,wz,↓syP,syA,syD,simprocAttr,syE,ah,ag,ae,syW,xQ,F3,FT]
def m8 (v0:(Int×Int×Int×Int)) (v1:(List Int)):Option Bool:=
 ob (cw v0) fun x20=>
 bif x20 then
 ob (dM v0) fun x21=>
 some ((↑v1.length:Int)==x21)
 else
 some false
theorem JV (k:Nat) (v0_0 v0_1 v0_2 v0_3:Int) (v1:List Int):xC (k+4) none 105 [.agg [.lit (.int .i64 v0_0),.lit (.int .i64 v0_1),.lit (.int .i64 v0_2),.lit (.int .i64 v0_3)],.ro (List.map (aF .u64) v1)]=ob (m8 (v0_0,v0_1,v0_2,v0_3) v1) fun r=>some ((.lit (.bool r)),[]):=by
 rw [aH]
 unfold m8
 simp (maxSteps:=2000000) -implicitDefEqProofs only [ahD,ace,Lm,uF,↓syP,syA,syD,simprocAttr,syE,ah,ag,ae,syW,xQ,cD,gM]
def iW (v0:(Int×Int×Int×Int)) (v1:(List Int)) (v2:(Int×Int×Int×Int×Int×Int×Int)) (v3:Int):Option Bool:=
 ob (m8 v0 v1) fun x26=>
 bif x26 then
 ob (aN v2) fun x27=>
 bif !x27 then
 bif v2.1==v3 then
 bif decide (0≤v2.2.1) then
 some (decide (v2.2.1<5))
 else
 some false
 else
 some false
 else
 some false
 else
 some false
theorem Bw (k:Nat) (v0_0 v0_1 v0_2 v0_3:Int) (v1:List Int) (v2_0 v2_1 v2_2 v2_3 v2_4 v2_5 v2_6 v3:Int):xC (k+5) none 196 [.agg [.lit (.int .i64 v0_0),.lit (.int .i64 v0_1),.lit (.int .i64 v0_2),.lit (.int .i64 v0_3)],.ro (List.map (aF .u64) v1),.agg [.lit (.int .i64 v2_0),.lit (.int .i64 v2_1),.lit (.int .i64 v2_2),.lit (.int .u64 v2_3),.lit (.int .u64 v2_4),.lit (.int .u64 v2_5),.lit (.int .i64 v2_6)],.lit (.int .i64 v3)]=ob (iW (v0_0,v0_1,v0_2,v0_3) v1 (v2_0,v2_1,v2_2,v2_3,v2_4,v2_5,v2_6) v3) fun r=>some ((.lit (.bool r)),[]):=by
 rw [aH]
 unfold iW
 simp (maxSteps:=2000000) -implicitDefEqProofs only [aeZ,ac6,M1,MY,Mt,KV,wJ,↓syP,syA,syD,simprocAttr,syE,ah,ag,ae,syW,xQ,fd,JV]
def ik (v0:(Int×Int×Int×Int)) (v1:Int):Option Int:=
 ob (cw v0) fun x36=>
 bif !x36 then
 some ((-1))
 else
 ob (eM 0 0 (IntKind.i64.wrap (v0.1 - 1))) fun x37=>
 bif !x37 then
 some ((-1))
 else
 bif IntKind.u64.wrap v0.2.2.1 !=0 then
 some (IntKind.i64.wrap (6+IntKind.i64.wrap (v1.tmod (IntKind.u64.wrap v0.2.2.1))))
 else
 none
theorem Eb (k:Nat) (v0_0 v0_1 v0_2 v0_3 v1:Int):xC (k+12) none 203 [.agg [.lit (.int .i64 v0_0),.lit (.int .i64 v0_1),.lit (.int .i64 v0_2),.lit (.int .i64 v0_3)],.lit (.int .u64 v1)]=ob (ik (v0_0,v0_1,v0_2,v0_3) v1) fun r=>some ((.lit (.int .i64 r)),[]):=by
 rw [aH]
 unfold ik
 simp (maxSteps:=2000000) -implicitDefEqProofs only [Ze,Vq,uz,gJ,afo,acz,afP,aav,↓syP,syA,syD,simprocAttr,syE,ah,ag,ae,syW,xQ,mn,cD]
def ly (v0:(Int×Int×Int×Int)) (v1:Int):Option Int:=
 ob (cw v0) fun x42=>
 bif !x42 then
 some ((-1))
 else
 ob (eM 0 0 (IntKind.i64.wrap (v0.1 - 1))) fun x43=>
 bif !x43 then
 some ((-1))
 else
 bif IntKind.u64.wrap v0.2.2.1 !=0 then
 some (IntKind.i64.wrap (IntKind.i64.wrap (6+v0.2.2.1)+IntKind.i64.wrap (v1.tmod (IntKind.u64.wrap v0.2.2.1))))
 else
 none
theorem EO (k:Nat) (v0_0 v0_1 v0_2 v0_3 v1:Int):xC (k+12) none 205 [.agg [.lit (.int .i64 v0_0),.lit (.int .i64 v0_1),.lit (.int .i64 v0_2),.lit (.int .i64 v0_3)],.lit (.int .u64 v1)]=ob (ly (v0_0,v0_1,v0_2,v0_3) v1) fun r=>some ((.lit (.int .i64 r)),[]):=by
 rw [aH]
 unfold ly
 simp (maxSteps:=2000000) -implicitDefEqProofs only [Ze,Vq,uz,gJ,ae3,ZW,aga,ZD,↓syP,syA,syD,simprocAttr,syE,ah,ag,ae,syW,xQ,mn,cD]
def lk (v0:(Int×Int×Int×Int)) (v1:(List Int)) (v2:(Int×Int×Int×Int×Int×Int×Int)):Option ((List Int)×(Int×Int×Int×Int×Int×Int×Int)):=
 ob (aQ 8 v1) fun xV=>
 ob (iW v0 v1 v2 3) fun x60=>
 bif !x60 then
 some (xV,v2)
 else
 bif decide (0≤v2.2.1∧v2.2.1.toNat<5) then
 bif v2.2.1.toNat==0 then
 ob (aL xV 5) fun xk=>
 some (xV,(v2.1,1,v2.2.2.1,v2.2.2.2.1,xk,v2.2.2.2.2.2))
 else
 bif v2.2.1.toNat==1 then
 ob (ik v0 v2.2.2.2.2.1) fun xP=>
 ob (aL xV xP) fun xN=>
 bif IntKind.u64.wrap v0.2.2.1 !=0 then
 bif xN==IntKind.u64.wrap (IntKind.u64.wrap (v2.2.2.2.2.1.tdiv (IntKind.u64.wrap v0.2.2.1))*2) then
 some (xV,(v2.1,2,v2.2.2.1,v2.2.2.2.1,v2.2.2.2.2.1,xN,v2.2.2.2.2.2.2))
 else
 bif IntKind.u64.wrap v0.2.2.1 !=0 then
 ob (ft xN (IntKind.u64.wrap (IntKind.u64.wrap (v2.2.2.2.2.1.tdiv (IntKind.u64.wrap v0.2.2.1))*2))) fun x64=>
 bif decide (x64<0) then
 ob (a9 (v2.1,v2.2.1,v2.2.2.1,v2.2.2.2.1,v2.2.2.2.2.1,xN,v2.2.2.2.2.2.2) 2 v2.2.2.2.1) fun xc=>
 some (xV,(xc.1,0,xc.2.2))
 else
 some (xV,(v2.1,0,v2.2.2.1,v2.2.2.2.1,v2.2.2.2.2.1,xN,v2.2.2.2.2.2.2))
 else
 none
 else
 none
 else
 bif v2.2.1.toNat==2 then
 ob (dv xV 5 v2.2.2.2.2.1 (IntKind.u64.wrap (v2.2.2.2.2.1+1))) fun x66=>
 bif x66.2 then
 some (x66.1,(v2.1,3,v2.2.2))
 else
 some (x66.1,(v2.1,0,v2.2.2))
 else
 bif v2.2.1.toNat==3 then
 ob (ly v0 v2.2.2.2.2.1) fun x67=>
 ob (bw xV x67 v2.2.2.2.1) fun x68=>
 some (x68,(v2.1,4,v2.2.2))
 else
 bif v2.2.1.toNat==4 then
 ob (ik v0 v2.2.2.2.2.1) fun x69=>
 bif IntKind.u64.wrap v0.2.2.1 !=0 then
 ob (bw xV x69 (IntKind.u64.wrap (IntKind.u64.wrap (IntKind.u64.wrap (v2.2.2.2.2.1.tdiv (IntKind.u64.wrap v0.2.2.1))*2)+1))) fun x70=>
 ob (a9 v2 1 v2.2.2.2.1) fun x71=>
 some (x70,(x71.1,0,x71.2.2))
 else
 none
 else
 none
 else
 none
theorem Kp (k:Nat) (v0_0 v0_1 v0_2 v0_3:Int) (v1:List Int) (v2_0 v2_1 v2_2 v2_3 v2_4 v2_5 v2_6:Int):xC (k+24) none 167 [.agg [.lit (.int .i64 v0_0),.lit (.int .i64 v0_1),.lit (.int .i64 v0_2),.lit (.int .i64 v0_3)],.ro (List.map (aF .u64) v1),.agg [.lit (.int .i64 v2_0),.lit (.int .i64 v2_1),.lit (.int .i64 v2_2),.lit (.int .u64 v2_3),.lit (.int .u64 v2_4),.lit (.int .u64 v2_5),.lit (.int .i64 v2_6)]]=ob (lk (v0_0,v0_1,v0_2,v0_3) v1 (v2_0,v2_1,v2_2,v2_3,v2_4,v2_5,v2_6)) fun r=>some ((.tup [.ro (List.map (aF .u64) r.1),.agg [.lit (.int .i64 r.2.1),.lit (.int .i64 r.2.2.1),.lit (.int .i64 r.2.2.2.1),.lit (.int .u64 r.2.2.2.2.1),.lit (.int .u64 r.2.2.2.2.2.1),.lit (.int .u64 r.2.2.2.2.2.2.1),.lit (.int .i64 r.2.2.2.2.2.2.2)]]),[]):=by
 rw [aH]
 unfold lk
 simp (maxSteps:=2000000) -implicitDefEqProofs only [aeH,ack,ait,abF,agY,Zz,aeB,acJ,afI,Z3,ahj,Zm,agA,abj,ago,aa3,↓syP,syA,syD,simprocAttr,syE,ah,ag,ae,syW,xQ,dg,dX,i8,f7,lD,Bw,Eb,EO]
def i6 (v0:(Int×Int×Int×Int)) (v1:Int):Option Int:=
 bif IntKind.u64.wrap v0.2.2.1 !=0 then
 some (IntKind.u64.wrap (IntKind.u64.wrap (IntKind.u64.wrap (v1.tdiv (IntKind.u64.wrap v0.2.2.1))*2)+1))
 else
 none
theorem JF (k:Nat) (v0_0 v0_1 v0_2 v0_3 v1:Int):xC (k+1) none 204 [.agg [.lit (.int .i64 v0_0),.lit (.int .i64 v0_1),.lit (.int .i64 v0_2),.lit (.int .i64 v0_3)],.lit (.int .u64 v1)]=ob (i6 (v0_0,v0_1,v0_2,v0_3) v1) fun r=>some ((.lit (.int .u64 r)),[]):=by
 rw [aH]
 unfold i6
 simp (maxSteps:=2000000) -implicitDefEqProofs only [agF,ad1,↓syP,syA,syD,simprocAttr,syE,ah,ag,ae,syW,xQ]
def li (v0:(Int×Int×Int×Int)) (v1:(List Int)) (v2:(Int×Int×Int×Int×Int×Int×Int)):Option ((List Int)×(Int×Int×Int×Int×Int×Int×Int)):=
 ob (aQ 8 v1) fun xL=>
 ob (iW v0 v1 v2 4) fun xb=>
 bif !xb then
 some (xL,v2)
 else
 bif v2.2.1==0 then
 ob (aL xL 4) fun x111=>
 some (xL,(v2.1,1,v2.2.2.1,v2.2.2.2.1,x111,v2.2.2.2.2.2))
 else
 bif v2.2.1==1 then
 ob (ik v0 v2.2.2.2.2.1) fun x112=>
 ob (aL xL x112) fun xr=>
 ob (i6 v0 v2.2.2.2.2.1) fun x114=>
 ob (ft xr x114) fun x115=>
 bif x115==0 then
 some (xL,(v2.1,2,v2.2.2.1,v2.2.2.2.1,v2.2.2.2.2.1,xr,v2.2.2.2.2.2.2))
 else
 bif decide (x115<0) then
 ob (a9 (v2.1,0,v2.2.2.1,v2.2.2.2.1,v2.2.2.2.2.1,xr,v2.2.2.2.2.2.2) 3 0) fun x116=>
 some (xL,x116)
 else
 some (xL,(v2.1,0,v2.2.2.1,v2.2.2.2.1,v2.2.2.2.2.1,xr,v2.2.2.2.2.2.2))
 else
 bif v2.2.1==2 then
 ob (dv xL 4 v2.2.2.2.2.1 (IntKind.u64.wrap (v2.2.2.2.2.1+1))) fun x117=>
 bif x117.2 then
 some (x117.1,(v2.1,3,v2.2.2))
 else
 some (x117.1,(v2.1,0,v2.2.2))
 else
 bif v2.2.1==3 then
 ob (ly v0 v2.2.2.2.2.1) fun x118=>
 ob (aL xL x118) fun x119=>
 some (xL,(v2.1,4,v2.2.2.1,x119,v2.2.2.2.2))
 else
 ob (ik v0 v2.2.2.2.2.1) fun x120=>
 ob (i6 v0 v2.2.2.2.2.1) fun x121=>
 ob (bw xL x120 (IntKind.u64.wrap (x121+1))) fun x122=>
 ob (a9 v2 1 v2.2.2.2.1) fun x123=>
 some (x122,x123)
theorem Ki (k:Nat) (v0_0 v0_1 v0_2 v0_3:Int) (v1:List Int) (v2_0 v2_1 v2_2 v2_3 v2_4 v2_5 v2_6:Int):xC (k+13) none 168 [.agg [.lit (.int .i64 v0_0),.lit (.int .i64 v0_1),.lit (.int .i64 v0_2),.lit (.int .i64 v0_3)],.ro (List.map (aF .u64) v1),.agg [.lit (.int .i64 v2_0),.lit (.int .i64 v2_1),.lit (.int .i64 v2_2),.lit (.int .u64 v2_3),.lit (.int .u64 v2_4),.lit (.int .u64 v2_5),.lit (.int .i64 v2_6)]]=ob (li (v0_0,v0_1,v0_2,v0_3) v1 (v2_0,v2_1,v2_2,v2_3,v2_4,v2_5,v2_6)) fun r=>some ((.tup [.ro (List.map (aF .u64) r.1),.agg [.lit (.int .i64 r.2.1),.lit (.int .i64 r.2.2.1),.lit (.int .i64 r.2.2.2.1),.lit (.int .u64 r.2.2.2.2.1),.lit (.int .u64 r.2.2.2.2.2.1),.lit (.int .u64 r.2.2.2.2.2.2.1),.lit (.int .i64 r.2.2.2.2.2.2.2)]]),[]):=by
 rw [aH]
 unfold li
 simp (maxSteps:=2000000) -implicitDefEqProofs only [aeS,adn,Ln,wD,↓syP,syA,syD,simprocAttr,syE,ah,ag,ae,syW,xQ,dg,dX,i8,f7,lD,Bw,Eb,EO,JF]
def bB (v0:(Int×Int×Int×Int)) (v1:(List Int)) (v2:(Int×Int×Int×Int×Int×Int×Int)):Option ((List Int)×(Int×Int×Int×Int×Int×Int×Int)):=
 bif v2.1==3 then
 ob (lk v0 v1 v2) fun x142=>
 some x142
 else
 bif v2.1==4 then
 ob (li v0 v1 v2) fun x143=>
 some x143
 else
 ob (aQ 8 v1) fun x144=>
 some (x144,v2)
theorem ow (k:Nat) (v0_0 v0_1 v0_2 v0_3:Int) (v1:List Int) (v2_0 v2_1 v2_2 v2_3 v2_4 v2_5 v2_6:Int):xC (k+26) none 135 [.agg [.lit (.int .i64 v0_0),.lit (.int .i64 v0_1),.lit (.int .i64 v0_2),.lit (.int .i64 v0_3)],.ro (List.map (aF .u64) v1),.agg [.lit (.int .i64 v2_0),.lit (.int .i64 v2_1),.lit (.int .i64 v2_2),.lit (.int .u64 v2_3),.lit (.int .u64 v2_4),.lit (.int .u64 v2_5),.lit (.int .i64 v2_6)]]=ob (bB (v0_0,v0_1,v0_2,v0_3) v1 (v2_0,v2_1,v2_2,v2_3,v2_4,v2_5,v2_6)) fun r=>some ((.tup [.ro (List.map (aF .u64) r.1),.agg [.lit (.int .i64 r.2.1),.lit (.int .i64 r.2.2.1),.lit (.int .i64 r.2.2.2.1),.lit (.int .u64 r.2.2.2.2.1),.lit (.int .u64 r.2.2.2.2.2.1),.lit (.int .u64 r.2.2.2.2.2.2.1),.lit (.int .i64 r.2.2.2.2.2.2.2)]]),[]):=by
 rw [aH]
 unfold bB
 simp (maxSteps:=2000000) -implicitDefEqProofs only [aiv,abg,↓syP,syA,syD,simprocAttr,syE,ah,ag,ae,syW,xQ,Kp,Ki]
end Go.Ab
set_option maxRecDepth 100000
set_option linter.unusedVariables false
set_option linter.unusedSimpArgs false
namespace Go.Ab
open Go.Proofs
def i9 (k:Nat) (v0:(Int×Int×Int×Int)) (v1:Tyt) (v2:(List Int)) (v3:Int) (v4:Tyw):Option Bool:=
 ob (cw v0) fun x5=>
 bif x5 then
 ob (dM v0) fun x6=>
 bif (↑v2.length:Int)==x6 then
 ob (dc (k+4) v1) fun x7=>
 bif x7 then
 bif decide (0≤v3) then
 bif decide (v3<v0.1) then
 bif decide (0≤v4.1) then
 bif decide (v4.1<16) then
 ob (fX (k+3) v1 v4.2.1) fun x8=>
 some x8
 else
 some false
 else
 some false
 else
 some false
 else
 some false
 else
 some false
 else
 some false
 else
 some false
theorem BB (k:Nat) (v0_0 v0_1 v0_2 v0_3:Int) (v1:Tyt) (v2:List Int) (v3 v4_0:Int) (v4_1:Tye) (v4_2_0 v4_2_1 v4_2_2 v4_2_3 v4_2_4 v4_2_5 v4_2_6 v4_3 v4_4:Int):xC (k+24) none 95 [.agg [.lit (.int .i64 v0_0),.lit (.int .i64 v0_1),.lit (.int .i64 v0_2),.lit (.int .i64 v0_3)],.ro (List.map an v1),.ro (List.map (aF .u64) v2),.lit (.int .i64 v3),.agg [.lit (.int .i64 v4_0),.ro (List.map aJ v4_1),.lit (.int .i64 v4_2_0),.lit (.int .i64 v4_2_1),.lit (.int .i64 v4_2_2),.lit (.int .u64 v4_2_3),.lit (.int .u64 v4_2_4),.lit (.int .u64 v4_2_5),.lit (.int .i64 v4_2_6),.lit (.int .i64 v4_3),.lit (.int .i64 v4_4)]]=ob (i9 k (v0_0,v0_1,v0_2,v0_3) v1 v2 v3 (v4_0,v4_1,(v4_2_0,v4_2_1,v4_2_2,v4_2_3,v4_2_4,v4_2_5,v4_2_6),v4_3,v4_4)) fun r=>some ((.lit (.bool r)),[]):=by
 rw [aH]
 unfold i9
 simp (maxSteps:=2000000) -implicitDefEqProofs only [akz,ajC,Ur,SR,TL,TD,TE,T7,Tx,A6,↓syP,syA,syD,simprocAttr,syE,ah,ag,ae,syW,xQ,da,cD,gM,nI]
def kq (k:Nat) (v0:Tyw) (v1:Tyw):Option Bool:=
 bif v0.1==v1.1 then
 bif v0.2.2.1.1==v1.2.2.1.1&&(v0.2.2.1.2.1==v1.2.2.1.2.1&&(v0.2.2.1.2.2.1==v1.2.2.1.2.2.1&&(v0.2.2.1.2.2.2.1==v1.2.2.1.2.2.2.1&&(v0.2.2.1.2.2.2.2.1==v1.2.2.1.2.2.2.2.1&&(v0.2.2.1.2.2.2.2.2.1==v1.2.2.1.2.2.2.2.2.1&&v0.2.2.1.2.2.2.2.2.2==v1.2.2.1.2.2.2.2.2.2))))) then
 bif v0.2.2.2.1==v1.2.2.2.1 then
 bif v0.2.2.2.2==v1.2.2.2.2 then
 ob (ij k v0.2.1 v1.2.1) fun xj=>
 some xj
 else
 some false
 else
 some false
 else
 some false
 else
 some false
theorem GH (k:Nat) (v0_0:Int) (v0_1:Tye) (v0_2_0 v0_2_1 v0_2_2 v0_2_3 v0_2_4 v0_2_5 v0_2_6 v0_3 v0_4 v1_0:Int) (v1_1:Tye) (v1_2_0 v1_2_1 v1_2_2 v1_2_3 v1_2_4 v1_2_5 v1_2_6 v1_3 v1_4:Int):xC (k+3) none 47 [.agg [.lit (.int .i64 v0_0),.ro (List.map aJ v0_1),.lit (.int .i64 v0_2_0),.lit (.int .i64 v0_2_1),.lit (.int .i64 v0_2_2),.lit (.int .u64 v0_2_3),.lit (.int .u64 v0_2_4),.lit (.int .u64 v0_2_5),.lit (.int .i64 v0_2_6),.lit (.int .i64 v0_3),.lit (.int .i64 v0_4)],.agg [.lit (.int .i64 v1_0),.ro (List.map aJ v1_1),.lit (.int .i64 v1_2_0),.lit (.int .i64 v1_2_1),.lit (.int .i64 v1_2_2),.lit (.int .u64 v1_2_3),.lit (.int .u64 v1_2_4),.lit (.int .u64 v1_2_5),.lit (.int .i64 v1_2_6),.lit (.int .i64 v1_3),.lit (.int .i64 v1_4)]]=ob (kq k (v0_0,v0_1,(v0_2_0,v0_2_1,v0_2_2,v0_2_3,v0_2_4,v0_2_5,v0_2_6),v0_3,v0_4) (v1_0,v1_1,(v1_2_0,v1_2_1,v1_2_2,v1_2_3,v1_2_4,v1_2_5,v1_2_6),v1_3,v1_4)) fun r=>some ((.lit (.bool r)),[]):=by
 rw [aH]
 unfold kq
 simp (maxSteps:=2000000) -implicitDefEqProofs only [akg,ajF,Uc,Tj,Uy,Tf,AM,↓syP,syA,syD,simprocAttr,syE,ah,ag,ae,syW,xQ,Fc]
def bI (k:Nat) (v0:(List Int)) (v1:Int)  : Nat→Int→Option Int
 | 0,_=>none
 | n+1,sY=>
 bif decide (sY<(↑v0.length:Int)) then
 ob (idx v0 sY) fun x22=>
 bif v1==x22 then
 some (sY)
 else
 bI k v0 v1  n (IntKind.i64.wrap (sY+(1:Int)))
 else
 some ((-1:Int))
theorem lH (k:Nat) (v0:List Int) (v1:Int):∀ (n:Nat) (sY:Int) ⦃j18:V⦄,rt none (itX (xX (xS k) 61 0 k false) I4 (0) (au (xX (xS k) 61 0 k false) (ap (xS k).P Tryz.f61) I2) n ⟨[.ro (List.map (aF IntKind.i64) v0),.lit (.int .i64 v1),uu,uu,.lit (.int .i64 (0:Int)),j18,.ro (List.map (aF IntKind.i64) v0),.lit (.int .i64 (↑v0.length:Int)),.lit (.int .i64 sY),.junk,.junk,.junk,.junk,.junk,.junk,.junk,.junk,.junk,.junk],[]⟩)=ob (bI k v0 v1  n sY) fun r=>some ((.lit (.int .i64 r)),[]):=by
 intro n
 induction n with
 | zero=>intros;rfl
 | succ n ih=>
  intro sY j18
  rw [bI]
  simp (maxSteps:=2000000) -implicitDefEqProofs only [ai1,ag5,afp,NC,pu,↓syP,syA,syD,simprocAttr,syE,ah,ag,ae,syW,xQ,SI,ih]
def dD (k:Nat) (v0:(List Int)) (v1:Int):Option Int:=
 bI k v0 v1 k 0
theorem gA (k:Nat) (v0:List Int) (v1:Int):xC (k+1) none 61 [.ro (List.map (aF .i64) v0),.lit (.int .i64 v1)]=ob (dD k v0 v1) fun r=>some ((.lit (.int .i64 r)),[]):=by
 rw [aH]
 unfold dD
 simp (maxSteps:=2000000) -implicitDefEqProofs only [ai1,ag5,afp,NC,pu,↓syP,syA,syD,simprocAttr,syE,ah,ag,ae,syW,xQ,lH k v0 v1]
def gG (v0:(Int×Int×Int×Int×Int×Int×Int)):Option Bool:=
 bif v0.1==5 then
 ob (aN v0) fun x30=>
 bif !x30 then
 some (v0.2.1==3)
 else
 some false
 else
 some false
theorem Ck (k:Nat) (v0_0 v0_1 v0_2 v0_3 v0_4 v0_5 v0_6:Int):xC (k+2) none 69 [.agg [.lit (.int .i64 v0_0),.lit (.int .i64 v0_1),.lit (.int .i64 v0_2),.lit (.int .u64 v0_3),.lit (.int .u64 v0_4),.lit (.int .u64 v0_5),.lit (.int .i64 v0_6)]]=ob (gG (v0_0,v0_1,v0_2,v0_3,v0_4,v0_5,v0_6)) fun r=>some ((.lit (.bool r)),[]):=by
 rw [aH]
 unfold gG
 simp (maxSteps:=2000000) -implicitDefEqProofs only [ajU,ajK,UE,Th,AH,↓syP,syA,syD,simprocAttr,syE,ah,ag,ae,syW,xQ,fd]
def gr (v0:Tyw):Option Bool:=
 bif v0.1==8 then
 ob (gG v0.2.2.1) fun xs=>
 some xs
 else
 some false
theorem Cq (k:Nat) (v0_0:Int) (v0_1:Tye) (v0_2_0 v0_2_1 v0_2_2 v0_2_3 v0_2_4 v0_2_5 v0_2_6 v0_3 v0_4:Int):xC (k+3) none 31 [.agg [.lit (.int .i64 v0_0),.ro (List.map aJ v0_1),.lit (.int .i64 v0_2_0),.lit (.int .i64 v0_2_1),.lit (.int .i64 v0_2_2),.lit (.int .u64 v0_2_3),.lit (.int .u64 v0_2_4),.lit (.int .u64 v0_2_5),.lit (.int .i64 v0_2_6),.lit (.int .i64 v0_3),.lit (.int .i64 v0_4)]]=ob (gr (v0_0,v0_1,(v0_2_0,v0_2_1,v0_2_2,v0_2_3,v0_2_4,v0_2_5,v0_2_6),v0_3,v0_4)) fun r=>some ((.lit (.bool r)),[]):=by
 rw [aH]
 unfold gr
 simp (maxSteps:=2000000) -implicitDefEqProofs only [ajX,ajg,UJ,Bf,↓syP,syA,syD,simprocAttr,syE,ah,ag,ae,syW,xQ,Ck]
def ni (v0:Int):Option Tyw:=
 ob (aM 1 v0 0) fun x36=>
 some (0,[],x36,0,0)
theorem pI (k:Nat) (v0:Int):xC (k+2) none 60 [.lit (.int .i64 v0)]=ob (ni v0) fun r=>some ((.agg [.lit (.int .i64 r.1),.ro (List.map aJ r.2.1),.lit (.int .i64 r.2.2.1.1),.lit (.int .i64 r.2.2.1.2.1),.lit (.int .i64 r.2.2.1.2.2.1),.lit (.int .u64 r.2.2.1.2.2.2.1),.lit (.int .u64 r.2.2.1.2.2.2.2.1),.lit (.int .u64 r.2.2.1.2.2.2.2.2.1),.lit (.int .i64 r.2.2.1.2.2.2.2.2.2),.lit (.int .i64 r.2.2.2.1),.lit (.int .i64 r.2.2.2.2)]),[]):=by
 rw [aH]
 unfold ni
 simp (maxSteps:=2000000) -implicitDefEqProofs only [aka,ajj,↓syP,syA,syD,simprocAttr,syE,ah,ag,ae,syW,xQ,mg]
 all_goals simp -implicitDefEqProofs only [List.map_nil]
end Go.Ab
set_option maxRecDepth 100000
set_option linter.unusedVariables false
set_option linter.unusedSimpArgs false
namespace Go.Ab
open Go.Proofs
def fg (k:Nat) (v0:(Int×Int×Int×Int)) (v1:Tyt) (v2:(List Int)) (v3:Tys):Option Bool:=
 ob (cw v0) fun x6=>
 bif x6 then
 ob (dM v0) fun x7=>
 bif (↑v2.length:Int)==x7 then
 ob (dc (k+4) v1) fun x8=>
 bif x8 then
 bif decide (0≤v3.1) then
 bif decide (v3.1<6) then
 bif decide (0<(↑v3.2.1.length:Int)) then
 ob (idx v3.2.1 0) fun x9=>
 bif decide (0≤x9) then
 ob (idx v3.2.1 0) fun x10=>
 some (decide (x10<(↑v1.length:Int)))
 else
 some false
 else
 some false
 else
 some false
 else
 some false
 else
 some false
 else
 some false
 else
 some false
theorem mJ (k:Nat) (v0_0 v0_1 v0_2 v0_3:Int) (v1:Tyt) (v2:List Int) (v3_0:Int) (v3_1:List Int) (v3_2_0 v3_2_1 v3_2_2 v3_2_3 v3_2_4 v3_2_5 v3_2_6:Int):xC (k+24) none 85 [.agg [.lit (.int .i64 v0_0),.lit (.int .i64 v0_1),.lit (.int .i64 v0_2),.lit (.int .i64 v0_3)],.ro (List.map an v1),.ro (List.map (aF .u64) v2),.agg [.lit (.int .i64 v3_0),.ro (List.map (aF .i64) v3_1),.lit (.int .i64 v3_2_0),.lit (.int .i64 v3_2_1),.lit (.int .i64 v3_2_2),.lit (.int .u64 v3_2_3),.lit (.int .u64 v3_2_4),.lit (.int .u64 v3_2_5),.lit (.int .i64 v3_2_6)]]=ob (fg k (v0_0,v0_1,v0_2,v0_3) v1 v2 (v3_0,v3_1,(v3_2_0,v3_2_1,v3_2_2,v3_2_3,v3_2_4,v3_2_5,v3_2_6))) fun r=>some ((.lit (.bool r)),[]):=by
 rw [aH]
 unfold fg
 simp (maxSteps:=2000000) -implicitDefEqProofs only [aky,ajD,S8,SL,SG,Up,SY,Tt,SS,AQ,↓syP,syA,syD,simprocAttr,syE,ah,ag,ae,syW,xQ,da,cD,gM]
def fw (k : Nat) (v0 : (Int × Int × Int × Int)) (v1 : (List (Int × List Int))) (v2 : (List Int)) (v3 : Int) (v4 : (Int × List Int × Int × Int × Int × Int × Int × Int × Int)) : Option ((List Int) × (Int × List Int × Int × Int × Int × Int × Int × Int × Int) × (List (Int × Int × Int))) :=
 ob (aQ 8 v2) fun xU =>
 ob (aQ 8 v4.2.1) fun xE =>
 ob (fg (k + 15) v0 v1 v2 v4) fun x40 =>
 bif !x40 then
 some (xU,(v4.1,xE,v4.2.2),[])
 else
 ob (idx xE 0) fun xe =>
 bif v4.1 == 0 then
 ob (aL xU 3) fun x42 =>
 bif x42 != 0 then
 bif room 1 24 then
 bif decide (1 ≤ (↑xE.length : Int)) then
 some (xU,(0,(List.drop (Int.toNat 1) xE),(0,0,0,0,0,0,0)),([(1,xe,v3)]))
 else
 none
 else
 none
 else
 some (xU,(1,xE,v4.2.2),[])
 else
 bif v4.1 == 1 then
 ob (du xU 0 1) fun x43 =>
 ob (aM 3 v3 (IntKind.u64.wrap xe)) fun x44 =>
 some (x43.1,(2,xE,x44),[])
 else
 bif v4.1 == 2 then
 bif v4.2.2.1 == 3 then
 ob (bB v0 xU v4.2.2) fun xi =>
 ob (aN xi.2) fun xt =>
 bif !xt then
 some (xi.1,(v4.1,xE,xi.2),[])
 else
 bif xi.2.2.2.2.2.2.2 != 2 then
 bif room 1 24 then
 some (xi.1,(3,xE,xi.2),([(0,xe,v3)]))
 else
 none
 else
 some (xi.1,(5,xE,xi.2),[])
 else
 bif v4.2.2.1 == 4 then
 ob (bB v0 xU v4.2.2) fun xh =>
 ob (aN xh.2) fun x48 =>
 bif !x48 then
 some (xh.1,(v4.1,xE,xh.2),[])
 else
 bif xh.2.2.2.2.2.2.2 != 2 then
 bif room 1 24 then
 some (xh.1,(3,xE,xh.2),([(0,xe,v3)]))
 else
 none
 else
 some (xh.1,(5,xE,xh.2),[])
 else
 ob (cz (k + 20) v0 xU v4.2.2) fun xo =>
 ob (aN xo.2) fun x50 =>
 bif !x50 then
 some (xo.1,(v4.1,xE,xo.2),[])
 else
 bif xo.2.2.2.2.2.2.2 != 2 then
 bif room 1 24 then
 some (xo.1,(3,xE,xo.2),([(0,xe,v3)]))
 else
 none
 else
 some (xo.1,(5,xE,xo.2),[])
 else
 bif v4.1 == 3 then
 ob (aL xU 1) fun xy =>
 bif xy != 0 then
 bif decide (1 ≤ (↑xE.length : Int)) then
 some (xU,(0,(List.drop (Int.toNat 1) xE),(0,0,0,0,0,0,0)),[])
 else
 none
 else
 ob (aM 6 v3 0) fun xz =>
 some (xU,(4,xE,xz),[])
 else
 bif v4.1 == 4 then
 bif v4.2.2.1 == 3 then
 ob (bB v0 xU v4.2.2) fun x53 =>
 ob (aN x53.2) fun xT =>
 bif xT then
 bif decide (1 ≤ (↑xE.length : Int)) then
 some (x53.1,(0,(List.drop (Int.toNat 1) xE),(0,0,0,0,0,0,0)),[])
 else
 none
 else
 some (x53.1,(v4.1,xE,x53.2),[])
 else
 bif v4.2.2.1 == 4 then
 ob (bB v0 xU v4.2.2) fun x55 =>
 ob (aN x55.2) fun x56 =>
 bif x56 then
 bif decide (1 ≤ (↑xE.length : Int)) then
 some (x55.1,(0,(List.drop (Int.toNat 1) xE),(0,0,0,0,0,0,0)),[])
 else
 none
 else
 some (x55.1,(v4.1,xE,x55.2),[])
 else
 ob (cz (k + 20) v0 xU v4.2.2) fun xp =>
 ob (aN xp.2) fun x58 =>
 bif x58 then
 bif decide (1 ≤ (↑xE.length : Int)) then
 some (xp.1,(0,(List.drop (Int.toNat 1) xE),(0,0,0,0,0,0,0)),[])
 else
 none
 else
 some (xp.1,(v4.1,xE,xp.2),[])
 else
 bif v4.1 == 5 then
 ob (du xU 0 18446744073709551615) fun xV =>
 bif room 1 24 then
 bif xV.2 == 1 then
 bif room 2 24 then
 bif decide (1 ≤ (↑xE.length : Int)) then
 some (xV.1,(0,(List.drop (Int.toNat 1) xE),(0,0,0,0,0,0,0)),([(1,xe,v3),(5,0,v3)]))
 else
 none
 else
 none
 else
 bif decide (1 ≤ (↑xE.length : Int)) then
 some (xV.1,(0,(List.drop (Int.toNat 1) xE),(0,0,0,0,0,0,0)),([(1,xe,v3)]))
 else
 none
 else
 none
 else
 none
theorem oI (k : Nat) (v0_0 v0_1 v0_2 v0_3 : Int) (v1 : List (Int × List Int)) (v2 : List Int) (v3 v4_0 : Int) (v4_1 : List Int) (v4_2_0 v4_2_1 v4_2_2 v4_2_3 v4_2_4 v4_2_5 v4_2_6 : Int) : xC (k + 40) none 86 [.agg [.lit (.int .i64 v0_0),.lit (.int .i64 v0_1),.lit (.int .i64 v0_2),.lit (.int .i64 v0_3)],.ro (List.map an v1),.ro (List.map (aF .u64) v2),.lit (.int .i64 v3),.agg [.lit (.int .i64 v4_0),.ro (List.map (aF .i64) v4_1),.lit (.int .i64 v4_2_0),.lit (.int .i64 v4_2_1),.lit (.int .i64 v4_2_2),.lit (.int .u64 v4_2_3),.lit (.int .u64 v4_2_4),.lit (.int .u64 v4_2_5),.lit (.int .i64 v4_2_6)]] = ob (fw k (v0_0,v0_1,v0_2,v0_3) v1 v2 v3 (v4_0,v4_1,(v4_2_0,v4_2_1,v4_2_2,v4_2_3,v4_2_4,v4_2_5,v4_2_6))) fun r => some ((.tup [.ro (List.map (aF .u64) r.1),.agg [.lit (.int .i64 r.2.1.1),.ro (List.map (aF .i64) r.2.1.2.1),.lit (.int .i64 r.2.1.2.2.1),.lit (.int .i64 r.2.1.2.2.2.1),.lit (.int .i64 r.2.1.2.2.2.2.1),.lit (.int .u64 r.2.1.2.2.2.2.2.1),.lit (.int .u64 r.2.1.2.2.2.2.2.2.1),.lit (.int .u64 r.2.1.2.2.2.2.2.2.2.1),.lit (.int .i64 r.2.1.2.2.2.2.2.2.2.2)],.ro (List.map aJ r.2.2)]),[]) := by
  rw [aH]
  unfold fw
  simp (maxSteps := 2000000) -implicitDefEqProofs only [akt,ajE,aeG,ZO,agS,Zx,ahK,aa8,Ly,Mj,uv,uG,aeU,acS,ahx,adH,aeQ,ad6,aij,ab7,agD,aad,ahn,abt,↓syP,syA,syD,simprocAttr,syE,ah,ag,ae,syW,xQ,dg,AP,mg,fd,rF,ow,mJ]
  all_goals simp -implicitDefEqProofs only [List.map_nil]
def gu (k:Nat) (v0:Tys) (v1:Tys):Option Bool:=
 bif v0.1==v1.1 then
 bif v0.2.2.1==v1.2.2.1&&(v0.2.2.2.1==v1.2.2.2.1&&(v0.2.2.2.2.1==v1.2.2.2.2.1&&(v0.2.2.2.2.2.1==v1.2.2.2.2.2.1&&(v0.2.2.2.2.2.2.1==v1.2.2.2.2.2.2.1&&(v0.2.2.2.2.2.2.2.1==v1.2.2.2.2.2.2.2.1&&v0.2.2.2.2.2.2.2.2==v1.2.2.2.2.2.2.2.2))))) then
 ob (cL k v0.2.1 v1.2.1) fun x83=>
 some x83
 else
 some false
 else
 some false
theorem B6 (k:Nat) (v0_0:Int) (v0_1:List Int) (v0_2_0 v0_2_1 v0_2_2 v0_2_3 v0_2_4 v0_2_5 v0_2_6 v1_0:Int) (v1_1:List Int) (v1_2_0 v1_2_1 v1_2_2 v1_2_3 v1_2_4 v1_2_5 v1_2_6:Int):xC (k+2) none 49 [.agg [.lit (.int .i64 v0_0),.ro (List.map (aF .i64) v0_1),.lit (.int .i64 v0_2_0),.lit (.int .i64 v0_2_1),.lit (.int .i64 v0_2_2),.lit (.int .u64 v0_2_3),.lit (.int .u64 v0_2_4),.lit (.int .u64 v0_2_5),.lit (.int .i64 v0_2_6)],.agg [.lit (.int .i64 v1_0),.ro (List.map (aF .i64) v1_1),.lit (.int .i64 v1_2_0),.lit (.int .i64 v1_2_1),.lit (.int .i64 v1_2_2),.lit (.int .u64 v1_2_3),.lit (.int .u64 v1_2_4),.lit (.int .u64 v1_2_5),.lit (.int .i64 v1_2_6)]]=ob (gu k (v0_0,v0_1,(v0_2_0,v0_2_1,v0_2_2,v0_2_3,v0_2_4,v0_2_5,v0_2_6)) (v1_0,v1_1,(v1_2_0,v1_2_1,v1_2_2,v1_2_3,v1_2_4,v1_2_5,v1_2_6))) fun r=>some ((.lit (.bool r)),[]):=by
 rw [aH]
 unfold gu
 simp (maxSteps:=2000000) -implicitDefEqProofs only [aj3,ai0,T1,SH,A5,↓syP,syA,syD,simprocAttr,syE,ah,ag,ae,syW,xQ,kV]
def gw (v0:Tys):Option Bool:=
 some (v0.1 !=0)
theorem Ca (k:Nat) (v0_0:Int) (v0_1:List Int) (v0_2_0 v0_2_1 v0_2_2 v0_2_3 v0_2_4 v0_2_5 v0_2_6:Int):xC (k+1) none 28 [.agg [.lit (.int .i64 v0_0),.ro (List.map (aF .i64) v0_1),.lit (.int .i64 v0_2_0),.lit (.int .i64 v0_2_1),.lit (.int .i64 v0_2_2),.lit (.int .u64 v0_2_3),.lit (.int .u64 v0_2_4),.lit (.int .u64 v0_2_5),.lit (.int .i64 v0_2_6)]]=ob (gw (v0_0,v0_1,(v0_2_0,v0_2_1,v0_2_2,v0_2_3,v0_2_4,v0_2_5,v0_2_6))) fun r=>some ((.lit (.bool r)),[]):=by
 rw [aH]
 unfold gw
 simp (maxSteps:=2000000) -implicitDefEqProofs only [ake,ajc,↓syP,syA,syD,simprocAttr,syE,ah,ag,ae,syW,xQ]
def ix (v0:(List Int)):Option Tys:=
 ob (aQ 8 v0) fun x86=>
 some (0,x86,(0,0,0,0,0,0,0))
theorem mG (k:Nat) (v0:List Int):xC (k+2) none 63 [.ro (List.map (aF .i64) v0)]=ob (ix v0) fun r=>some ((.agg [.lit (.int .i64 r.1),.ro (List.map (aF .i64) r.2.1),.lit (.int .i64 r.2.2.1),.lit (.int .i64 r.2.2.2.1),.lit (.int .i64 r.2.2.2.2.1),.lit (.int .u64 r.2.2.2.2.2.1),.lit (.int .u64 r.2.2.2.2.2.2.1),.lit (.int .u64 r.2.2.2.2.2.2.2.1),.lit (.int .i64 r.2.2.2.2.2.2.2.2)]),[]):=by
 rw [aH]
 unfold ix
 simp (maxSteps:=2000000) -implicitDefEqProofs only [akE,ajm,↓syP,syA,syD,simprocAttr,syE,ah,ag,ae,syW,xQ]
end Go.Ab
set_option maxRecDepth 100000
set_option linter.unusedVariables false
set_option linter.unusedSimpArgs false
namespace Go.Ab
open Go.Proofs
def ur {β:Type} (k:Nat) (c:Int×Int×Int×Int) (m:List Int) (f:Int×Int×Int×Int×Int×Int×Int) (K:List Int×(Int×Int×Int×Int×Int×Int×Int)→Option β):Option β:=
 (bif f.1==0 then (bif f.1==0 then ob (ff (k+31) c m f) K else (bif f.1==3 then (bif f.1==3 then ob (bB c m f) K else ob (cz (k+40) c m f) K) else (bif f.1==4 then ob (bB c m f) K else ob (cz (k+40) c m f) K))) else (bif f.1==1 then (bif f.1==1 then ob (ff (k+31) c m f) K else (bif f.1==3 then (bif f.1==3 then ob (bB c m f) K else ob (cz (k+40) c m f) K) else (bif f.1==4 then ob (bB c m f) K else ob (cz (k+40) c m f) K))) else (bif f.1==2 then ob (ff (k+31) c m f) K else (bif f.1==3 then (bif f.1==3 then ob (bB c m f) K else ob (cz (k+40) c m f) K) else (bif f.1==4 then ob (bB c m f) K else ob (cz (k+40) c m f) K)))))
def gX (k : Nat) (v0 : (Int × Int × Int × Int)) (v1 : (List (Int × List Int))) (v2 : (List Int)) (v3 : Int) (v4 : (Int × List (Int × Int × Int) × (Int × Int × Int × Int × Int × Int × Int) × Int × Int)) (v5 : Int) : Option ((List Int) × (Int × List (Int × Int × Int) × (Int × Int × Int × Int × Int × Int × Int) × Int × Int) × (List (Int × Int × Int))) :=
 ob (aQ 8 v2) fun xD =>
 ob (aQ 24 v4.2.1) fun xB =>
 ob (i9 (k + 35) v0 v1 v2 v3 v4) fun x472 =>
 bif !x472 then
 some (xD,(v4.1,xB,v4.2.2),[])
 else
 bif v4.1 == 0 then
 ur k v0 xD v4.2.2.1 fun xf =>
 ob (aN xf.2) fun x474 =>
 bif !x474 then
 some (xf.1,(v4.1,xB,xf.2,v4.2.2.2),[])
 else
 bif xf.2.2.2.2.2.2.2 != 1 then
 some (xf.1,(1,xB,(0,0,0,0,0,0,0),v4.2.2.2),[])
 else
 ob (dA (k + 36) v1 xB (IntKind.i64.wrap xf.2.2.2.2.1)) fun x475 =>
 bif room 1 24 then
 some (xf.1,(9,x475,(0,0,0,0,0,0,0),v4.2.2.2),([(2,IntKind.i64.wrap xf.2.2.2.2.1,v3)]))
 else
 none
 else
 bif v4.1 == 1 then
 ob (du xD 1 1) fun x518 =>
 ob (aM 4 v3 0) fun x519 =>
 some (x518.1,(2,xB,x519,v0.2.2.2,v4.2.2.2.2),[])
 else
 bif v4.1 == 2 then
 ob (fl v5 v3 v0.1) fun x520 =>
 ur k v0 xD v4.2.2.1 fun xW =>
 ob (aN xW.2) fun x522 =>
 bif !x522 then
 some (xW.1,(v4.1,xB,xW.2,v4.2.2.2),[])
 else
 bif xW.2.2.2.2.2.2.2 == 1 then
 some (xW.1,(4,xB,xW.2,v4.2.2.2),[])
 else
 bif v4.1 == 2 then
 bif decide (0 ≤ x520) then
 ob (aM 2 x520 0) fun x523 =>
 some (xW.1,(3,xB,x523,v4.2.2.2),[])
 else
 bif decide (v4.2.2.2.1 ≤ 0) then
 ob (aM 5 v3 0) fun x524 =>
 some (xW.1,(5,xB,x524,v4.2.2.2),[])
 else
 ob (aM 4 v3 0) fun x525 =>
 some (xW.1,(2,xB,x525,(IntKind.i64.wrap (v4.2.2.2.1 - 1)),v4.2.2.2.2),[])
 else
 bif decide (v4.2.2.2.1 ≤ 0) then
 ob (aM 5 v3 0) fun x526 =>
 some (xW.1,(5,xB,x526,v4.2.2.2),[])
 else
 ob (aM 4 v3 0) fun x527 =>
 some (xW.1,(2,xB,x527,(IntKind.i64.wrap (v4.2.2.2.1 - 1)),v4.2.2.2.2),[])
 else
 bif v4.1 == 3 then
 ob (fl v5 v3 v0.1) fun x626 =>
 ur k v0 xD v4.2.2.1 fun xZ =>
 ob (aN xZ.2) fun x628 =>
 bif !x628 then
 some (xZ.1,(v4.1,xB,xZ.2,v4.2.2.2),[])
 else
 bif xZ.2.2.2.2.2.2.2 == 1 then
 some (xZ.1,(4,xB,xZ.2,v4.2.2.2),[])
 else
 bif v4.1 == 2 then
 bif decide (0 ≤ x626) then
 ob (aM 2 x626 0) fun x629 =>
 some (xZ.1,(3,xB,x629,v4.2.2.2),[])
 else
 bif decide (v4.2.2.2.1 ≤ 0) then
 ob (aM 5 v3 0) fun x630 =>
 some (xZ.1,(5,xB,x630,v4.2.2.2),[])
 else
 ob (aM 4 v3 0) fun x631 =>
 some (xZ.1,(2,xB,x631,(IntKind.i64.wrap (v4.2.2.2.1 - 1)),v4.2.2.2.2),[])
 else
 bif decide (v4.2.2.2.1 ≤ 0) then
 ob (aM 5 v3 0) fun x632 =>
 some (xZ.1,(5,xB,x632,v4.2.2.2),[])
 else
 ob (aM 4 v3 0) fun x633 =>
 some (xZ.1,(2,xB,x633,(IntKind.i64.wrap (v4.2.2.2.1 - 1)),v4.2.2.2.2),[])
 else
 bif v4.1 == 4 then
 ob (du xD 1 18446744073709551615) fun x732 =>
 bif x732.2 == 1 then
 ob (aM 6 v3 0) fun x733 =>
 ob (dA (k + 36) v1 xB (IntKind.i64.wrap v4.2.2.1.2.2.2.1)) fun x734 =>
 bif room 1 24 then
 some (x732.1,(14,x734,x733,v4.2.2.2),([(2,IntKind.i64.wrap v4.2.2.1.2.2.2.1,v3)]))
 else
 none
 else
 ob (dA (k + 36) v1 xB (IntKind.i64.wrap v4.2.2.1.2.2.2.1)) fun x735 =>
 bif room 1 24 then
 some (x732.1,(9,x735,(0,0,0,0,0,0,0),v4.2.2.2),([(2,IntKind.i64.wrap v4.2.2.1.2.2.2.1,v3)]))
 else
 none
 else
 bif v4.1 == 5 then
 ur k v0 xD v4.2.2.1 fun x736 =>
 ob (aN x736.2) fun x737 =>
 some (x736.1,(6,xB,x736.2,v4.2.2.2),[])
 else
 bif v4.1 == 6 then
 ob (du xD 1 18446744073709551615) fun x766 =>
 some (x766.1,(7,xB,v4.2.2.1,v4.2.2.2.1,0),[])
 else
 bif v4.1 == 7 then
 bif decide (v4.2.2.2.2 < 0) then
 some (xD,(8,xB,(v4.2.2.1.1,v4.2.2.1.2.1,v4.2.2.1.2.2.1,0,v4.2.2.1.2.2.2.2),v4.2.2.2.1,0),[])
 else
 bif decide (IntKind.i64.wrap (2 + IntKind.i64.wrap (2 * v0.1)) ≤ v4.2.2.2.2) then
 some (xD,(8,xB,(v4.2.2.1.1,v4.2.2.1.2.1,v4.2.2.1.2.2.1,0,v4.2.2.1.2.2.2.2),v4.2.2.2.1,0),[])
 else
 bif v4.2.2.2.2 == 0 then
 ob (aL xD 4) fun x767 =>
 bif IntKind.i64.wrap (v4.2.2.2.2 + 1) == IntKind.i64.wrap (2 + IntKind.i64.wrap (2 * v0.1)) then
 some (xD,(8,xB,(v4.2.2.1.1,v4.2.2.1.2.1,v4.2.2.1.2.2.1,0,v4.2.2.1.2.2.2.2),v4.2.2.2.1,0),[])
 else
 some (xD,(v4.1,xB,(v4.2.2.1.1,v4.2.2.1.2.1,v4.2.2.1.2.2.1,x767,v4.2.2.1.2.2.2.2),v4.2.2.2.1,(IntKind.i64.wrap (v4.2.2.2.2 + 1))),[])
 else
 bif v4.2.2.2.2 == 1 then
 ob (aL xD 5) fun x768 =>
 bif x768 != v4.2.2.1.2.2.2.1 then
 some (xD,(1,xB,(0,0,0,0,0,0,0),v4.2.2.2),[])
 else
 bif IntKind.i64.wrap (v4.2.2.2.2 + 1) == IntKind.i64.wrap (2 + IntKind.i64.wrap (2 * v0.1)) then
 some (xD,(8,xB,(v4.2.2.1.1,v4.2.2.1.2.1,v4.2.2.1.2.2.1,0,v4.2.2.1.2.2.2.2),v4.2.2.2.1,0),[])
 else
 some (xD,(v4.1,xB,v4.2.2.1,v4.2.2.2.1,(IntKind.i64.wrap (v4.2.2.2.2 + 1))),[])
 else
 bif v4.2.2.2.2.tmod 2 == 0 then
 ob (ii v0 (IntKind.i64.wrap ((IntKind.i64.wrap (v4.2.2.2.2 - 2)).tdiv 2))) fun x769 =>
 ob (aL xD x769) fun x770 =>
 bif IntKind.i64.wrap (v4.2.2.2.2 + 1) == IntKind.i64.wrap (2 + IntKind.i64.wrap (2 * v0.1)) then
 some (xD,(8,xB,(v4.2.2.1.1,v4.2.2.1.2.1,v4.2.2.1.2.2.1,0,v4.2.2.1.2.2.2.2),v4.2.2.2.1,0),[])
 else
 some (xD,(v4.1,xB,(v4.2.2.1.1,v4.2.2.1.2.1,v4.2.2.1.2.2.1,x770,v4.2.2.1.2.2.2.2),v4.2.2.2.1,(IntKind.i64.wrap (v4.2.2.2.2 + 1))),[])
 else
 ob (dy v0 (IntKind.i64.wrap ((IntKind.i64.wrap (v4.2.2.2.2 - 2)).tdiv 2))) fun x771 =>
 ob (aL xD x771) fun x772 =>
 ob (ft x772 v4.2.2.1.2.2.2.1) fun x773 =>
 bif decide (0 < x773) then
 some (xD,(1,xB,(0,0,0,0,0,0,0),v4.2.2.2),[])
 else
 bif IntKind.i64.wrap (v4.2.2.2.2 + 1) == IntKind.i64.wrap (2 + IntKind.i64.wrap (2 * v0.1)) then
 some (xD,(8,xB,(v4.2.2.1.1,v4.2.2.1.2.1,v4.2.2.1.2.2.1,0,v4.2.2.1.2.2.2.2),v4.2.2.2.1,0),[])
 else
 some (xD,(v4.1,xB,v4.2.2.1,v4.2.2.2.1,(IntKind.i64.wrap (v4.2.2.2.2 + 1))),[])
 else
 bif v4.1 == 8 then
 ur k v0 xD v4.2.2.1 fun x774 =>
 ob (aN x774.2) fun x775 =>
 bif x775 then
 some (x774.1,(1,xB,(0,0,0,0,0,0,0),v4.2.2.2),[])
 else
 some (x774.1,(v4.1,xB,x774.2,v4.2.2.2),[])
 else
 bif v4.1 == 9 then
 ob (dW (k + 37) v1 xB) fun x804 =>
 bif x804.1 == 1 then
 ob (gb (k + 36) v1 xB) fun x805 =>
 some (xD,(v4.1,x805,v4.2.2),[])
 else
 bif x804.1 == 2 then
 some (xD,(10,xB,v4.2.2),[])
 else
 bif x804.1 == 3 then
 some (xD,(15,xB,v4.2.2),[])
 else
 ob (aM 1 v3 0) fun x806 =>
 some (xD,(0,xB,x806,v4.2.2.2),[])
 else
 bif v4.1 == 10 then
 ob (dW (k + 37) v1 xB) fun x807 =>
 bif x807.1 != 2 then
 some (xD,(9,xB,(0,0,0,0,0,0,0),v4.2.2.2),[])
 else
 ob (du xD 0 1) fun x808 =>
 bif room 1 24 then
 ob (gb (k + 36) v1 xB) fun x809 =>
 ob (aM 0 v3 (IntKind.u64.wrap x807.2)) fun x810 =>
 some (x808.1,(11,x809,x810,v4.2.2.2),([(3,x807.2,v3)]))
 else
 none
 else
 bif v4.1 == 11 then
 ur k v0 xD v4.2.2.1 fun xn =>
 ob (aN xn.2) fun x812 =>
 bif !x812 then
 some (xn.1,(v4.1,xB,xn.2,v4.2.2.2),[])
 else
 bif xn.2.2.2.2.2.2.2 == 2 then
 ob (aM 3 v3 xn.2.2.2.2.1) fun x813 =>
 some (xn.1,(12,xB,x813,v4.2.2.2),[])
 else
 some (xn.1,(13,xB,(0,0,0,0,0,0,0),v4.2.2.2),[])
 else
 bif v4.1 == 12 then
 ur k v0 xD v4.2.2.1 fun xg =>
 ob (aN xg.2) fun x857 =>
 bif !x857 then
 some (xg.1,(v4.1,xB,xg.2,v4.2.2.2),[])
 else
 bif xg.2.2.2.2.2.2.2 == 2 then
 ob (dA (k + 36) v1 xB (IntKind.i64.wrap xg.2.2.2.2.1)) fun x858 =>
 bif room 1 24 then
 some (xg.1,(9,x858,(0,0,0,0,0,0,0),v4.2.2.2),([(2,IntKind.i64.wrap xg.2.2.2.2.1,v3)]))
 else
 none
 else
 some (xg.1,(13,xB,(0,0,0,0,0,0,0),v4.2.2.2),[])
 else
 bif v4.1 == 13 then
 ob (aL xD 1) fun x901 =>
 bif x901 == 0 then
 ob (aM 6 v3 0) fun x902 =>
 some (xD,(14,xB,x902,v4.2.2.2),[])
 else
 some (xD,(9,xB,(0,0,0,0,0,0,0),v4.2.2.2),[])
 else
 bif v4.1 == 14 then
 ur k v0 xD v4.2.2.1 fun x903 =>
 ob (aN x903.2) fun x904 =>
 bif x904 then
 some (x903.1,(9,xB,(0,0,0,0,0,0,0),v4.2.2.2),[])
 else
 some (x903.1,(v4.1,xB,x903.2,v4.2.2.2),[])
 else
 bif v4.1 == 15 then
 ob (dW (k + 37) v1 xB) fun x933 =>
 bif x933.1 != 3 then
 some (xD,(9,xB,(0,0,0,0,0,0,0),v4.2.2.2),[])
 else
 ob (du xD 0 18446744073709551615) fun x934 =>
 bif room 1 24 then
 bif x934.2 == 1 then
 bif room 2 24 then
 ob (gb (k + 36) v1 xB) fun x935 =>
 bif (↑x935.length : Int) == 0 then
 ob (aM 1 v3 0) fun x936 =>
 some (x934.1,(0,x935,x936,v4.2.2.2),([(4,x933.2,v3),(5,0,v3)]))
 else
 some (x934.1,(9,x935,(0,0,0,0,0,0,0),v4.2.2.2),([(4,x933.2,v3),(5,0,v3)]))
 else
 none
 else
 ob (gb (k + 36) v1 xB) fun x937 =>
 bif (↑x937.length : Int) == 0 then
 ob (aM 1 v3 0) fun x938 =>
 some (x934.1,(0,x937,x938,v4.2.2.2),([(4,x933.2,v3)]))
 else
 some (x934.1,(9,x937,(0,0,0,0,0,0,0),v4.2.2.2),([(4,x933.2,v3)]))
 else
 none
 else
 none
theorem u5 (k : Nat) (v0_0 v0_1 v0_2 v0_3 : Int) (v1 : List (Int × List Int)) (v2 : List Int) (v3 v4_0 : Int) (v4_1 : List (Int × Int × Int)) (v4_2_0 v4_2_1 v4_2_2 v4_2_3 v4_2_4 v4_2_5 v4_2_6 v4_3 v4_4 v5 : Int) : xC (k + 60) none 83 [.agg [.lit (.int .i64 v0_0),.lit (.int .i64 v0_1),.lit (.int .i64 v0_2),.lit (.int .i64 v0_3)],.ro (List.map an v1),.ro (List.map (aF .u64) v2),.lit (.int .i64 v3),.agg [.lit (.int .i64 v4_0),.ro (List.map aJ v4_1),.lit (.int .i64 v4_2_0),.lit (.int .i64 v4_2_1),.lit (.int .i64 v4_2_2),.lit (.int .u64 v4_2_3),.lit (.int .u64 v4_2_4),.lit (.int .u64 v4_2_5),.lit (.int .i64 v4_2_6),.lit (.int .i64 v4_3),.lit (.int .i64 v4_4)],.lit (.int .u64 v5)] = ob (gX k (v0_0,v0_1,v0_2,v0_3) v1 v2 v3 (v4_0,v4_1,(v4_2_0,v4_2_1,v4_2_2,v4_2_3,v4_2_4,v4_2_5,v4_2_6),v4_3,v4_4) v5) fun r => some ((.tup [.ro (List.map (aF .u64) r.1),.agg [.lit (.int .i64 r.2.1.1),.ro (List.map aJ r.2.1.2.1),.lit (.int .i64 r.2.1.2.2.1.1),.lit (.int .i64 r.2.1.2.2.1.2.1),.lit (.int .i64 r.2.1.2.2.1.2.2.1),.lit (.int .u64 r.2.1.2.2.1.2.2.2.1),.lit (.int .u64 r.2.1.2.2.1.2.2.2.2.1),.lit (.int .u64 r.2.1.2.2.1.2.2.2.2.2.1),.lit (.int .i64 r.2.1.2.2.1.2.2.2.2.2.2),.lit (.int .i64 r.2.1.2.2.2.1),.lit (.int .i64 r.2.1.2.2.2.2)],.ro (List.map aJ r.2.2)]),[]) := by
  rw [aH]
  unfold gX ur
  simp (maxSteps := 2000000) -implicitDefEqProofs only [aj4,ajx,ag9,acY,afA,acH,aiX,adq,Nk,wO,ag8,aaf,ND,wR,ahw,adz,afO,Z8,afH,acf,NX,Ns,wY,ux,afk,aco,ahm,Zw,agk,abp,afr,ac3,agi,Zy,aiA,ac4,ail,adW,ahJ,abm,Nr,wi,afq,aby,Mo,Oe,uY,wd,ahg,aa2,afU,ad7,ahN,aaS,agb,ac0,ahq,adh,↓syP,syA,syD,simprocAttr,syE,ah,ag,ae,syW,xQ,dg,AP,mg,fd,mN,iu,lD,BJ,rF,ow,EC,rV,Kg,CZ,BB]
  all_goals simp -implicitDefEqProofs only [List.map_nil]
end Go.Ab
