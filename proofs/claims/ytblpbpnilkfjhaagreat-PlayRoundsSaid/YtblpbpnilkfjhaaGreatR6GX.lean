import Derived.Test.YtblpbpnilkfjhaaGreatR6Run
import Derived.Test.YtblpbpnilkfjhaaGreatR6Facts
import Derived.Test.YtblpbpnilkfjhaaGreatR6Man
import Derived.Test.YtblpbpnilkfjhaaGreatR6BY
import Derived.Test.YtblpbpnilkfjhaaGreatR6BX
import Derived.Test.YtblpbpnilkfjhaaGreatR6B3
import Derived.Test.YtblpbpnilkfjhaaGreatR6B4
import Derived.Test.YtblpbpnilkfjhaaGreatR6B5
import Derived.Test.YtblpbpnilkfjhaaGreatR6BW
set_option linter.unusedVariables false
set_option linter.unusedSimpArgs false
set_option maxRecDepth 100000
set_option linter.unusedVariables false
set_option linter.unusedSimpArgs false
namespace Go.Ab
open Go.Proofs
def bB (k:Nat) (v0:Tyt)  : Nat→Int→Option Bool
 | 0,_=>none
 | n+1,s3=>
 bif decide (s3<(↑v0.length:Int)) then
 bif decide (s3≤(40:Int)) then
 ob (idx v0 s3) fun x6=>
 bif decide ((40:Int)<(↑x6.2.length:Int)) then
 some (false)
 else
 bB k v0  n (IntKind.i64.wrap (s3+(1:Int)))
 else
 some (decide ((↑v0.length:Int)≤(40:Int)))
 else
 some (decide ((↑v0.length:Int)≤(40:Int)))
theorem la (k:Nat) (v0:Tyt):∀ (n:Nat) (s3:Int),rt none (itX (xX (xS k) 21 0 k false) rN (0) (au (xX (xS k) 21 0 k false) (ao (xS k).P Tryz.f21) Gl) n ⟨[.ro (List.map an v0),uu,.lit (.bool false),.lit (.int .i64 s3),.junk,.junk,.junk,.junk,.junk,.junk,.junk,.junk,.junk,.junk,.junk,.junk,.junk,.junk,.junk,.junk,.junk,uu,uu,uu],[]⟩)=ob (bB k v0  n s3) fun r=>some ((.lit (.bool r)),[]):=by
 intro n
 induction n with
 | zero=>intros;rfl
 | succ n ih=>
  intro s3
  rw [bB]
  simp (maxSteps:=2000000) -implicitDefEqProofs only [agE,afF,ac9,La,JP,pL,rn,↓syP,syA,syD,simprocAttr,syE,ah,ag,ae,syW,xQ,Rc,ih]
  all_goals simp -implicitDefEqProofs only [List.map_nil]
def dm (k:Nat) (v0:Tyt):Option Bool:=
 bB k v0 k 0
theorem oK (k:Nat) (v0:Tyt):xC (k+1) none 21 [.ro (List.map an v0)]=ob (dm k v0) fun r=>some ((.lit (.bool r)),[]):=by
 rw [aH]
 unfold dm
 simp (maxSteps:=2000000) -implicitDefEqProofs only [agE,afF,ac9,La,JP,pL,rn,↓syP,syA,syD,simprocAttr,syE,ah,ag,ae,syW,xQ,la k v0]
 all_goals simp -implicitDefEqProofs only [List.map_nil]
def fy (v0:(Int×List Int)):Option Bool:=
 bif decide (v0.1<0) then
 some true
 else
 some (decide (20<v0.1))
theorem xh (k:Nat) (v0_0:Int) (v0_1:List Int):xC (k+1) none 99 [.agg [.lit (.int .i64 v0_0),.ro (List.map (aF .i64) v0_1)]]=ob (fy (v0_0,v0_1)) fun r=>some ((.lit (.bool r)),[]):=by
 rw [aH]
 unfold fy
 simp (maxSteps:=2000000) -implicitDefEqProofs only [ab0,abv,CB,kZ,↓syP,syA,syD,simprocAttr,syE,ah,ag,ae,syW,xQ]
 all_goals simp -implicitDefEqProofs only [List.map_nil]
def aE (k:Nat) (v0:Tyt)  : Nat→Int→Option Int
 | 0,_=>none
 | n+1,s12=>
 bif decide (s12<(↑v0.length:Int)) then
 ob (idx v0 s12) fun x17=>
 ob (fy (x17.1,x17.2)) fun x18=>
 bif x18 then
 some (s12)
 else
 aE k v0  n (IntKind.i64.wrap (s12+(1:Int)))
 else
 some ((-1:Int))
theorem dN (k:Nat) (v0:Tyt):∀ (n:Nat) (s12:Int) ⦃j11:V⦄,rt none (itX (xX (xS (k+8)) 147 0 (k+8) false) AM (0) (au (xX (xS (k+8)) 147 0 (k+8) false) (ao (xS (k+8)).P Tryz.f147) Bz) n ⟨[.ro (List.map an v0),.fn (Fn.func (99:FuncId)) [] [],uu,uu,.lit (.int .i64 (0:Int)),j11,.ro (List.map an v0),.lit (.int .i64 (↑v0.length:Int)),.lit (.int .i64 s12),.junk,.junk,.junk,.junk,.junk,.junk,.junk,.junk,.junk,.junk],[]⟩)=ob (aE k v0  n s12) fun r=>some ((.lit (.int .i64 r)),[]):=by
 intro n
 induction n with
 | zero=>intros;rfl
 | succ n ih=>
  intro s12 j11
  rw [aE]
  simp (maxSteps:=2000000) -implicitDefEqProofs only [Jg,FN,E4,n8,fO,↓syP,syA,syD,simprocAttr,syE,ah,ag,ae,syW,xQ,xh,Ly,ih]
  all_goals simp -implicitDefEqProofs only [List.map_nil]
def aY (k:Nat) (v0:Tyt):Option Int:=
 aE k v0 (k+8) 0
theorem eR (k:Nat) (v0:Tyt):xC (k+9) none 147 [.ro (List.map an v0),.fn (Fn.func (99:FuncId)) [] []]=ob (aY k v0) fun r=>some ((.lit (.int .i64 r)),[]):=by
 rw [aH]
 unfold aY
 simp (maxSteps:=2000000) -implicitDefEqProofs only [Jg,FN,E4,n8,fO,↓syP,syA,syD,simprocAttr,syE,ah,ag,ae,syW,xQ,dN k v0]
 all_goals simp -implicitDefEqProofs only [List.map_nil]
def aP (k:Nat) (v0:Tyt):Option Bool:=
 ob (aY (k+8) v0) fun x20=>
 some (decide (0≤x20))
theorem bk (k:Nat) (v0:Tyt):xC (k+18) none 98 [.ro (List.map an v0),.fn (Fn.func (99:FuncId)) [] []]=ob (aP k v0) fun r=>some ((.lit (.bool r)),[]):=by
 rw [aH]
 unfold aP
 simp (maxSteps:=2000000) -implicitDefEqProofs only [ab5,aaq,Jg,FN,E4,n8,fO,↓syP,syA,syD,simprocAttr,syE,ah,ag,ae,syW,xQ,eR]
 all_goals simp -implicitDefEqProofs only [List.map_nil]
def cX (k:Nat) (v0:Tyt) (o0:Int→List Bool→Option Bool):Nat→List Int→Int→Int→List Bool→Int→Option Bool
 | 0,_,_,_,_,_=>none
 | n+1,s29,s30,s38,s39,s48=>
 bif decide (s38<s30) then
 ob (idx s29 s38) fun x62=>
 bif decide (x62≤s48) then
 some (false)
 else
 bif decide ((↑v0.length:Int)≤x62) then
 some (false)
 else
 bif decide ((0:Int)≤x62∧x62.toNat<v0.length) then
 ob (s39[x62.toNat]?) fun x63=>
 bif x63 then
 some (false)
 else
 bif decide ((0:Int)≤x62∧x62.toNat<v0.length) then
 ob (s39[x62.toNat]?) fun x64=>
 cX k v0 o0 n (s29) (s30) (IntKind.i64.wrap (s38+(1:Int))) (s39.set x62.toNat true) (s48)
 else
 none
 else
 none
 else
 o0 (IntKind.i64.wrap (s48+(1:Int))) (s39)
theorem oH (k:Nat) (v0:Tyt) (n23:Nat) (o0:Int→List Bool→Option Bool) (ho0:∀ (s42:Int) (s51:List Bool) ⦃s24:Bool⦄ ⦃j40 j41 j50:V⦄,rt none (bq (itX (xX (xS (k+17)) 148 0 (k+17) false) kd (7) (au (xX (xS (k+17)) 148 0 (k+17) false) (ao (xS (k+17)).P Tryz.f148) ma) n23 ⟨[.yld 6,.ptr 5 0 0 0,uu,j40,j41,uu,j50,.ro (List.map an v0),.lit (.int .i64 (↑v0.length:Int)),.lit (.int .i64 s42),.junk,.junk,.junk,.junk,.junk,.junk,.junk,.junk,.junk,.junk,.junk,.junk,.junk,.junk,.junk,.junk,.junk,.junk],[.box [.ro (List.map an v0)],.box [.lit (.bool false)],.rows 1 (List.map fA s51) 0 true,.rows 0 [] 0 true,.box [.own 2 0 v0.length],.box [.ro (List.map an v0)],(.loop ⟨LoopState.ready,none,56,[.ro (List.map an v0),.ptr 0 0 0 0,.ptr 1 0 0 0,.ptr 4 0 0 0,uu,uu,.ro (List.map an v0),.lit (.int .i64 (↑v0.length:Int)),.lit (.bool (decide ((30:Int)<(↑v0.length:Int)))),.lit (.bool false),.ro (List.map an v0),.lit (.bool s24),.lit (.bool s24),.ro (List.map an v0),.lit (.int .i64 (↑v0.length:Int)),.own 2 0 v0.length,.ro (List.map an v0),.fn (Fn.func (148:FuncId)) [] [.ptr 5 0 0 0],uu,uu,uu,uu,uu,uu,uu,uu,uu,uu,uu,uu,uu,uu,uu,uu,uu,uu,uu,uu],[(18:Tmp),(19:Tmp)],CY,CD⟩)]⟩) (rfK (au (xX (xS (k+18)) 56 0 (k+18) false) (ao (xS (k+18)).P Tryz.f56) AF) [.ro (List.map an v0),.ptr 0 0 0 0,.ptr 1 0 0 0,.ptr 4 0 0 0,uu,uu,.ro (List.map an v0),.lit (.int .i64 (↑v0.length:Int)),.lit (.bool (decide ((30:Int)<(↑v0.length:Int)))),.lit (.bool false),.ro (List.map an v0),.lit (.bool s24),.lit (.bool s24),.ro (List.map an v0),.lit (.int .i64 (↑v0.length:Int)),.own 2 0 v0.length,.ro (List.map an v0),.fn (Fn.func (148:FuncId)) [] [.ptr 5 0 0 0],uu,uu,uu,uu,uu,uu,uu,uu,uu,uu,uu,uu,uu,uu,uu,uu,uu,uu,uu,uu] (6)))=ob (o0 s42 s51) fun r=>some ((.lit (.bool r)),[])):∀ (n:Nat) (s29:List Int) (s30:Int) (s38:Int) (s39:List Bool) (s48:Int) ⦃s28:Int⦄ ⦃s31:Bool⦄ ⦃s49:Bool⦄ ⦃j37:V⦄,rt none (bq (itX (xX (xS (k+17)) 148 0 (k+17) false) uI (9) (au (xX (xS (k+17)) 148 0 (k+17) false) (eO (xX (xS (k+17)) 148 0 (k+17) false) kd 7 (au (xX (xS (k+17)) 148 0 (k+17) false) (ao (xS (k+17)).P Tryz.f148) ma) n23) wS) n ⟨[.yld 6,.ptr 5 0 0 0,uu,.lit (.int .i64 s48),.ptr 8 0 0 0,uu,j37,.ro (List.map an v0),.lit (.int .i64 (↑v0.length:Int)),.lit (.int .i64 s48),.lit (.bool s49),.lit (.int .i64 s48),.rp [.lit (.int .i64 s28),.ro (List.map (aF IntKind.i64) s29)],.agg [.lit (.int .i64 s28),.ro (List.map (aF IntKind.i64) s29)],.ptr 8 0 0 1,.ro (List.map (aF IntKind.i64) s29),.lit (.int .i64 s30),.lit (.int .i64 s38),.junk,.junk,.junk,.junk,.junk,.junk,.junk,.junk,.junk,.junk],[.box [.ro (List.map an v0)],.box [.lit (.bool false)],.rows 1 (List.map fA s39) 0 true,.rows 0 [] 0 true,.box [.own 2 0 v0.length],.box [.ro (List.map an v0)],(.loop ⟨LoopState.ready,none,56,[.ro (List.map an v0),.ptr 0 0 0 0,.ptr 1 0 0 0,.ptr 4 0 0 0,uu,uu,.ro (List.map an v0),.lit (.int .i64 (↑v0.length:Int)),.lit (.bool (decide ((30:Int)<(↑v0.length:Int)))),.lit (.bool false),.ro (List.map an v0),.lit (.bool s31),.lit (.bool s31),.ro (List.map an v0),.lit (.int .i64 (↑v0.length:Int)),.own 2 0 v0.length,.ro (List.map an v0),.fn (Fn.func (148:FuncId)) [] [.ptr 5 0 0 0],uu,uu,uu,uu,uu,uu,uu,uu,uu,uu,uu,uu,uu,uu,uu,uu,uu,uu,uu,uu],[(18:Tmp),(19:Tmp)],CY,CD⟩),.rows 0 [] 0 true,.box [.lit (.int .i64 s28),.ro (List.map (aF IntKind.i64) s29)]]⟩) (rfK (au (xX (xS (k+18)) 56 0 (k+18) false) (ao (xS (k+18)).P Tryz.f56) AF) [.ro (List.map an v0),.ptr 0 0 0 0,.ptr 1 0 0 0,.ptr 4 0 0 0,uu,uu,.ro (List.map an v0),.lit (.int .i64 (↑v0.length:Int)),.lit (.bool (decide ((30:Int)<(↑v0.length:Int)))),.lit (.bool false),.ro (List.map an v0),.lit (.bool s31),.lit (.bool s31),.ro (List.map an v0),.lit (.int .i64 (↑v0.length:Int)),.own 2 0 v0.length,.ro (List.map an v0),.fn (Fn.func (148:FuncId)) [] [.ptr 5 0 0 0],uu,uu,uu,uu,uu,uu,uu,uu,uu,uu,uu,uu,uu,uu,uu,uu,uu,uu,uu,uu] (6)))=ob (cX k v0 o0 n s29 s30 s38 s39 s48) fun r=>some ((.lit (.bool r)),[]):=by
 intro n
 induction n with
 | zero=>intros;rfl
 | succ n ih=>
  intro s29 s30 s38 s39 s48 s28 s31 s49 j37
  rw [cX]
  simp (maxSteps:=2000000) -implicitDefEqProofs only [acn,acf,ab9,Gq,GM,ez,eB,GC,GX,m6,mX,mM,uH,ab5,aaq,ab0,abv,CB,kZ,Jf,Fo,aH (g:=100),Jg,FN,E4,n8,fO,Jo,Ff,F2,nP,nL,fG,fJ,↓syP,syA,syD,simprocAttr,syE,ah,ag,ae,syW,xQ,bk,Fd,ih,ho0]
  all_goals simp -implicitDefEqProofs only [List.map_nil]
def bY (k:Nat) (v0:Tyt)  : Nat→Int→List Bool→Option Bool
 | 0,_,_=>none
 | n+1,s42,s51=>
 bif decide (s42<(↑v0.length:Int)) then
 ob (idx v0 s42) fun x58=>
 cX k v0 (fun s42 s51=>bY k v0  n s42 s51) (k+17) (x58.2) ((↑x58.2.length:Int)) ((0:Int)) (s51) (s42)
 else
 some (true)
theorem pj (k:Nat) (v0:Tyt):∀ (n:Nat) (s42:Int) (s51:List Bool) ⦃s24:Bool⦄ ⦃j40 j41 j50:V⦄,rt none (bq (itX (xX (xS (k+17)) 148 0 (k+17) false) kd (7) (au (xX (xS (k+17)) 148 0 (k+17) false) (ao (xS (k+17)).P Tryz.f148) ma) n ⟨[.yld 6,.ptr 5 0 0 0,uu,j40,j41,uu,j50,.ro (List.map an v0),.lit (.int .i64 (↑v0.length:Int)),.lit (.int .i64 s42),.junk,.junk,.junk,.junk,.junk,.junk,.junk,.junk,.junk,.junk,.junk,.junk,.junk,.junk,.junk,.junk,.junk,.junk],[.box [.ro (List.map an v0)],.box [.lit (.bool false)],.rows 1 (List.map fA s51) 0 true,.rows 0 [] 0 true,.box [.own 2 0 v0.length],.box [.ro (List.map an v0)],(.loop ⟨LoopState.ready,none,56,[.ro (List.map an v0),.ptr 0 0 0 0,.ptr 1 0 0 0,.ptr 4 0 0 0,uu,uu,.ro (List.map an v0),.lit (.int .i64 (↑v0.length:Int)),.lit (.bool (decide ((30:Int)<(↑v0.length:Int)))),.lit (.bool false),.ro (List.map an v0),.lit (.bool s24),.lit (.bool s24),.ro (List.map an v0),.lit (.int .i64 (↑v0.length:Int)),.own 2 0 v0.length,.ro (List.map an v0),.fn (Fn.func (148:FuncId)) [] [.ptr 5 0 0 0],uu,uu,uu,uu,uu,uu,uu,uu,uu,uu,uu,uu,uu,uu,uu,uu,uu,uu,uu,uu],[(18:Tmp),(19:Tmp)],CY,CD⟩)]⟩) (rfK (au (xX (xS (k+18)) 56 0 (k+18) false) (ao (xS (k+18)).P Tryz.f56) AF) [.ro (List.map an v0),.ptr 0 0 0 0,.ptr 1 0 0 0,.ptr 4 0 0 0,uu,uu,.ro (List.map an v0),.lit (.int .i64 (↑v0.length:Int)),.lit (.bool (decide ((30:Int)<(↑v0.length:Int)))),.lit (.bool false),.ro (List.map an v0),.lit (.bool s24),.lit (.bool s24),.ro (List.map an v0),.lit (.int .i64 (↑v0.length:Int)),.own 2 0 v0.length,.ro (List.map an v0),.fn (Fn.func (148:FuncId)) [] [.ptr 5 0 0 0],uu,uu,uu,uu,uu,uu,uu,uu,uu,uu,uu,uu,uu,uu,uu,uu,uu,uu,uu,uu] (6)))=ob (bY k v0  n s42 s51) fun r=>some ((.lit (.bool r)),[]):=by
 intro n
 induction n with
 | zero=>intros;rfl
 | succ n ih=>
  intro s42 s51 s24 j40 j41 j50
  rw [bY]
  simp (maxSteps:=2000000) -implicitDefEqProofs only [acn,acf,ab9,Gq,GM,ez,eB,GC,GX,m6,mX,mM,uH,ab5,aaq,ab0,abv,CB,kZ,Jf,Fo,aH (g:=100),Jg,FN,E4,n8,fO,Jo,Ff,F2,nP,nL,fG,fJ,↓syP,syA,syD,simprocAttr,syE,ah,ag,ae,syW,xQ,bk,Fq,ih,oH k v0 _ (fun s42 s51=>bY k v0  n s42 s51) ih]
  all_goals simp -implicitDefEqProofs only [List.map_nil]
def cT (k:Nat) (v0:Tyt):Option Bool:=
 bif decide (30<(↑v0.length:Int)) then
 some false
 else
 ob (aP k v0) fun x65=>
 bif x65 then
 some false
 else
 bif decide (0≤(↑v0.length:Int)∧(↑v0.length:Int)≤9223372036854775807∧(↑v0.length:Int)*1≤70368744177664) then
 bY k v0 (k+17) 0 (List.replicate v0.length false)
 else
 none
theorem cS (k:Nat) (v0:Tyt):xC (k+19) none 56 [.ro (List.map an v0)]=ob (cT k v0) fun r=>some ((.lit (.bool r)),[]):=by
 rw [aH]
 unfold cT
 simp (maxSteps:=2000000) -implicitDefEqProofs only [acn,acf,ab9,Gq,GM,ez,eB,GC,GX,m6,mX,mM,uH,ab5,aaq,ab0,abv,CB,kZ,Jf,Fo,aH (g:=100),Jg,FN,E4,n8,fO,Jo,Ff,F2,nP,nL,fG,fJ,↓syP,syA,syD,simprocAttr,syE,ah,ag,ae,syW,xQ,bk,pj k v0]
 all_goals simp -implicitDefEqProofs only [List.map_nil]
def bZ (k:Nat) (v0:Tyt) (v1:Int) (o0:Int→Option Int):Nat→List Int→Int→Int→Int→Option Int
 | 0,_,_,_,_=>none
 | n+1,s114,s115,s121,s128=>
 bif decide (s121<s115) then
 ob (idx s114 s121) fun x137=>
 bif x137==v1 then
 some (s128)
 else
 bZ k v0 v1 o0 n (s114) (s115) (IntKind.i64.wrap (s121+(1:Int))) (s128)
 else
 o0 (IntKind.i64.wrap (s128+(1:Int)))
theorem mt (k:Nat) (v0:Tyt) (v1:Int) (n108:Nat) (o0:Int→Option Int) (ho0:∀ (s124:Int) ⦃s109:Bool⦄ ⦃j122 j123 j130:V⦄,rt none (bq (itX (xX (xS (k+18)) 148 0 (k+18) false) kd (4) (au (xX (xS (k+18)) 148 0 (k+18) false) (ao (xS (k+18)).P Tryz.f148) ma) n108 ⟨[.yld 3,.ptr 2 0 0 0,uu,j122,j123,uu,j130,.ro (List.map an v0),.lit (.int .i64 (↑v0.length:Int)),.lit (.int .i64 s124),.junk,.junk,.junk,.junk,.junk,.junk,.junk,.junk,.junk,.junk,.junk,.junk,.junk,.junk,.junk,.junk,.junk,.junk],[.box [.lit (.int .i64 v1)],.box [.lit (.int .i64 (0:Int))],.box [.ro (List.map an v0)],(.loop ⟨LoopState.ready,none,101,[.ro (List.map an v0),.lit (.int .i64 v1),uu,.ptr 0 0 0 0,.ptr 1 0 0 0,uu,uu,.ro (List.map an v0),.lit (.bool s109),.ro (List.map an v0),.fn (Fn.func (148:FuncId)) [] [.ptr 2 0 0 0],uu,uu,uu,uu,uu,uu],[(11:Tmp),(12:Tmp)],wN,ww⟩)]⟩) (rfK (au (xX (xS (k+19)) 101 0 (k+19) false) (ao (xS (k+19)).P Tryz.f101) rq) [.ro (List.map an v0),.lit (.int .i64 v1),uu,.ptr 0 0 0 0,.ptr 1 0 0 0,uu,uu,.ro (List.map an v0),.lit (.bool s109),.ro (List.map an v0),.fn (Fn.func (148:FuncId)) [] [.ptr 2 0 0 0],uu,uu,uu,uu,uu,uu] (3)))=ob (o0 s124) fun r=>some ((.lit (.int .i64 r)),[])):∀ (n:Nat) (s114:List Int) (s115:Int) (s121:Int) (s128:Int) ⦃s113:Int⦄ ⦃s116:Bool⦄ ⦃s129:Bool⦄ ⦃j120:V⦄,rt none (bq (itX (xX (xS (k+18)) 148 0 (k+18) false) uI (6) (au (xX (xS (k+18)) 148 0 (k+18) false) (eO (xX (xS (k+18)) 148 0 (k+18) false) kd 4 (au (xX (xS (k+18)) 148 0 (k+18) false) (ao (xS (k+18)).P Tryz.f148) ma) n108) wS) n ⟨[.yld 3,.ptr 2 0 0 0,uu,.lit (.int .i64 s128),.ptr 5 0 0 0,uu,j120,.ro (List.map an v0),.lit (.int .i64 (↑v0.length:Int)),.lit (.int .i64 s128),.lit (.bool s129),.lit (.int .i64 s128),.rp [.lit (.int .i64 s113),.ro (List.map (aF IntKind.i64) s114)],.agg [.lit (.int .i64 s113),.ro (List.map (aF IntKind.i64) s114)],.ptr 5 0 0 1,.ro (List.map (aF IntKind.i64) s114),.lit (.int .i64 s115),.lit (.int .i64 s121),.junk,.junk,.junk,.junk,.junk,.junk,.junk,.junk,.junk,.junk],[.box [.lit (.int .i64 v1)],.box [.lit (.int .i64 (0:Int))],.box [.ro (List.map an v0)],(.loop ⟨LoopState.ready,none,101,[.ro (List.map an v0),.lit (.int .i64 v1),uu,.ptr 0 0 0 0,.ptr 1 0 0 0,uu,uu,.ro (List.map an v0),.lit (.bool s116),.ro (List.map an v0),.fn (Fn.func (148:FuncId)) [] [.ptr 2 0 0 0],uu,uu,uu,uu,uu,uu],[(11:Tmp),(12:Tmp)],wN,ww⟩),.rows 0 [] 0 true,.box [.lit (.int .i64 s113),.ro (List.map (aF IntKind.i64) s114)]]⟩) (rfK (au (xX (xS (k+19)) 101 0 (k+19) false) (ao (xS (k+19)).P Tryz.f101) rq) [.ro (List.map an v0),.lit (.int .i64 v1),uu,.ptr 0 0 0 0,.ptr 1 0 0 0,uu,uu,.ro (List.map an v0),.lit (.bool s116),.ro (List.map an v0),.fn (Fn.func (148:FuncId)) [] [.ptr 2 0 0 0],uu,uu,uu,uu,uu,uu] (3)))=ob (bZ k v0 v1 o0 n s114 s115 s121 s128) fun r=>some ((.lit (.int .i64 r)),[]):=by
 intro n
 induction n with
 | zero=>intros;rfl
 | succ n ih=>
  intro s114 s115 s121 s128 s113 s116 s129 j120
  rw [bZ]
  simp (maxSteps:=2000000) -implicitDefEqProofs only [Jf,Fo,aH (g:=100),Xg,QO,OO,Ba,ea,d9,mb,pO,Jo,Ff,F2,nP,nL,fG,fJ,↓syP,syA,syD,simprocAttr,syE,ah,ag,ae,syW,xQ,cS,Fd,ih,ho0]
  all_goals simp -implicitDefEqProofs only [List.map_nil]
def bG (k:Nat) (v0:Tyt) (v1:Int)  : Nat→Int→Option Int
 | 0,_=>none
 | n+1,s124=>
 bif decide (s124<(↑v0.length:Int)) then
 ob (idx v0 s124) fun x135=>
 bZ k v0 v1 (fun s124=>bG k v0 v1  n s124) (k+18) (x135.2) ((↑x135.2.length:Int)) ((0:Int)) (s124)
 else
 some ((-1:Int))
theorem mH (k:Nat) (v0:Tyt) (v1:Int):∀ (n:Nat) (s124:Int) ⦃s109:Bool⦄ ⦃j122 j123 j130:V⦄,rt none (bq (itX (xX (xS (k+18)) 148 0 (k+18) false) kd (4) (au (xX (xS (k+18)) 148 0 (k+18) false) (ao (xS (k+18)).P Tryz.f148) ma) n ⟨[.yld 3,.ptr 2 0 0 0,uu,j122,j123,uu,j130,.ro (List.map an v0),.lit (.int .i64 (↑v0.length:Int)),.lit (.int .i64 s124),.junk,.junk,.junk,.junk,.junk,.junk,.junk,.junk,.junk,.junk,.junk,.junk,.junk,.junk,.junk,.junk,.junk,.junk],[.box [.lit (.int .i64 v1)],.box [.lit (.int .i64 (0:Int))],.box [.ro (List.map an v0)],(.loop ⟨LoopState.ready,none,101,[.ro (List.map an v0),.lit (.int .i64 v1),uu,.ptr 0 0 0 0,.ptr 1 0 0 0,uu,uu,.ro (List.map an v0),.lit (.bool s109),.ro (List.map an v0),.fn (Fn.func (148:FuncId)) [] [.ptr 2 0 0 0],uu,uu,uu,uu,uu,uu],[(11:Tmp),(12:Tmp)],wN,ww⟩)]⟩) (rfK (au (xX (xS (k+19)) 101 0 (k+19) false) (ao (xS (k+19)).P Tryz.f101) rq) [.ro (List.map an v0),.lit (.int .i64 v1),uu,.ptr 0 0 0 0,.ptr 1 0 0 0,uu,uu,.ro (List.map an v0),.lit (.bool s109),.ro (List.map an v0),.fn (Fn.func (148:FuncId)) [] [.ptr 2 0 0 0],uu,uu,uu,uu,uu,uu] (3)))=ob (bG k v0 v1  n s124) fun r=>some ((.lit (.int .i64 r)),[]):=by
 intro n
 induction n with
 | zero=>intros;rfl
 | succ n ih=>
  intro s124 s109 j122 j123 j130
  rw [bG]
  simp (maxSteps:=2000000) -implicitDefEqProofs only [Jf,Fo,aH (g:=100),Xg,QO,OO,Ba,ea,d9,mb,pO,Jo,Ff,F2,nP,nL,fG,fJ,↓syP,syA,syD,simprocAttr,syE,ah,ag,ae,syW,xQ,cS,Fq,ih,mt k v0 v1 _ (fun s124=>bG k v0 v1  n s124) ih]
  all_goals simp -implicitDefEqProofs only [List.map_nil]
def eT (k:Nat) (v0:Tyt) (v1:Int):Option Int:=
 ob (cT k v0) fun x138=>
 bif x138 then
 bG k v0 v1 (k+18) 0
 else
 some ((-1))
theorem uk (k:Nat) (v0:Tyt) (v1:Int):xC (k+20) none 101 [.ro (List.map an v0),.lit (.int .i64 v1)]=ob (eT k v0 v1) fun r=>some ((.lit (.int .i64 r)),[]):=by
 rw [aH]
 unfold eT
 simp (maxSteps:=2000000) -implicitDefEqProofs only [Jf,Fo,aH (g:=100),Xg,QO,OO,Ba,ea,d9,mb,pO,Jo,Ff,F2,nP,nL,fG,fJ,↓syP,syA,syD,simprocAttr,syE,ah,ag,ae,syW,xQ,cS,mH k v0 v1]
 all_goals simp -implicitDefEqProofs only [List.map_nil]
end Go.Ab
set_option maxRecDepth 100000
set_option linter.unusedVariables false
set_option linter.unusedSimpArgs false
namespace Go.Ab
open Go.Proofs
def ew (v0:Int) (v1:Int) (v2:Int):Option Bool:=
 bif decide (v1≤v0) then
 some (decide (v0≤v2))
 else
 some false
theorem mc (k:Nat) (v0 v1 v2:Int):xC (k+1) none 93 [.lit (.int .i64 v0),.lit (.int .i64 v1),.lit (.int .i64 v2)]=ob (ew v0 v1 v2) fun r=>some ((.lit (.bool r)),[]):=by
 rw [aH]
 unfold ew
 simp (maxSteps:=2000000) -implicitDefEqProofs only [ahN,agx,Sm,Am,↓syP,syA,syD,simprocAttr,syE,ah,ag,ae,syW,xQ]
 all_goals simp -implicitDefEqProofs only [List.map_nil]
def b7 (v0:(Int×Int×Int×Int)):Option Bool:=
 ob (ew v0.1 1 8) fun x5=>
 bif x5 then
 ob (ew v0.2.1 1 16) fun x6=>
 bif x6 then
 bif w8 IntKind.i64 v0.2.1 (IntKind.i64.wrap (v0.2.1 - 1))==0 then
 ob (ew v0.2.2.1 1 16) fun x7=>
 bif x7 then
 ob (ew v0.2.2.2 0 4) fun x8=>
 some x8
 else
 some false
 else
 some false
 else
 some false
 else
 some false
theorem ct (k:Nat) (v0_0 v0_1 v0_2 v0_3:Int):xC (k+2) none 50 [.agg [.lit (.int .i64 v0_0),.lit (.int .i64 v0_1),.lit (.int .i64 v0_2),.lit (.int .i64 v0_3)]]=ob (b7 (v0_0,v0_1,v0_2,v0_3)) fun r=>some ((.lit (.bool r)),[]):=by
 rw [aH]
 unfold b7
 simp (maxSteps:=2000000) -implicitDefEqProofs only [ahL,agD,Si,RY,Sp,SK,xL,↓syP,syA,syD,simprocAttr,syE,ah,ag,ae,syW,xQ,mc]
 all_goals simp -implicitDefEqProofs only [List.map_nil]
def ff (v0:(Int×Int×Int×Int)) (v1:Int):Option Int:=
 some (IntKind.i64.wrap (IntKind.i64.wrap (6+IntKind.i64.wrap (2*v0.2.2.1))+IntKind.i64.wrap (v1*IntKind.i64.wrap (3+v0.2.1))))
theorem lB (k:Nat) (v0_0 v0_1 v0_2 v0_3 v1:Int):xC (k+1) none 72 [.agg [.lit (.int .i64 v0_0),.lit (.int .i64 v0_1),.lit (.int .i64 v0_2),.lit (.int .i64 v0_3)],.lit (.int .i64 v1)]=ob (ff (v0_0,v0_1,v0_2,v0_3) v1) fun r=>some ((.lit (.int .i64 r)),[]):=by
 rw [aH]
 unfold ff
 simp (maxSteps:=2000000) -implicitDefEqProofs only [ahk,agR,↓syP,syA,syD,simprocAttr,syE,ah,ag,ae,syW,xQ]
 all_goals simp -implicitDefEqProofs only [List.map_nil]
def dL (v0:(Int×Int×Int×Int)):Option Int:=
 ob (b7 v0) fun x16=>
 bif !x16 then
 some 0
 else
 ob (ff v0 v0.1) fun x17=>
 some x17
theorem gH (k:Nat) (v0_0 v0_1 v0_2 v0_3:Int):xC (k+3) none 103 [.agg [.lit (.int .i64 v0_0),.lit (.int .i64 v0_1),.lit (.int .i64 v0_2),.lit (.int .i64 v0_3)]]=ob (dL (v0_0,v0_1,v0_2,v0_3)) fun r=>some ((.lit (.int .i64 r)),[]):=by
 rw [aH]
 unfold dL
 simp (maxSteps:=2000000) -implicitDefEqProofs only [acq,YT,↓syP,syA,syD,simprocAttr,syE,ah,ag,ae,syW,xQ,ct,lB]
 all_goals simp -implicitDefEqProofs only [List.map_nil]
def gQ (v0:(List Int)) (v1:Int):Option Bool:=
 bif decide (0≤v1) then
 some (decide (v1<(↑v0.length:Int)))
 else
 some false
theorem oo (k:Nat) (v0:List Int) (v1:Int):xC (k+1) none 66 [.ro (List.map (aF .u64) v0),.lit (.int .i64 v1)]=ob (gQ v0 v1) fun r=>some ((.lit (.bool r)),[]):=by
 rw [aH]
 unfold gQ
 simp (maxSteps:=2000000) -implicitDefEqProofs only [ahT,agJ,RW,xW,↓syP,syA,syD,simprocAttr,syE,ah,ag,ae,syW,xQ]
 all_goals simp -implicitDefEqProofs only [List.map_nil]
def aI (v0:(List Int)) (v1:Int):Option Int:=
 ob (gQ v0 v1) fun x22=>
 bif !x22 then
 some 0
 else
 ob (idx v0 v1) fun x23=>
 some x23
theorem da (k:Nat) (v0:List Int) (v1:Int):xC (k+2) none 27 [.ro (List.map (aF .u64) v0),.lit (.int .i64 v1)]=ob (aI v0 v1) fun r=>some ((.lit (.int .u64 r)),[]):=by
 rw [aH]
 unfold aI
 simp (maxSteps:=2000000) -implicitDefEqProofs only [ahM,agY,↓syP,syA,syD,simprocAttr,syE,ah,ag,ae,syW,xQ,oo]
 all_goals simp -implicitDefEqProofs only [List.map_nil]
def bo (v0:(List Int)) (v1:Int) (v2:Int):Option (List Int):=
 ob (aL 8 v0) fun x31=>
 ob (gQ v0 v1) fun x32=>
 bif !x32 then
 some x31
 else
 ob (idx v0 v1) fun x33=>
 bif decide (0≤v1∧v1.toNat<x31.length) then
 ob (x31[v1.toNat]?) fun x34=>
 ob (idx v0 v1) fun x35=>
 some (x31.set v1.toNat v2)
 else
 none
theorem dS (k:Nat) (v0:List Int) (v1 v2:Int):xC (k+11) none 88 [.ro (List.map (aF .u64) v0),.lit (.int .i64 v1),.lit (.int .u64 v2)]=ob (bo v0 v1 v2) fun r=>some ((.ro (List.map (aF .u64) r)),[]):=by
 rw [aH]
 unfold bo
 simp (maxSteps:=2000000) -implicitDefEqProofs only [ahv,ag2,Ug,O5,afC,Yn,↓syP,syA,syD,simprocAttr,syE,ah,ag,ae,syW,xQ,oo]
 all_goals simp -implicitDefEqProofs only [List.map_nil]
def dk (v0:(List Int)) (v1:Int) (v2:Int):Option ((List Int)×Int):=
 ob (aL 8 v0) fun x46=>
 ob (gQ v0 v1) fun x47=>
 bif !x47 then
 some (x46,0)
 else
 ob (idx v0 v1) fun x48=>
 bif decide (0≤v1∧v1.toNat<x46.length) then
 ob (x46[v1.toNat]?) fun x49=>
 ob (idx v0 v1) fun x50=>
 some ((x46.set v1.toNat (IntKind.u64.wrap (x48+v2))),x50)
 else
 none
theorem AC (k:Nat) (v0:List Int) (v1 v2:Int):xC (k+11) none 138 [.ro (List.map (aF .u64) v0),.lit (.int .i64 v1),.lit (.int .u64 v2)]=ob (dk v0 v1 v2) fun r=>some ((.tup [.ro (List.map (aF .u64) r.1),.lit (.int .u64 r.2)]),[]):=by
 rw [aH]
 unfold dk
 simp (maxSteps:=2000000) -implicitDefEqProofs only [ads,ZT,Ug,O5,aeQ,aaP,↓syP,syA,syD,simprocAttr,syE,ah,ag,ae,syW,xQ,oo]
 all_goals simp -implicitDefEqProofs only [List.map_nil]
def dj (v0 : (List Int)) (v1 : Int) (v2 : Int) (v3 : Int) : Option ((List Int) × Bool) :=
 ob (aL 8 v0) fun x63 =>
 ob (gQ v0 v1) fun x64 =>
 bif !x64 then
 some (x63,false)
 else
 ob (idx v0 v1) fun x65 =>
 bif x65 != v2 then
 bif decide (0 ≤ v1 ∧ v1.toNat < x63.length) then
 ob (x63[v1.toNat]?) fun x66 =>
 ob (idx v0 v1) fun x67 =>
 some ((x63.set v1.toNat x65),false)
 else
 none
 else
 bif decide (0 ≤ v1 ∧ v1.toNat < x63.length) then
 ob (x63[v1.toNat]?) fun x68 =>
 ob (idx v0 v1) fun x69 =>
 some ((x63.set v1.toNat v3),true)
 else
 none
theorem i9 (k:Nat) (v0:List Int) (v1 v2 v3:Int):xC (k+11) none 191 [.ro (List.map (aF .u64) v0),.lit (.int .i64 v1),.lit (.int .u64 v2),.lit (.int .u64 v3)]=ob (dj v0 v1 v2 v3) fun r=>some ((.tup [.ro (List.map (aF .u64) r.1),.lit (.bool r.2)]),[]):=by
 rw [aH]
 unfold dj
 simp (maxSteps:=2000000) -implicitDefEqProofs only [Ug,O5,adv,abG,ae2,YQ,↓syP,syA,syD,simprocAttr,syE,ah,ag,ae,syW,xQ,oo]
 all_goals simp -implicitDefEqProofs only [List.map_nil]
def aJ (v0:Int) (v1:Int) (v2:Int):Option (Int×Int×Int×Int×Int×Int×Int):=
 some (v0,0,v1,v2,0,0,0)
theorem lT (k:Nat) (v0 v1 v2:Int):xC (k+1) none 104 [.lit (.int .i64 v0),.lit (.int .i64 v1),.lit (.int .u64 v2)]=ob (aJ v0 v1 v2) fun r=>some ((.agg [.lit (.int .i64 r.1),.lit (.int .i64 r.2.1),.lit (.int .i64 r.2.2.1),.lit (.int .u64 r.2.2.2.1),.lit (.int .u64 r.2.2.2.2.1),.lit (.int .u64 r.2.2.2.2.2.1),.lit (.int .i64 r.2.2.2.2.2.2)]),[]):=by
 rw [aH]
 unfold aJ
 simp (maxSteps:=2000000) -implicitDefEqProofs only [afg,abu,↓syP,syA,syD,simprocAttr,syE,ah,ag,ae,syW,xQ]
 all_goals simp -implicitDefEqProofs only [List.map_nil]
def aK (v0:(Int×Int×Int×Int×Int×Int×Int)):Option Bool:=
 some (v0.2.2.2.2.2.2 !=0)
theorem eG (k:Nat) (v0_0 v0_1 v0_2 v0_3 v0_4 v0_5 v0_6:Int):xC (k+1) none 110 [.agg [.lit (.int .i64 v0_0),.lit (.int .i64 v0_1),.lit (.int .i64 v0_2),.lit (.int .u64 v0_3),.lit (.int .u64 v0_4),.lit (.int .u64 v0_5),.lit (.int .i64 v0_6)]]=ob (aK (v0_0,v0_1,v0_2,v0_3,v0_4,v0_5,v0_6)) fun r=>some ((.lit (.bool r)),[]):=by
 rw [aH]
 unfold aK
 simp (maxSteps:=2000000) -implicitDefEqProofs only [afD,Zi,↓syP,syA,syD,simprocAttr,syE,ah,ag,ae,syW,xQ]
 all_goals simp -implicitDefEqProofs only [List.map_nil]
def aW (v0:(Int×Int×Int×Int×Int×Int×Int)) (v1:Int) (v2:Int):Option (Int×Int×Int×Int×Int×Int×Int):=
 some (v0.1,0,v0.2.2.1,v2,0,0,v1)
theorem fN (k:Nat) (v0_0 v0_1 v0_2 v0_3 v0_4 v0_5 v0_6 v1 v2:Int):xC (k+1) none 193 [.agg [.lit (.int .i64 v0_0),.lit (.int .i64 v0_1),.lit (.int .i64 v0_2),.lit (.int .u64 v0_3),.lit (.int .u64 v0_4),.lit (.int .u64 v0_5),.lit (.int .i64 v0_6)],.lit (.int .i64 v1),.lit (.int .u64 v2)]=ob (aW (v0_0,v0_1,v0_2,v0_3,v0_4,v0_5,v0_6) v1 v2) fun r=>some ((.agg [.lit (.int .i64 r.1),.lit (.int .i64 r.2.1),.lit (.int .i64 r.2.2.1),.lit (.int .u64 r.2.2.2.1),.lit (.int .u64 r.2.2.2.2.1),.lit (.int .u64 r.2.2.2.2.2.1),.lit (.int .i64 r.2.2.2.2.2.2)]),[]):=by
 rw [aH]
 unfold aW
 simp (maxSteps:=2000000) -implicitDefEqProofs only [afo,Ya,↓syP,syA,syD,simprocAttr,syE,ah,ag,ae,syW,xQ]
 all_goals simp -implicitDefEqProofs only [List.map_nil]
def lI (v0:Int) (v1:Int):Option Int:=
 bif decide (v1<0) then
 some v0
 else
 bif decide (16≤v1) then
 some v0
 else
 bif decide (0≤v1) then
 some (orI IntKind.u64 v0 (Pr IntKind.u64 1 v1))
 else
 none
theorem Im (k:Nat) (v0 v1:Int):xC (k+1) none 214 [.lit (.int .u64 v0),.lit (.int .i64 v1)]=ob (lI v0 v1) fun r=>some ((.lit (.int .u64 r)),[]):=by
 rw [aH]
 unfold lI
 simp (maxSteps:=2000000) -implicitDefEqProofs only [aek,Yq,MH,wU,↓syP,syA,syD,simprocAttr,syE,ah,ag,ae,syW,xQ]
 all_goals simp -implicitDefEqProofs only [List.map_nil]
def dT (v0:Int):Option Int:=
 some (R7 IntKind.u64 v0 16)
theorem mF (k:Nat) (v0:Int):xC (k+1) none 213 [.lit (.int .u64 v0)]=ob (dT v0) fun r=>some ((.lit (.int .u64 r)),[]):=by
 rw [aH]
 unfold dT
 simp (maxSteps:=2000000) -implicitDefEqProofs only [adZ,Z5,↓syP,syA,syD,simprocAttr,syE,ah,ag,ae,syW,xQ]
 all_goals simp -implicitDefEqProofs only [List.map_nil]
def fg (v0:(Int×Int×Int×Int)) (v1:Int):Option Int:=
 ob (b7 v0) fun x80=>
 bif !x80 then
 some ((-1))
 else
 ob (ew v1 0 (IntKind.i64.wrap (v0.1 - 1))) fun x81=>
 bif !x81 then
 some ((-1))
 else
 ob (ff v0 v1) fun x82=>
 some (IntKind.i64.wrap (x82+2))
theorem ri (k:Nat) (v0_0 v0_1 v0_2 v0_3 v1:Int):xC (k+12) none 32 [.agg [.lit (.int .i64 v0_0),.lit (.int .i64 v0_1),.lit (.int .i64 v0_2),.lit (.int .i64 v0_3)],.lit (.int .i64 v1)]=ob (fg (v0_0,v0_1,v0_2,v0_3) v1) fun r=>some ((.lit (.int .i64 r)),[]):=by
 rw [aH]
 unfold fg
 simp (maxSteps:=2000000) -implicitDefEqProofs only [ahb,agu,Xt,Vo,wG,gD,aho,agG,↓syP,syA,syD,simprocAttr,syE,ah,ag,ae,syW,xQ,mc,ct,lB]
 all_goals simp -implicitDefEqProofs only [List.map_nil]
def cV (v0:Int):Option Int:=
 some (w8 IntKind.u64 v0 65535)
theorem nR (k:Nat) (v0:Int):xC (k+1) none 192 [.lit (.int .u64 v0)]=ob (cV v0) fun r=>some ((.lit (.int .u64 r)),[]):=by
 rw [aH]
 unfold cV
 simp (maxSteps:=2000000) -implicitDefEqProofs only [ae4,aaK,↓syP,syA,syD,simprocAttr,syE,ah,ag,ae,syW,xQ]
 all_goals simp -implicitDefEqProofs only [List.map_nil]
def gX (v0:(Int×Int×Int×Int)) (v1:Int):Option Int:=
 ob (b7 v0) fun x89=>
 bif !x89 then
 some ((-1))
 else
 ob (ew v1 0 (IntKind.i64.wrap (v0.1 - 1))) fun x90=>
 bif !x90 then
 some ((-1))
 else
 ob (ff v0 v1) fun x91=>
 some x91
theorem mz (k:Nat) (v0_0 v0_1 v0_2 v0_3 v1:Int):xC (k+12) none 107 [.agg [.lit (.int .i64 v0_0),.lit (.int .i64 v0_1),.lit (.int .i64 v0_2),.lit (.int .i64 v0_3)],.lit (.int .i64 v1)]=ob (gX (v0_0,v0_1,v0_2,v0_3) v1) fun r=>some ((.lit (.int .i64 r)),[]):=by
 rw [aH]
 unfold gX
 simp (maxSteps:=2000000) -implicitDefEqProofs only [Xt,Vo,wG,gD,adi,abm,aeS,Yu,↓syP,syA,syD,simprocAttr,syE,ah,ag,ae,syW,xQ,mc,ct,lB]
 all_goals simp -implicitDefEqProofs only [List.map_nil]
def dq (v0:(Int×Int×Int×Int)) (v1:Int):Option Int:=
 ob (b7 v0) fun x98=>
 bif !x98 then
 some ((-1))
 else
 ob (ew v1 0 (IntKind.i64.wrap (v0.1 - 1))) fun x99=>
 bif !x99 then
 some ((-1))
 else
 ob (ff v0 v1) fun x100=>
 some (IntKind.i64.wrap (x100+1))
theorem gP (k:Nat) (v0_0 v0_1 v0_2 v0_3 v1:Int):xC (k+12) none 108 [.agg [.lit (.int .i64 v0_0),.lit (.int .i64 v0_1),.lit (.int .i64 v0_2),.lit (.int .i64 v0_3)],.lit (.int .i64 v1)]=ob (dq (v0_0,v0_1,v0_2,v0_3) v1) fun r=>some ((.lit (.int .i64 r)),[]):=by
 rw [aH]
 unfold dq
 simp (maxSteps:=2000000) -implicitDefEqProofs only [Xt,Vo,wG,gD,adg,ZQ,aeL,YS,↓syP,syA,syD,simprocAttr,syE,ah,ag,ae,syW,xQ,mc,ct,lB]
 all_goals simp -implicitDefEqProofs only [List.map_nil]
def fR (v0:(Int×Int×Int×Int)) (v1:Int) (v2:Int):Option Int:=
 ob (b7 v0) fun x107=>
 bif !x107 then
 some ((-1))
 else
 ob (ew v1 0 (IntKind.i64.wrap (v0.1 - 1))) fun x108=>
 bif !x108 then
 some ((-1))
 else
 ob (ff v0 v1) fun x109=>
 some (IntKind.i64.wrap (IntKind.i64.wrap (x109+3)+IntKind.i64.wrap (w8 IntKind.u64 v2 (IntKind.u64.wrap (IntKind.i64.wrap (v0.2.1 - 1))))))
theorem pt (k:Nat) (v0_0 v0_1 v0_2 v0_3 v1 v2:Int):xC (k+12) none 109 [.agg [.lit (.int .i64 v0_0),.lit (.int .i64 v0_1),.lit (.int .i64 v0_2),.lit (.int .i64 v0_3)],.lit (.int .i64 v1),.lit (.int .u64 v2)]=ob (fR (v0_0,v0_1,v0_2,v0_3) v1 v2) fun r=>some ((.lit (.int .i64 r)),[]):=by
 rw [aH]
 unfold fR
 simp (maxSteps:=2000000) -implicitDefEqProofs only [Xt,Vo,wG,gD,aea,Z8,acM,abe,↓syP,syA,syD,simprocAttr,syE,ah,ag,ae,syW,xQ,mc,ct,lB]
 all_goals simp -implicitDefEqProofs only [List.map_nil]
def fe (v0:Int) (v1:Int):Option Int:=
 some (IntKind.i64.wrap (IntKind.u64.wrap (v0 - v1)))
theorem lH (k:Nat) (v0 v1:Int):xC (k+1) none 106 [.lit (.int .u64 v0),.lit (.int .u64 v1)]=ob (fe v0 v1) fun r=>some ((.lit (.int .i64 r)),[]):=by
 rw [aH]
 unfold fe
 simp (maxSteps:=2000000) -implicitDefEqProofs only [af0,Yw,↓syP,syA,syD,simprocAttr,syE,ah,ag,ae,syW,xQ]
 all_goals simp -implicitDefEqProofs only [List.map_nil]
def eL (k:Nat) (v0:(Int×Int×Int×Int))  : Nat→Int→List Int→Int→Nat→Option (List Int)
 | 0,_,_,_,_=>none
 | n+1,s115,s118,s119,s121=>
 bif decide (s119<s115) then
 ck (s121==1||s121==0) (
 bif room (s118++[(0:Int)]).length 8 then
 eL k v0  n (s115) (s118++[(0:Int)]) (IntKind.i64.wrap (s119+(1:Int))) (1)
 else
 none)
 else
 some (s118)
theorem mC (k:Nat) (v0_0 v0_1 v0_2 v0_3:Int):∀ (n:Nat) (s115:Int) (s118:List Int) (s119:Int) (s121:Nat) ⦃s117:Nat⦄,rt none (itX (xX (xS (k+3)) 59 0 (k+3) false) GE (3) (au (xX (xS (k+3)) 59 0 (k+3) false) (ao (xS (k+3)).P Tryz.f59) HH) n ⟨[.agg [.lit (.int .i64 v0_0),.lit (.int .i64 v0_1),.lit (.int .i64 v0_2),.lit (.int .i64 v0_3)],.ptr 0 0 0 0,.own 1 0 0,.own 2 s117 s118.length,.agg [.lit (.int .i64 v0_0),.lit (.int .i64 v0_1),.lit (.int .i64 v0_2),.lit (.int .i64 v0_3)],.lit (.int .i64 s115),.lit (.int .i64 s119),.junk,.junk,.junk,.junk,.junk,uu],[.box [.lit (.int .i64 v0_0),.lit (.int .i64 v0_1),.lit (.int .i64 v0_2),.lit (.int .i64 v0_3)],.rows 0 [] 0 true,.rows s121 (List.map (aF IntKind.u64) s118) s117 true]⟩)=ob (eL k (v0_0,v0_1,v0_2,v0_3)  n s115 s118 s119 s121) fun r=>some ((.ro (List.map (aF .u64) r)),[]):=by
 intro n
 induction n with
 | zero=>intros;rfl
 | succ n ih=>
  intro s115 s118 s119 s121 s117
  rw [eL]
  simp (maxSteps:=2000000) -implicitDefEqProofs only [agn,acV,adt,Lx,po,↓syP,syA,syD,simprocAttr,syE,ah,ag,ae,syW,xQ,gH,SJ,ih]
  all_goals simp -implicitDefEqProofs only [List.map_nil]
def lD (k:Nat) (v0:(Int×Int×Int×Int)):Option (List Int):=
 ob (dL v0) fun x123=>
 eL k v0 (k+3) x123 ([]) 0 0
theorem om (k:Nat) (v0_0 v0_1 v0_2 v0_3:Int):xC (k+4) none 59 [.agg [.lit (.int .i64 v0_0),.lit (.int .i64 v0_1),.lit (.int .i64 v0_2),.lit (.int .i64 v0_3)]]=ob (lD k (v0_0,v0_1,v0_2,v0_3)) fun r=>some ((.ro (List.map (aF .u64) r)),[]):=by
 rw [aH]
 unfold lD
 have hl0:=fun (x124:Int)=>mC k v0_0 v0_1 v0_2 v0_3 (k+3) (x124) ([]) ((0:Int)) (0)
 try simp -implicitDefEqProofs only [List.map_nil,List.length_nil] at hl0
 simp (maxSteps:=2000000) -implicitDefEqProofs only [agn,acV,adt,Lx,po,↓syP,syA,syD,simprocAttr,syE,ah,ag,ae,syW,xQ,gH,mC k v0_0 v0_1 v0_2 v0_3,hl0]
 all_goals simp -implicitDefEqProofs only [List.map_nil]
def cC (v0:Int) (v1:Int):Option Bool:=
 bif decide (0≤v0) then
 some (decide (v0<v1))
 else
 some false
theorem gW (k:Nat) (v0 v1:Int):xC (k+1) none 81 [.lit (.int .i64 v0),.lit (.int .i64 v1)]=ob (cC v0 v1) fun r=>some ((.lit (.bool r)),[]):=by
 rw [aH]
 unfold cC
 simp (maxSteps:=2000000) -implicitDefEqProofs only [ahp,agy,SS,AD,↓syP,syA,syD,simprocAttr,syE,ah,ag,ae,syW,xQ]
 all_goals simp -implicitDefEqProofs only [List.map_nil]
def eV (v0 : Int) (v1 : Int) (v2 : Int) : Option Int :=
 bif decide (v2 < 2) then
 some ((-1))
 else
 ob (cC v1 v2) fun x126 =>
 bif !x126 then
 some ((-1))
 else
 bif IntKind.u64.wrap (IntKind.u64.wrap v2 - 1) != 0 then
 bif IntKind.u64.wrap v2 != 0 then
 some (IntKind.i64.wrap ((IntKind.u64.wrap (IntKind.u64.wrap (IntKind.u64.wrap v1 + 1) + v0.tmod (IntKind.u64.wrap (IntKind.u64.wrap v2 - 1)))).tmod (IntKind.u64.wrap v2)))
 else
 none
 else
 none
theorem BN (k:Nat) (v0 v1 v2:Int):xC (k+2) none 161 [.lit (.int .u64 v0),.lit (.int .i64 v1),.lit (.int .i64 v2)]=ob (eV v0 v1 v2) fun r=>some ((.lit (.int .i64 r)),[]):=by
 rw [aH]
 unfold eV
 simp (maxSteps:=2000000) -implicitDefEqProofs only [aeJ,aa2,LW,uj,↓syP,syA,syD,simprocAttr,syE,ah,ag,ae,syW,xQ,gW]
 all_goals simp -implicitDefEqProofs only [List.map_nil]
def eH (v0:(Int×Int×Int×Int)) (v1:(List Int)) (v2:(Int×Int×Int×Int×Int×Int×Int)) (v3:Int) (v4:Int):Option Bool:=
 ob (b7 v0) fun x132=>
 bif x132 then
 ob (dL v0) fun x133=>
 bif (↑v1.length:Int)==x133 then
 ob (aK v2) fun x134=>
 bif !x134 then
 bif decide (0≤v2.2.2.1) then
 bif decide (v2.2.2.1<v0.1) then
 bif v2.1==v3 then
 bif decide (0≤v2.2.1) then
 some (decide (v2.2.1<v4))
 else
 some false
 else
 some false
 else
 some false
 else
 some false
 else
 some false
 else
 some false
 else
 some false
theorem kj (k:Nat) (v0_0 v0_1 v0_2 v0_3:Int) (v1:List Int) (v2_0 v2_1 v2_2 v2_3 v2_4 v2_5 v2_6 v3 v4:Int):xC (k+4) none 188 [.agg [.lit (.int .i64 v0_0),.lit (.int .i64 v0_1),.lit (.int .i64 v0_2),.lit (.int .i64 v0_3)],.ro (List.map (aF .u64) v1),.agg [.lit (.int .i64 v2_0),.lit (.int .i64 v2_1),.lit (.int .i64 v2_2),.lit (.int .u64 v2_3),.lit (.int .u64 v2_4),.lit (.int .u64 v2_5),.lit (.int .i64 v2_6)],.lit (.int .i64 v3),.lit (.int .i64 v4)]=ob (eH (v0_0,v0_1,v0_2,v0_3) v1 (v2_0,v2_1,v2_2,v2_3,v2_4,v2_5,v2_6) v3 v4) fun r=>some ((.lit (.bool r)),[]):=by
 rw [aH]
 unfold eH
 simp (maxSteps:=2000000) -implicitDefEqProofs only [acE,aaN,MW,MX,Kq,MY,J1,K4,MZ,uZ,↓syP,syA,syD,simprocAttr,syE,ah,ag,ae,syW,xQ,ct,gH,eG]
 all_goals simp -implicitDefEqProofs only [List.map_nil]
def kD (v0 : (Int × Int × Int × Int)) (v1 : (List Int)) (v2 : (Int × Int × Int × Int × Int × Int × Int)) : Option ((List Int) × (Int × Int × Int × Int × Int × Int × Int)) :=
 ob (aL 8 v1) fun x152 =>
 ob (eH v0 v1 v2 5 5) fun x153 =>
 bif x153 then
 bif decide (0 ≤ v2.2.1 ∧ v2.2.1.toNat < 5) then
 bif v2.2.1.toNat == 0 then
 ob (aI x152 2) fun x154 =>
 some (x152,(v2.1,1,v2.2.2.1,v2.2.2.2.1,x154,v2.2.2.2.2.2))
 else
 bif v2.2.1.toNat == 1 then
 ob (aI x152 2) fun x155 =>
 ob (dT x155) fun x156 =>
 ob (dT v2.2.2.2.2.1) fun x157 =>
 bif x156 != x157 then
 ob (aW (v2.1,2,v2.2.2.1,v2.2.2.2.1,v2.2.2.2.2.1,x155,v2.2.2.2.2.2.2) 4 0) fun x158 =>
 some (x152,x158)
 else
 some (x152,(v2.1,2,v2.2.2.1,v2.2.2.2.1,v2.2.2.2.2.1,x155,v2.2.2.2.2.2.2))
 else
 bif v2.2.1.toNat == 2 then
 ob (lI v2.2.2.2.2.2.1 v2.2.2.1) fun x159 =>
 ob (dj x152 2 v2.2.2.2.2.2.1 x159) fun x160 =>
 bif x160.2 then
 some (x160.1,(v2.1,3,v2.2.2))
 else
 some (x160.1,(v2.1,1,v2.2.2))
 else
 bif v2.2.1.toNat == 3 then
 ob (fg v0 v2.2.2.1) fun x161 =>
 ob (aI x152 x161) fun x162 =>
 bif x162 != 0 then
 some (x152,(v2.1,4,v2.2.2.1,v2.2.2.2.1,v2.2.2.2.2.1,x162,v2.2.2.2.2.2.2))
 else
 some (x152,(v2.1,v2.2.1,v2.2.2.1,v2.2.2.2.1,v2.2.2.2.2.1,x162,v2.2.2.2.2.2.2))
 else
 bif v2.2.1.toNat == 4 then
 ob (fg v0 v2.2.2.1) fun x163 =>
 ob (bo x152 x163 0) fun x164 =>
 ob (aW v2 1 0) fun x165 =>
 some (x164,x165)
 else
 none
 else
 none
 else
 some (x152,v2)
theorem E6 (k:Nat) (v0_0 v0_1 v0_2 v0_3:Int) (v1:List Int) (v2_0 v2_1 v2_2 v2_3 v2_4 v2_5 v2_6:Int):xC (k+14) none 165 [.agg [.lit (.int .i64 v0_0),.lit (.int .i64 v0_1),.lit (.int .i64 v0_2),.lit (.int .i64 v0_3)],.ro (List.map (aF .u64) v1),.agg [.lit (.int .i64 v2_0),.lit (.int .i64 v2_1),.lit (.int .i64 v2_2),.lit (.int .u64 v2_3),.lit (.int .u64 v2_4),.lit (.int .u64 v2_5),.lit (.int .i64 v2_6)]]=ob (kD (v0_0,v0_1,v0_2,v0_3) v1 (v2_0,v2_1,v2_2,v2_3,v2_4,v2_5,v2_6)) fun r=>some ((.tup [.ro (List.map (aF .u64) r.1),.agg [.lit (.int .i64 r.2.1),.lit (.int .i64 r.2.2.1),.lit (.int .i64 r.2.2.2.1),.lit (.int .u64 r.2.2.2.2.1),.lit (.int .u64 r.2.2.2.2.2.1),.lit (.int .u64 r.2.2.2.2.2.2.1),.lit (.int .i64 r.2.2.2.2.2.2.2)]]),[]):=by
 rw [aH]
 unfold kD
 simp (maxSteps:=2000000) -implicitDefEqProofs only [ad7,Y7,JV,ul,adO,YB,af3,Y5,afk,aaj,adC,XR,adk,ZN,↓syP,syA,syD,simprocAttr,syE,ah,ag,ae,syW,xQ,da,dS,i9,fN,Im,mF,ri,kj]
 all_goals simp -implicitDefEqProofs only [List.map_nil]
end Go.Ab
set_option maxRecDepth 100000
set_option linter.unusedVariables false
set_option linter.unusedSimpArgs false
namespace Go.Ab
open Go.Proofs
def ku (v0:(Int×Int×Int×Int)) (v1:(List Int)) (v2:(Int×Int×Int×Int×Int×Int×Int)):Option Bool:=
 bif v2.1==6 then
 ob (b7 v0) fun x8=>
 bif x8 then
 ob (dL v0) fun x9=>
 bif (↑v1.length:Int)==x9 then
 ob (aK v2) fun x10=>
 bif !x10 then
 bif decide (0≤v2.2.1) then
 some (decide (v2.2.1≤2))
 else
 some false
 else
 some false
 else
 some false
 else
 some false
 else
 bif v2.1==7 then
 ob (b7 v0) fun x11=>
 bif x11 then
 ob (dL v0) fun x12=>
 bif (↑v1.length:Int)==x12 then
 ob (aK v2) fun x13=>
 bif !x13 then
 bif decide (0≤v2.2.1) then
 some (decide (v2.2.1≤2))
 else
 some false
 else
 some false
 else
 some false
 else
 some false
 else
 some false
theorem FF (k:Nat) (v0_0 v0_1 v0_2 v0_3:Int) (v1:List Int) (v2_0 v2_1 v2_2 v2_3 v2_4 v2_5 v2_6:Int):xC (k+15) none 189 [.agg [.lit (.int .i64 v0_0),.lit (.int .i64 v0_1),.lit (.int .i64 v0_2),.lit (.int .i64 v0_3)],.ro (List.map (aF .u64) v1),.agg [.lit (.int .i64 v2_0),.lit (.int .i64 v2_1),.lit (.int .i64 v2_2),.lit (.int .u64 v2_3),.lit (.int .u64 v2_4),.lit (.int .u64 v2_5),.lit (.int .i64 v2_6)]]=ob (ku (v0_0,v0_1,v0_2,v0_3) v1 (v2_0,v2_1,v2_2,v2_3,v2_4,v2_5,v2_6)) fun r=>some ((.lit (.bool r)),[]):=by
 rw [aH]
 unfold ku
 simp (maxSteps:=2000000) -implicitDefEqProofs only [acZ,Yi,Mc,LG,L0,MA,Mu,un,ZK,Uy,aH (g:=190),Wx,QP,VW,N1,↓syP,syA,syD,simprocAttr,syE,ah,ag,ae,syW,xQ,ct,gH,eG]
 all_goals simp -implicitDefEqProofs only [List.map_nil]
def gz (v0:Int) (v1:Int):Option Int:=
 some (orI IntKind.u64 (Pr IntKind.u64 v0 16) (w8 IntKind.u64 v1 65535))
theorem ui (k:Nat) (v0 v1:Int):xC (k+1) none 233 [.lit (.int .u64 v0),.lit (.int .u64 v1)]=ob (gz v0 v1) fun r=>some ((.lit (.int .u64 r)),[]):=by
 rw [aH]
 unfold gz
 simp (maxSteps:=2000000) -implicitDefEqProofs only [afT,XK,↓syP,syA,syD,simprocAttr,syE,ah,ag,ae,syW,xQ]
 all_goals simp -implicitDefEqProofs only [List.map_nil]
def cJ (k:Nat) (v0:Int)  : Nat→Int→Option Int
 | 0,_=>none
 | n+1,s27=>
 bif decide (s27<(16:Int)) then
 bif decide ((0:Int)≤s27) then
 bif w8 IntKind.u64 (R7 IntKind.u64 v0 s27) (1:Int)==(1:Int) then
 some (s27)
 else
 cJ k v0  n (IntKind.i64.wrap (s27+(1:Int)))
 else
 none
 else
 some ((-1:Int))
theorem nJ (k:Nat) (v0:Int):∀ (n:Nat) (s27:Int) ⦃j26:V⦄,rt none (bq (itX (xX (xS (k+9)) 234 0 (k+9) false) mK (3) (au (xX (xS (k+9)) 234 0 (k+9) false) (ao (xS (k+9)).P Tryz.f234) Be) n ⟨[.yld 2,.ptr 1 0 0 0,uu,j26,.lit (.int .i64 s27),.junk,.junk,.junk,.junk,.junk,.junk,.junk,.junk,.junk,.junk,.junk,.junk,.junk,.junk],[.box [.lit (.int .i64 (0:Int))],.box [.lit (.int .u64 v0)],(.loop ⟨LoopState.ready,none,195,[.lit (.int .u64 v0),uu,.ptr 0 0 0 0,uu,.lit (.int .u64 v0),.fn (Fn.func (234:FuncId)) [] [.ptr 1 0 0 0],uu,uu],[(6:Tmp)],F9,EO⟩)]⟩) (rfK (au (xX (xS (k+10)) 195 0 (k+10) false) (ao (xS (k+10)).P Tryz.f195) Cb) [.lit (.int .u64 v0),uu,.ptr 0 0 0 0,uu,.lit (.int .u64 v0),.fn (Fn.func (234:FuncId)) [] [.ptr 1 0 0 0],uu,uu] (2)))=ob (cJ k v0  n s27) fun r=>some ((.lit (.int .i64 r)),[]):=by
 intro n
 induction n with
 | zero=>intros;rfl
 | succ n ih=>
  intro s27 j26
  rw [cJ]
  simp (maxSteps:=2000000) -implicitDefEqProofs only [Yz,UL,Xo,Fj,ks,ki,oa,xO,YE,Ut,aH (g:=220),aaU,S5,Xa,Ew,Fy,nG,nz,↓syP,syA,syD,simprocAttr,syE,ah,ag,ae,syW,xQ,Mp,ih]
  all_goals simp -implicitDefEqProofs only [List.map_nil]
def gc (k:Nat) (v0:Int):Option Int:=
 cJ k v0 (k+9) 0
theorem pg (k:Nat) (v0:Int):xC (k+11) none 195 [.lit (.int .u64 v0)]=ob (gc k v0) fun r=>some ((.lit (.int .i64 r)),[]):=by
 rw [aH]
 unfold gc
 simp (maxSteps:=2000000) -implicitDefEqProofs only [Yz,UL,Xo,Fj,ks,ki,oa,xO,YE,Ut,aH (g:=220),aaU,S5,Xa,Ew,Fy,nG,nz,↓syP,syA,syD,simprocAttr,syE,ah,ag,ae,syW,xQ,nJ k v0]
 all_goals simp -implicitDefEqProofs only [List.map_nil]
def kC (k:Nat) (v0:Int):Option (Int×Int):=
 ob (cV v0) fun x32=>
 ob (dT v0) fun x33=>
 ob (gz (IntKind.u64.wrap (x33+1)) (w8 IntKind.u64 x32 (IntKind.u64.wrap (x32 - 1)))) fun x34=>
 ob (gc k x32) fun x35=>
 some (x34,x35)
theorem Fv (k:Nat) (v0:Int):xC (k+12) none 216 [.lit (.int .u64 v0)]=ob (kC k v0) fun r=>some ((.tup [.lit (.int .u64 r.1),.lit (.int .i64 r.2)]),[]):=by
 rw [aH]
 unfold kC
 simp (maxSteps:=2000000) -implicitDefEqProofs only [afY,Yx,↓syP,syA,syD,simprocAttr,syE,ah,ag,ae,syW,xQ,mF,nR,ui,pg]
 all_goals simp -implicitDefEqProofs only [List.map_nil]
def fC (k:Nat) (v0:Int):Option (Int×Int):=
 ob (kC k v0) fun x41=>
 some (x41.1,(IntKind.u64.wrap (bif decide (x41.2<0) then 0 else x41.2)))
theorem xo (k:Nat) (v0:Int):xC (k+13) none 215 [.lit (.int .u64 v0)]=ob (fC k v0) fun r=>some ((.tup [.lit (.int .u64 r.1),.lit (.int .u64 r.2)]),[]):=by
 rw [aH]
 unfold fC
 simp (maxSteps:=2000000) -implicitDefEqProofs only [Wx,QP,↓syP,syA,syD,simprocAttr,syE,ah,ag,ae,syW,xQ,Fv]
 all_goals simp -implicitDefEqProofs only [List.map_nil]
def kx (v0:Int):Option Int:=
 ob (dT v0) fun x45=>
 ob (gz (IntKind.u64.wrap (x45+1)) 0) fun x46=>
 some x46
theorem Fe (k:Nat) (v0:Int):xC (k+2) none 218 [.lit (.int .u64 v0)]=ob (kx v0) fun r=>some ((.lit (.int .u64 r)),[]):=by
 rw [aH]
 unfold kx
 simp (maxSteps:=2000000) -implicitDefEqProofs only [adp,X4,↓syP,syA,syD,simprocAttr,syE,ah,ag,ae,syW,xQ,mF,ui]
 all_goals simp -implicitDefEqProofs only [List.map_nil]
def fx (v0:Int):Option (Int×Int):=
 ob (kx v0) fun x51=>
 ob (cV v0) fun x52=>
 some (x51,x52)
theorem xp (k:Nat) (v0:Int):xC (k+3) none 217 [.lit (.int .u64 v0)]=ob (fx v0) fun r=>some ((.tup [.lit (.int .u64 r.1),.lit (.int .u64 r.2)]),[]):=by
 rw [aH]
 unfold fx
 simp (maxSteps:=2000000) -implicitDefEqProofs only [VW,N1,↓syP,syA,syD,simprocAttr,syE,ah,ag,ae,syW,xQ,nR,Fe]
 all_goals simp -implicitDefEqProofs only [List.map_nil]
def er (k:Nat) (v0:(Int×Int×Int×Int)) (v1:(List Int)) (v2:(List Int))  : Nat→List Int→Int→Option (List Int)
 | 0,_,_=>none
 | n+1,s59,s61=>
 bif decide (s61<(↑v2.length:Int)) then
 ob (idx v2 s61) fun x68=>
 ob (fg (v0.1,v0.2.1,v0.2.2.1,v0.2.2.2) x68) fun x69=>
 ob (bo s59 x69 (1:Int)) fun x70=>
 er k v0 v1 v2  n (x70) (IntKind.i64.wrap (s61+(1:Int)))
 else
 some (s59)
theorem pG (k:Nat) (v0_0 v0_1 v0_2 v0_3:Int) (v1 v2:List Int):∀ (n:Nat) (s59:List Int) (s61:Int) ⦃j60:V⦄,rt none (itX (xX (xS (k+12)) 194 0 (k+12) false) BE (2) (au (xX (xS (k+12)) 194 0 (k+12) false) (ao (xS (k+12)).P Tryz.f194) BG) n ⟨[.agg [.lit (.int .i64 v0_0),.lit (.int .i64 v0_1),.lit (.int .i64 v0_2),.lit (.int .i64 v0_3)],.ro (List.map (aF IntKind.u64) s59),.ro (List.map (aF IntKind.i64) v2),.ptr 0 0 0 0,uu,uu,.own 1 0 0,uu,j60,.ro (List.map (aF IntKind.i64) v2),.lit (.int .i64 (↑v2.length:Int)),.lit (.int .i64 s61),.junk,.junk,.junk,.junk,.junk,.junk,.junk,.junk,.junk,uu],[.box [.lit (.int .i64 v0_0),.lit (.int .i64 v0_1),.lit (.int .i64 v0_2),.lit (.int .i64 v0_3)],.rows 0 [] 0 true]⟩)=ob (er k (v0_0,v0_1,v0_2,v0_3) v1 v2  n s59 s61) fun r=>some ((.ro (List.map (aF .u64) r)),[]):=by
 intro n
 induction n with
 | zero=>intros;rfl
 | succ n ih=>
  intro s59 s61 j60
  rw [er]
  simp (maxSteps:=2000000) -implicitDefEqProofs only [XD,VD,T0,FZ,nV,↓syP,syA,syD,simprocAttr,syE,ah,ag,ae,syW,xQ,dS,ri,MS,ih]
  all_goals simp -implicitDefEqProofs only [List.map_nil]
def fP (k:Nat) (v0:(Int×Int×Int×Int)) (v1:(List Int)) (v2:(List Int)):Option (List Int):=
 er k v0 v1 v2 (k+12) v1 0
theorem Es (k:Nat) (v0_0 v0_1 v0_2 v0_3:Int) (v1 v2:List Int):xC (k+13) none 194 [.agg [.lit (.int .i64 v0_0),.lit (.int .i64 v0_1),.lit (.int .i64 v0_2),.lit (.int .i64 v0_3)],.ro (List.map (aF .u64) v1),.ro (List.map (aF .i64) v2)]=ob (fP k (v0_0,v0_1,v0_2,v0_3) v1 v2) fun r=>some ((.ro (List.map (aF .u64) r)),[]):=by
 rw [aH]
 unfold fP
 simp (maxSteps:=2000000) -implicitDefEqProofs only [XD,VD,T0,FZ,nV,↓syP,syA,syD,simprocAttr,syE,ah,ag,ae,syW,xQ,pG k v0_0 v0_1 v0_2 v0_3 v1 v2]
 all_goals simp -implicitDefEqProofs only [List.map_nil]
def gM (k:Nat) (v0:(Int×Int×Int×Int)) (v1:(List Int)) (v2:(Int×Int×Int×Int×Int×Int×Int)):Option ((List Int)×(Int×Int×Int×Int×Int×Int×Int)):=
 ob (aL 8 v1) fun x93=>
 ob (ku v0 v1 v2) fun x94=>
 bif !x94 then
 some (x93,v2)
 else
 bif v2.2.1==0 then
 ob (aI x93 2) fun x95=>
 some (x93,(v2.1,1,v2.2.2.1,v2.2.2.2.1,x95,v2.2.2.2.2.2))
 else
 bif v2.2.1==1 then
 bif v2.1==6 then
 ob (fC (k+2) v2.2.2.2.2.1) fun x96=>
 ob (dj x93 2 v2.2.2.2.2.1 x96.1) fun x97=>
 bif !x97.2 then
 some (x97.1,(v2.1,0,v2.2.2))
 else
 ob (cV v2.2.2.2.2.1) fun x98=>
 bif x98==0 then
 ob (aW (v2.1,0,v2.2.2) 3 0) fun x99=>
 some (x97.1,x99)
 else
 some (x97.1,(v2.1,2,v2.2.2.1,v2.2.2.2.1,v2.2.2.2.2.1,x96.2,v2.2.2.2.2.2.2))
 else
 bif v2.1==7 then
 ob (fx v2.2.2.2.2.1) fun x100=>
 ob (dj x93 2 v2.2.2.2.2.1 x100.1) fun x101=>
 bif !x101.2 then
 some (x101.1,(v2.1,0,v2.2.2))
 else
 ob (cV v2.2.2.2.2.1) fun x102=>
 bif x102==0 then
 ob (aW (v2.1,0,v2.2.2) 3 0) fun x103=>
 some (x101.1,x103)
 else
 some (x101.1,(v2.1,2,v2.2.2.1,v2.2.2.2.1,v2.2.2.2.2.1,x100.2,v2.2.2.2.2.2.2))
 else
 none
 else
 bif v2.1==6 then
 bif decide (v2.2.2.2.2.2.1<8) then
 ob (fP (k+2) v0 x93 [IntKind.i64.wrap v2.2.2.2.2.2.1]) fun x104=>
 ob (aW v2 1 v2.2.2.2.2.2.1) fun x105=>
 some (x104,x105)
 else
 ob (fP (k+2) v0 x93 [(-1)]) fun x106=>
 ob (aW v2 1 v2.2.2.2.2.2.1) fun x107=>
 some (x106,x107)
 else
 ob (gc (k+4) v2.2.2.2.2.2.1) fun x108=>
 ob (fP (k+2) v0 x93 [x108]) fun x109=>
 ob (cV v2.2.2.2.2.2.1) fun x110=>
 bif w8 IntKind.u64 x110 (IntKind.u64.wrap (x110 - 1))==0 then
 ob (cV v2.2.2.2.2.1) fun x111=>
 ob (aW (v2.1,v2.2.1,v2.2.2.1,v2.2.2.2.1,v2.2.2.2.2.1,x110,v2.2.2.2.2.2.2) 1 x111) fun x112=>
 some (x109,x112)
 else
 bif x110==0 then
 ob (cV v2.2.2.2.2.1) fun x113=>
 ob (aW (v2.1,v2.2.1,v2.2.2.1,v2.2.2.2.1,v2.2.2.2.2.1,x110,v2.2.2.2.2.2.2) 1 x113) fun x114=>
 some (x109,x114)
 else
 some (x109,(v2.1,v2.2.1,v2.2.2.1,v2.2.2.2.1,v2.2.2.2.2.1,(w8 IntKind.u64 x110 (IntKind.u64.wrap (x110 - 1))),v2.2.2.2.2.2.2))
theorem EZ (k:Nat) (v0_0 v0_1 v0_2 v0_3:Int) (v1:List Int) (v2_0 v2_1 v2_2 v2_3 v2_4 v2_5 v2_6:Int):xC (k+16) none 166 [.agg [.lit (.int .i64 v0_0),.lit (.int .i64 v0_1),.lit (.int .i64 v0_2),.lit (.int .i64 v0_3)],.ro (List.map (aF .u64) v1),.agg [.lit (.int .i64 v2_0),.lit (.int .i64 v2_1),.lit (.int .i64 v2_2),.lit (.int .u64 v2_3),.lit (.int .u64 v2_4),.lit (.int .u64 v2_5),.lit (.int .i64 v2_6)]]=ob (gM k (v0_0,v0_1,v0_2,v0_3) v1 (v2_0,v2_1,v2_2,v2_3,v2_4,v2_5,v2_6)) fun r=>some ((.tup [.ro (List.map (aF .u64) r.1),.agg [.lit (.int .i64 r.2.1),.lit (.int .i64 r.2.2.1),.lit (.int .i64 r.2.2.2.1),.lit (.int .u64 r.2.2.2.2.1),.lit (.int .u64 r.2.2.2.2.2.1),.lit (.int .u64 r.2.2.2.2.2.2.1),.lit (.int .i64 r.2.2.2.2.2.2.2)]]),[]):=by
 rw [aH]
 unfold gM
 simp (maxSteps:=2000000) -implicitDefEqProofs only [ae6,ZR,L4,JM,K8,wC,uU,wV,ZK,Uy,aH (g:=190),Wx,QP,VW,N1,↓syP,syA,syD,simprocAttr,syE,ah,ag,ae,syW,xQ,da,i9,fN,nR,FF,pg,xo,xp,Es]
 all_goals simp -implicitDefEqProofs only [List.map_nil]
end Go.Ab
set_option maxRecDepth 100000
set_option linter.unusedVariables false
set_option linter.unusedSimpArgs false
namespace Go.Ab
open Go.Proofs
def kr (v0:(Int×Int×Int×Int)) (v1:(List Int)) (v2:(Int×Int×Int×Int×Int×Int×Int)):Option ((List Int)×(Int×Int×Int×Int×Int×Int×Int)):=
 ob (aL 8 v1) fun x14=>
 ob (eH v0 v1 v2 0 4) fun x15=>
 bif x15 then
 bif v2.2.1==0 then
 ob (dq v0 v2.2.2.1) fun x16=>
 ob (aI x14 x16) fun x17=>
 some (x14,(v2.1,1,v2.2.2.1,v2.2.2.2.1,x17,v2.2.2.2.2.2))
 else
 bif v2.2.1==1 then
 ob (gX v0 v2.2.2.1) fun x18=>
 ob (aI x14 x18) fun x19=>
 bif decide (IntKind.u64.wrap v0.2.1≤IntKind.u64.wrap (v2.2.2.2.2.1 - x19)) then
 ob (aW (v2.1,2,v2.2.2.1,v2.2.2.2.1,v2.2.2.2.2.1,x19,v2.2.2.2.2.2.2) 2 v2.2.2.2.1) fun x20=>
 some (x14,x20)
 else
 some (x14,(v2.1,2,v2.2.2.1,v2.2.2.2.1,v2.2.2.2.2.1,x19,v2.2.2.2.2.2.2))
 else
 bif v2.2.1==2 then
 ob (fR v0 v2.2.2.1 v2.2.2.2.2.1) fun x21=>
 ob (bo x14 x21 v2.2.2.2.1) fun x22=>
 some (x22,(v2.1,3,v2.2.2))
 else
 bif v2.2.1==3 then
 ob (dq v0 v2.2.2.1) fun x23=>
 ob (bo x14 x23 (IntKind.u64.wrap (v2.2.2.2.2.1+1))) fun x24=>
 ob (aW v2 1 v2.2.2.2.1) fun x25=>
 some (x24,x25)
 else
 none
 else
 some (x14,v2)
theorem E5 (k:Nat) (v0_0 v0_1 v0_2 v0_3:Int) (v1:List Int) (v2_0 v2_1 v2_2 v2_3 v2_4 v2_5 v2_6:Int):xC (k+24) none 207 [.agg [.lit (.int .i64 v0_0),.lit (.int .i64 v0_1),.lit (.int .i64 v0_2),.lit (.int .i64 v0_3)],.ro (List.map (aF .u64) v1),.agg [.lit (.int .i64 v2_0),.lit (.int .i64 v2_1),.lit (.int .i64 v2_2),.lit (.int .u64 v2_3),.lit (.int .u64 v2_4),.lit (.int .u64 v2_5),.lit (.int .i64 v2_6)]]=ob (kr (v0_0,v0_1,v0_2,v0_3) v1 (v2_0,v2_1,v2_2,v2_3,v2_4,v2_5,v2_6)) fun r=>some ((.tup [.ro (List.map (aF .u64) r.1),.agg [.lit (.int .i64 r.2.1),.lit (.int .i64 r.2.2.1),.lit (.int .i64 r.2.2.2.1),.lit (.int .u64 r.2.2.2.2.1),.lit (.int .u64 r.2.2.2.2.2.1),.lit (.int .u64 r.2.2.2.2.2.2.1),.lit (.int .i64 r.2.2.2.2.2.2.2)]]),[]):=by
 rw [aH]
 unfold kr
 simp (maxSteps:=2000000) -implicitDefEqProofs only [acN,abL,Li,uY,adD,aaA,af2,aam,afO,X7,afJ,Ze,↓syP,syA,syD,simprocAttr,syE,ah,ag,ae,syW,xQ,da,dS,fN,mz,gP,pt,kj]
 all_goals simp -implicitDefEqProofs only [List.map_nil]
def ld (v0:(Int×Int×Int×Int)) (v1:(List Int)) (v2:(Int×Int×Int×Int×Int×Int×Int)):Option ((List Int)×(Int×Int×Int×Int×Int×Int×Int)):=
 ob (aL 8 v1) fun x54=>
 ob (eH v0 v1 v2 1 7) fun x55=>
 bif !x55 then
 some (x54,v2)
 else
 ob (gX v0 v2.2.2.1) fun x56=>
 ob (dq v0 v2.2.2.1) fun x57=>
 bif v2.2.1==0 then
 ob (aI x54 x57) fun x58=>
 some (x54,(v2.1,(IntKind.i64.wrap (v2.2.1+1)),v2.2.2.1,v2.2.2.2.1,(IntKind.u64.wrap (x58 - 1)),v2.2.2.2.2.2))
 else
 bif v2.2.1==1 then
 ob (bo x54 x57 v2.2.2.2.2.1) fun x59=>
 some (x59,(v2.1,(IntKind.i64.wrap (v2.2.1+1)),v2.2.2))
 else
 bif v2.2.1==2 then
 ob (aI x54 x56) fun x60=>
 ob (fe v2.2.2.2.2.1 x60) fun x61=>
 bif decide (x61<0) then
 some (x54,(v2.1,6,v2.2.2.1,v2.2.2.2.1,v2.2.2.2.2.1,x60,v2.2.2.2.2.2.2))
 else
 some (x54,(v2.1,(IntKind.i64.wrap (v2.2.1+1)),v2.2.2.1,v2.2.2.2.1,v2.2.2.2.2.1,x60,v2.2.2.2.2.2.2))
 else
 bif v2.2.1==3 then
 ob (fR v0 v2.2.2.1 v2.2.2.2.2.1) fun x62=>
 ob (aI x54 x62) fun x63=>
 bif v2.2.2.2.2.1 !=v2.2.2.2.2.2.1 then
 ob (aW (v2.1,v2.2.1,v2.2.2.1,x63,v2.2.2.2.2) 1 x63) fun x64=>
 some (x54,x64)
 else
 some (x54,(v2.1,(IntKind.i64.wrap (v2.2.1+1)),v2.2.2.1,x63,v2.2.2.2.2))
 else
 bif v2.2.1==4 then
 ob (dj x54 x56 v2.2.2.2.2.2.1 (IntKind.u64.wrap (v2.2.2.2.2.2.1+1))) fun x65=>
 bif !x65.2 then
 some (x65.1,(v2.1,6,v2.2.2))
 else
 some (x65.1,(v2.1,(IntKind.i64.wrap (v2.2.1+1)),v2.2.2))
 else
 bif v2.2.1==5 then
 ob (bo x54 x57 (IntKind.u64.wrap (v2.2.2.2.2.1+1))) fun x66=>
 ob (aW v2 1 v2.2.2.2.1) fun x67=>
 some (x66,x67)
 else
 ob (bo x54 x57 (IntKind.u64.wrap (v2.2.2.2.2.1+1))) fun x68=>
 ob (aW v2 3 0) fun x69=>
 some (x68,x69)
theorem In (k:Nat) (v0_0 v0_1 v0_2 v0_3:Int) (v1:List Int) (v2_0 v2_1 v2_2 v2_3 v2_4 v2_5 v2_6:Int):xC (k+24) none 208 [.agg [.lit (.int .i64 v0_0),.lit (.int .i64 v0_1),.lit (.int .i64 v0_2),.lit (.int .i64 v0_3)],.ro (List.map (aF .u64) v1),.agg [.lit (.int .i64 v2_0),.lit (.int .i64 v2_1),.lit (.int .i64 v2_2),.lit (.int .u64 v2_3),.lit (.int .u64 v2_4),.lit (.int .u64 v2_5),.lit (.int .i64 v2_6)]]=ob (ld (v0_0,v0_1,v0_2,v0_3) v1 (v2_0,v2_1,v2_2,v2_3,v2_4,v2_5,v2_6)) fun r=>some ((.tup [.ro (List.map (aF .u64) r.1),.agg [.lit (.int .i64 r.2.1),.lit (.int .i64 r.2.2.1),.lit (.int .i64 r.2.2.2.1),.lit (.int .u64 r.2.2.2.2.1),.lit (.int .u64 r.2.2.2.2.2.1),.lit (.int .u64 r.2.2.2.2.2.2.1),.lit (.int .i64 r.2.2.2.2.2.2.2)]]),[]):=by
 rw [aH]
 unfold ld
 simp (maxSteps:=2000000) -implicitDefEqProofs only [afE,aaT,aeK,YC,↓syP,syA,syD,simprocAttr,syE,ah,ag,ae,syW,xQ,da,dS,i9,fN,mz,gP,pt,lH,kj]
 all_goals simp -implicitDefEqProofs only [List.map_nil]
def ar (k : Nat) (v0 : (Int × Int × Int × Int)) (v1 : (List Int)) (v2 : (Int × Int × Int × Int × Int × Int × Int))  : Nat → List Int → Int → Int → Int → Option ((List Int) × (Int × Int × Int × Int × Int × Int × Int))
 | 0,_,_,_,_ => none
 | n + 1,s91,s94,s95,s117 =>
 bif decide (s117 < (4 : Int)) then
 bif decide ((0 : Int) ≤ s117 ∧ s117.toNat < (4 : Nat)) then
 bif s117.toNat == (0 : Nat) then
 bif s117 != v2.2.1 then
 ar k v0 v1 v2  n (s91) (s94) (s95) (IntKind.i64.wrap (s117 + (1 : Int)))
 else
 ob (aI s91 s94) fun x152 =>
 ob (aK (v2.1,v2.2.1,v2.2.2.1,v2.2.2.2.1,v2.2.2.2.2.1,x152,v2.2.2.2.2.2.2)) fun x153 =>
 bif !x153 then
 some ((s91),((v2.1),(IntKind.i64.wrap (v2.2.1 + (1 : Int))),(v2.2.2.1),(v2.2.2.2.1),(v2.2.2.2.2.1),(x152),(v2.2.2.2.2.2.2)))
 else
 some ((s91),((v2.1),(v2.2.1),(v2.2.2.1),(v2.2.2.2.1),(v2.2.2.2.2.1),(x152),(v2.2.2.2.2.2.2)))
 else
 bif s117.toNat == (1 : Nat) then
 bif s117 != v2.2.1 then
 ar k v0 v1 v2  n (s91) (s94) (s95) (IntKind.i64.wrap (s117 + (1 : Int)))
 else
 ob (aI s91 s95) fun x154 =>
 ob (fe x154 v2.2.2.2.2.2.1) fun x155 =>
 bif decide (x155 ≤ (0 : Int)) then
 ob (aW (v2.1,v2.2.1,v2.2.2.1,v2.2.2.2.1,x154,v2.2.2.2.2.2.1,v2.2.2.2.2.2.2) (3 : Int) (0 : Int)) fun x156 =>
 ob (aK (x156.1,x156.2.1,x156.2.2.1,x156.2.2.2.1,x156.2.2.2.2.1,x156.2.2.2.2.2.1,x156.2.2.2.2.2.2)) fun x157 =>
 bif !x157 then
 some ((s91),((x156.1),(IntKind.i64.wrap (x156.2.1 + (1 : Int))),(x156.2.2.1),(x156.2.2.2.1),(x156.2.2.2.2.1),(x156.2.2.2.2.2.1),(x156.2.2.2.2.2.2)))
 else
 some ((s91),((x156.1),(x156.2.1),(x156.2.2.1),(x156.2.2.2.1),(x156.2.2.2.2.1),(x156.2.2.2.2.2.1),(x156.2.2.2.2.2.2)))
 else
 ob (aK (v2.1,v2.2.1,v2.2.2.1,v2.2.2.2.1,x154,v2.2.2.2.2.2.1,v2.2.2.2.2.2.2)) fun x158 =>
 bif !x158 then
 some ((s91),((v2.1),(IntKind.i64.wrap (v2.2.1 + (1 : Int))),(v2.2.2.1),(v2.2.2.2.1),(x154),(v2.2.2.2.2.2.1),(v2.2.2.2.2.2.2)))
 else
 some ((s91),((v2.1),(v2.2.1),(v2.2.2.1),(v2.2.2.2.1),(x154),(v2.2.2.2.2.2.1),(v2.2.2.2.2.2.2)))
 else
 bif s117.toNat == (2 : Nat) then
 bif s117 != v2.2.1 then
 ar k v0 v1 v2  n (s91) (s94) (s95) (IntKind.i64.wrap (s117 + (1 : Int)))
 else
 ob (fR (v0.1,v0.2.1,v0.2.2.1,v0.2.2.2) v2.2.2.1 v2.2.2.2.2.2.1) fun x159 =>
 ob (aI s91 x159) fun x160 =>
 ob (aK (v2.1,v2.2.1,v2.2.2.1,x160,v2.2.2.2.2.1,v2.2.2.2.2.2.1,v2.2.2.2.2.2.2)) fun x161 =>
 bif !x161 then
 some ((s91),((v2.1),(IntKind.i64.wrap (v2.2.1 + (1 : Int))),(v2.2.2.1),(x160),(v2.2.2.2.2.1),(v2.2.2.2.2.2.1),(v2.2.2.2.2.2.2)))
 else
 some ((s91),((v2.1),(v2.2.1),(v2.2.2.1),(x160),(v2.2.2.2.2.1),(v2.2.2.2.2.2.1),(v2.2.2.2.2.2.2)))
 else
 bif s117.toNat == (3 : Nat) then
 bif s117 != v2.2.1 then
 ar k v0 v1 v2  n (s91) (s94) (s95) (IntKind.i64.wrap (s117 + (1 : Int)))
 else
 ob (dj s91 s94 v2.2.2.2.2.2.1 (IntKind.u64.wrap (v2.2.2.2.2.2.1 + (1 : Int)))) fun x162 =>
 bif x162.2 then
 ob (aW (v2.1,v2.2.1,v2.2.2.1,v2.2.2.2.1,v2.2.2.2.2.1,v2.2.2.2.2.2.1,v2.2.2.2.2.2.2) (1 : Int) v2.2.2.2.1) fun x163 =>
 ob (aK (x163.1,x163.2.1,x163.2.2.1,x163.2.2.2.1,x163.2.2.2.2.1,x163.2.2.2.2.2.1,x163.2.2.2.2.2.2)) fun x164 =>
 bif !x164 then
 some ((x162.1),((x163.1),(IntKind.i64.wrap (x163.2.1 + (1 : Int))),(x163.2.2.1),(x163.2.2.2.1),(x163.2.2.2.2.1),(x163.2.2.2.2.2.1),(x163.2.2.2.2.2.2)))
 else
 some ((x162.1),((x163.1),(x163.2.1),(x163.2.2.1),(x163.2.2.2.1),(x163.2.2.2.2.1),(x163.2.2.2.2.2.1),(x163.2.2.2.2.2.2)))
 else
 ob (aW (v2.1,v2.2.1,v2.2.2.1,v2.2.2.2.1,v2.2.2.2.2.1,v2.2.2.2.2.2.1,v2.2.2.2.2.2.2) (4 : Int) (0 : Int)) fun x165 =>
 ob (aK (x165.1,x165.2.1,x165.2.2.1,x165.2.2.2.1,x165.2.2.2.2.1,x165.2.2.2.2.2.1,x165.2.2.2.2.2.2)) fun x166 =>
 bif !x166 then
 some ((x162.1),((x165.1),(IntKind.i64.wrap (x165.2.1 + (1 : Int))),(x165.2.2.1),(x165.2.2.2.1),(x165.2.2.2.2.1),(x165.2.2.2.2.2.1),(x165.2.2.2.2.2.2)))
 else
 some ((x162.1),((x165.1),(x165.2.1),(x165.2.2.1),(x165.2.2.2.1),(x165.2.2.2.2.1),(x165.2.2.2.2.2.1),(x165.2.2.2.2.2.2)))
 else
 none
 else
 none
 else
 some ((s91),((v2.1),(v2.2.1),(v2.2.2.1),(v2.2.2.2.1),(v2.2.2.2.2.1),(v2.2.2.2.2.2.1),(v2.2.2.2.2.2.2)))
theorem oW (k:Nat) (v0_0 v0_1 v0_2 v0_3:Int) (v1:List Int) (v2_0 v2_1 v2_2 v2_3 v2_4 v2_5 v2_6:Int):∀ (n:Nat) (s91:List Int) (s94:Int) (s95:Int) (s117:Int) ⦃s92:Bool⦄ ⦃s93:Bool⦄ ⦃j115 j116:V⦄,rt none (itX (xX (xS (k+23)) 209 0 (k+23) false) BK (9) (au (xX (xS (k+23)) 209 0 (k+23) false) (ao (xS (k+23)).P Tryz.f209) Bs) n ⟨[.agg [.lit (.int .i64 v0_0),.lit (.int .i64 v0_1),.lit (.int .i64 v0_2),.lit (.int .i64 v0_3)],.ro (List.map (aF IntKind.u64) v1),.agg [.lit (.int .i64 v2_0),.lit (.int .i64 v2_1),.lit (.int .i64 v2_2),.lit (.int .u64 v2_3),.lit (.int .u64 v2_4),.lit (.int .u64 v2_5),.lit (.int .i64 v2_6)],.ptr 0 0 0 0,uu,.ptr 1 0 0 0,.own 2 0 0,.ptr 3 0 0 0,.ptr 5 0 0 0,.ptr 6 0 0 0,.ptr 7 0 0 0,.own 8 0 4,j115,j116,.ro (List.map (aF IntKind.u64) v1),.ro (List.map (aF IntKind.u64) s91),.agg [.lit (.int .i64 v0_0),.lit (.int .i64 v0_1),.lit (.int .i64 v0_2),.lit (.int .i64 v0_3)],.ro (List.map (aF IntKind.u64) v1),.agg [.lit (.int .i64 v2_0),.lit (.int .i64 v2_1),.lit (.int .i64 v2_2),.lit (.int .u64 v2_3),.lit (.int .u64 v2_4),.lit (.int .u64 v2_5),.lit (.int .i64 v2_6)],.lit (.bool s92),.lit (.bool s93),uu,uu,.agg [.lit (.int .i64 v0_0),.lit (.int .i64 v0_1),.lit (.int .i64 v0_2),.lit (.int .i64 v0_3)],.ptr 1 0 0 2,.lit (.int .i64 v2_2),.lit (.int .i64 s94),.agg [.lit (.int .i64 v0_0),.lit (.int .i64 v0_1),.lit (.int .i64 v0_2),.lit (.int .i64 v0_3)],.ptr 1 0 0 2,.lit (.int .i64 v2_2),.lit (.int .i64 s95),.fn (Fn.func (229:FuncId)) [] [.ptr 5 0 0 0,.ptr 6 0 0 0,.ptr 1 0 0 0],.fn (Fn.func (230:FuncId)) [] [.ptr 5 0 0 0,.ptr 7 0 0 0,.ptr 1 0 0 0],.fn (Fn.func (231:FuncId)) [] [.ptr 5 0 0 0,.ptr 0 0 0 0,.ptr 1 0 0 0],.fn (Fn.func (232:FuncId)) [] [.ptr 5 0 0 0,.ptr 6 0 0 0,.ptr 1 0 0 0],.own 8 0 4,.own 8 0 4,.lit (.int .i64 (4:Int)),.lit (.int .i64 s117),.junk,.junk,.junk,.junk,.junk,.junk,.junk,.junk,.junk,.junk,.junk,.junk,.junk,.junk,.junk,.junk,.junk,.junk,uu,uu],[.box [.lit (.int .i64 v0_0),.lit (.int .i64 v0_1),.lit (.int .i64 v0_2),.lit (.int .i64 v0_3)],.box [.lit (.int .i64 v2_0),.lit (.int .i64 v2_1),.lit (.int .i64 v2_2),.lit (.int .u64 v2_3),.lit (.int .u64 v2_4),.lit (.int .u64 v2_5),.lit (.int .i64 v2_6)],.rows 0 [] 0 true,.box [.lit (.int .i64 (0:Int)),.lit (.int .i64 (0:Int)),.lit (.int .i64 (0:Int)),.lit (.int .u64 (0:Int)),.lit (.int .u64 (0:Int)),.lit (.int .u64 (0:Int)),.lit (.int .i64 (0:Int))],.rows 0 [] 0 true,.box [.ro (List.map (aF IntKind.u64) s91)],.box [.lit (.int .i64 s94)],.box [.lit (.int .i64 s95)],.rows 1 [[.fn (Fn.func (229:FuncId)) [] [.ptr 5 0 0 0,.ptr 6 0 0 0,.ptr 1 0 0 0]],[.fn (Fn.func (230:FuncId)) [] [.ptr 5 0 0 0,.ptr 7 0 0 0,.ptr 1 0 0 0]],[.fn (Fn.func (231:FuncId)) [] [.ptr 5 0 0 0,.ptr 0 0 0 0,.ptr 1 0 0 0]],[.fn (Fn.func (232:FuncId)) [] [.ptr 5 0 0 0,.ptr 6 0 0 0,.ptr 1 0 0 0]]] 0 true]⟩)=ob (ar k (v0_0,v0_1,v0_2,v0_3) v1 (v2_0,v2_1,v2_2,v2_3,v2_4,v2_5,v2_6)  n s91 s94 s95 s117) fun r=>some ((.tup [.ro (List.map (aF .u64) r.1),.agg [.lit (.int .i64 r.2.1),.lit (.int .i64 r.2.2.1),.lit (.int .i64 r.2.2.2.1),.lit (.int .u64 r.2.2.2.2.1),.lit (.int .u64 r.2.2.2.2.2.1),.lit (.int .u64 r.2.2.2.2.2.2.1),.lit (.int .i64 r.2.2.2.2.2.2.2)]]),[]):=by
 intro n
 induction n with
 | zero=>intros;rfl
 | succ n ih=>
  intro s91 s94 s95 s117 s92 s93 j115 j116
  rw [ar]
  simp (maxSteps:=2000000) -implicitDefEqProofs only [abS,U8,Ux,FK,nO,Y6,WT,YX,VR,aab,V6,Z9,Wa,↓syP,syA,syD,simprocAttr,syE,ah,ag,ae,syW,xQ,da,i9,eG,fN,mz,gP,pt,lH,kj,KZ,ih]
  all_goals simp -implicitDefEqProofs only [List.map_nil]
def gU (k:Nat) (v0:(Int×Int×Int×Int)) (v1:(List Int)) (v2:(Int×Int×Int×Int×Int×Int×Int)):Option ((List Int)×(Int×Int×Int×Int×Int×Int×Int)):=
 ob (aL 8 v1) fun x167=>
 ob (eH v0 v1 v2 2 4) fun x168=>
 bif !x168 then
 some (x167,v2)
 else
 ob (gX v0 v2.2.2.1) fun x169=>
 ob (dq v0 v2.2.2.1) fun x170=>
 ar k v0 v1 v2 (k+23) x167 x169 x170 0
theorem DA (k:Nat) (v0_0 v0_1 v0_2 v0_3:Int) (v1:List Int) (v2_0 v2_1 v2_2 v2_3 v2_4 v2_5 v2_6:Int):xC (k+24) none 209 [.agg [.lit (.int .i64 v0_0),.lit (.int .i64 v0_1),.lit (.int .i64 v0_2),.lit (.int .i64 v0_3)],.ro (List.map (aF .u64) v1),.agg [.lit (.int .i64 v2_0),.lit (.int .i64 v2_1),.lit (.int .i64 v2_2),.lit (.int .u64 v2_3),.lit (.int .u64 v2_4),.lit (.int .u64 v2_5),.lit (.int .i64 v2_6)]]=ob (gU k (v0_0,v0_1,v0_2,v0_3) v1 (v2_0,v2_1,v2_2,v2_3,v2_4,v2_5,v2_6)) fun r=>some ((.tup [.ro (List.map (aF .u64) r.1),.agg [.lit (.int .i64 r.2.1),.lit (.int .i64 r.2.2.1),.lit (.int .i64 r.2.2.2.1),.lit (.int .u64 r.2.2.2.2.1),.lit (.int .u64 r.2.2.2.2.2.1),.lit (.int .u64 r.2.2.2.2.2.2.1),.lit (.int .i64 r.2.2.2.2.2.2.2)]]),[]):=by
 rw [aH]
 unfold gU
 simp (maxSteps:=2000000) -implicitDefEqProofs only [abS,U8,Ux,FK,nO,Y6,WT,YX,VR,aab,V6,Z9,Wa,↓syP,syA,syD,simprocAttr,syE,ah,ag,ae,syW,xQ,mz,gP,kj,oW k v0_0 v0_1 v0_2 v0_3 v1 v2_0 v2_1 v2_2 v2_3 v2_4 v2_5 v2_6]
 all_goals simp -implicitDefEqProofs only [List.map_nil]
def eI (k:Nat) (v0:(Int×Int×Int×Int)) (v1:(List Int)) (v2:(Int×Int×Int×Int×Int×Int×Int)):Option ((List Int)×(Int×Int×Int×Int×Int×Int×Int)):=
 bif v2.1==0 then
 ob (kr v0 v1 v2) fun x179=>
 some x179
 else
 bif v2.1==1 then
 ob (ld v0 v1 v2) fun x180=>
 some x180
 else
 bif v2.1==2 then
 ob (gU (k+1) v0 v1 v2) fun x181=>
 some x181
 else
 ob (aL 8 v1) fun x182=>
 some (x182,v2)
theorem Dj (k:Nat) (v0_0 v0_1 v0_2 v0_3:Int) (v1:List Int) (v2_0 v2_1 v2_2 v2_3 v2_4 v2_5 v2_6:Int):xC (k+26) none 180 [.agg [.lit (.int .i64 v0_0),.lit (.int .i64 v0_1),.lit (.int .i64 v0_2),.lit (.int .i64 v0_3)],.ro (List.map (aF .u64) v1),.agg [.lit (.int .i64 v2_0),.lit (.int .i64 v2_1),.lit (.int .i64 v2_2),.lit (.int .u64 v2_3),.lit (.int .u64 v2_4),.lit (.int .u64 v2_5),.lit (.int .i64 v2_6)]]=ob (eI k (v0_0,v0_1,v0_2,v0_3) v1 (v2_0,v2_1,v2_2,v2_3,v2_4,v2_5,v2_6)) fun r=>some ((.tup [.ro (List.map (aF .u64) r.1),.agg [.lit (.int .i64 r.2.1),.lit (.int .i64 r.2.2.1),.lit (.int .i64 r.2.2.2.1),.lit (.int .u64 r.2.2.2.2.1),.lit (.int .u64 r.2.2.2.2.2.1),.lit (.int .u64 r.2.2.2.2.2.2.1),.lit (.int .i64 r.2.2.2.2.2.2.2)]]),[]):=by
 rw [aH]
 unfold eI
 simp (maxSteps:=2000000) -implicitDefEqProofs only [aeO,Zr,↓syP,syA,syD,simprocAttr,syE,ah,ag,ae,syW,xQ,E5,In,DA]
 all_goals simp -implicitDefEqProofs only [List.map_nil]
end Go.Ab
set_option maxRecDepth 100000
set_option linter.unusedVariables false
set_option linter.unusedSimpArgs false
namespace Go.Ab
open Go.Proofs
def fV (v0:Int) (v1:Int):Option Bool:=
 bif decide (0≤v0) then
 some (decide (v0≤v1))
 else
 some false
theorem AJ (k:Nat) (v0 v1:Int):xC (k+1) none 172 [.lit (.int .i64 v0),.lit (.int .i64 v1)]=ob (fV v0 v1) fun r=>some ((.lit (.bool r)),[]):=by
 rw [aH]
 unfold fV
 simp (maxSteps:=2000000) -implicitDefEqProofs only [afx,Yd,Ml,w9,↓syP,syA,syD,simprocAttr,syE,ah,ag,ae,syW,xQ]
 all_goals simp -implicitDefEqProofs only [List.map_nil]
def bQ (k:Nat)   : Nat→Tye→Int→Tyt→Int→Option Int
 | 0,_,_,_,_=>none
 | n+1,s3,s4,s5,s13=>
 bif decide (s13<s4) then
 ob (idx s3 s13) fun x31=>
 ob (fV x31.1 (IntKind.i64.wrap ((↑s5.length:Int) - (1:Int)))) fun x32=>
 bif !x32 then
 some (s13)
 else
 ob (idx s5 x31.1) fun x33=>
 ob (fV x31.2.1 x33.1) fun x34=>
 bif !x34 then
 some (s13)
 else
 ob (fV x31.2.2 (↑x33.2.length:Int)) fun x35=>
 bif !x35 then
 some (s13)
 else
 bif decide (x31.2.1<x33.1) then
 bif decide ((0:Int)<x31.2.2) then
 some (s13)
 else
 bQ k   n (s3) (s4) (s5) (IntKind.i64.wrap (s13+(1:Int)))
 else
 bQ k   n (s3) (s4) (s5) (IntKind.i64.wrap (s13+(1:Int)))
 else
 some ((-1:Int))
theorem nm (k:Nat)  : ∀ (n:Nat) (s3:Tye) (s4:Int) (s5:Tyt) (s13:Int) ⦃j12:V⦄,itX (xX (xS (k+17)) 206 0 (k+17) false) BT (1) (au (xX (xS (k+17)) 206 0 (k+17) false) (ao (xS (k+17)).P Tryz.f206) BF) n ⟨[.ro (List.map aD s3),.fn (Fn.func (171:FuncId)) [] [.ptr 0 0 0 0],uu,uu,.lit (.int .i64 (0:Int)),j12,.ro (List.map aD s3),.lit (.int .i64 s4),.lit (.int .i64 s13),.junk,.junk,.junk,.junk,.junk,.junk,.junk,.junk,.junk,.junk],[.box [.ro (List.map an s5)]]⟩=ob (bQ k   n s3 s4 s5 s13) fun r=>some ((.lit (.int .i64 r),[.box [.ro (List.map an s5)]])):=by
 intro n
 induction n with
 | zero=>intros;rfl
 | succ n ih=>
  intro s3 s4 s5 s13 j12
  rw [bQ]
  simp (maxSteps:=2000000) -implicitDefEqProofs only [Y8,TR,FI,ny,X1,UY,aad,UN,EG,FH,Fi,FE,EQ,Et,nC,ZE,Te,Ts,E2,oc,↓syP,syA,syD,simprocAttr,syE,ah,ag,ae,syW,xQ,AJ,Lk,ih]
  all_goals simp -implicitDefEqProofs only [List.map_nil]
def fM (k:Nat) (v0:Tyt) (v1:Tye):Option Bool:=
 ob (cT k v0) fun x38=>
 bif x38 then
 ob (bQ k (k+17) v1 (↑v1.length:Int) v0 0) fun x39=>
 some (!decide (0≤x39))
 else
 some false
theorem nS (k:Nat) (v0:Tyt) (v1:Tye):xC (k+20) none 146 [.ro (List.map an v0),.ro (List.map aD v1)]=ob (fM k v0 v1) fun r=>some ((.lit (.bool r)),[]):=by
 rw [aH]
 unfold fM
 simp (maxSteps:=2000000) -implicitDefEqProofs only [Y8,TR,FI,ny,X1,UY,aad,UN,EG,FH,Fi,FE,EQ,Et,nC,ZE,Te,Ts,E2,oc,↓syP,syA,syD,simprocAttr,syE,ah,ag,ae,syW,xQ,cS,nm]
 all_goals simp -implicitDefEqProofs only [List.map_nil]
def dU (k:Nat) (v0:Tyt) (v1:Tye):Option (Int×Int):=
 bif (↑v1.length:Int)==0 then
 some (0,0)
 else
 ob (fM k v0 v1) fun x60=>
 bif !x60 then
 some (0,0)
 else
 ob (idx v1 (IntKind.i64.wrap ((↑v1.length:Int) - 1))) fun x61=>
 ob (idx v0 x61.1) fun x62=>
 bif decide (x61.2.1<x62.1) then
 some (1,x61.1)
 else
 bif decide (x61.2.2<(↑x62.2.length:Int)) then
 ob (idx x62.2 x61.2.2) fun x63=>
 some (2,x63)
 else
 some (3,x61.1)
theorem rP (k:Nat) (v0:Tyt) (v1:Tye):xC (k+21) none 162 [.ro (List.map an v0),.ro (List.map aD v1)]=ob (dU k v0 v1) fun r=>some ((.agg [.lit (.int .i64 r.1),.lit (.int .i64 r.2)]),[]):=by
 rw [aH]
 unfold dU
 simp (maxSteps:=2000000) -implicitDefEqProofs only [ac2,Zv,Lr,uL,↓syP,syA,syD,simprocAttr,syE,ah,ag,ae,syW,xQ,nS]
 all_goals simp -implicitDefEqProofs only [List.map_nil]
def fW (k:Nat) (v0:Tyt) (v1:Tye):Option Tye:=
 ob (aL 24 v1) fun x74=>
 ob (dU k v0 v1) fun x75=>
 bif x75.1==1 then
 bif decide (0≤IntKind.i64.wrap ((↑x74.length:Int) - 1)∧(IntKind.i64.wrap ((↑x74.length:Int) - 1)).toNat<x74.length) then
 ob (x74[(IntKind.i64.wrap ((↑x74.length:Int) - 1)).toNat]?) fun x76=>
 bif decide (0≤IntKind.i64.wrap ((↑x74.length:Int) - 1)∧(IntKind.i64.wrap ((↑x74.length:Int) - 1)).toNat<x74.length) then
 ob (x74[(IntKind.i64.wrap ((↑x74.length:Int) - 1)).toNat]?) fun x77=>
 some (x74.set (IntKind.i64.wrap ((↑x74.length:Int) - 1)).toNat (x77.1,IntKind.i64.wrap (x76.2.1+1),x77.2.2))
 else
 none
 else
 none
 else
 bif x75.1==2 then
 bif decide (0≤IntKind.i64.wrap ((↑x74.length:Int) - 1)∧(IntKind.i64.wrap ((↑x74.length:Int) - 1)).toNat<x74.length) then
 ob (x74[(IntKind.i64.wrap ((↑x74.length:Int) - 1)).toNat]?) fun x78=>
 bif decide (0≤IntKind.i64.wrap ((↑x74.length:Int) - 1)∧(IntKind.i64.wrap ((↑x74.length:Int) - 1)).toNat<x74.length) then
 ob (x74[(IntKind.i64.wrap ((↑x74.length:Int) - 1)).toNat]?) fun x79=>
 some (x74.set (IntKind.i64.wrap ((↑x74.length:Int) - 1)).toNat (x79.1,x79.2.1,IntKind.i64.wrap (x78.2.2+1)))
 else
 none
 else
 none
 else
 bif x75.1==3 then
 ck (decide (0≤IntKind.i64.wrap ((↑x74.length:Int) - 1)∧(IntKind.i64.wrap ((↑x74.length:Int) - 1)).toNat≤x74.length)) (
 ck (decide ((IntKind.i64.wrap ((↑x74.length:Int) - 1)).toNat≤x74.length)) (
 some (List.take (IntKind.i64.wrap ((↑x74.length:Int) - 1)).toNat x74)))
 else
 some x74
theorem Ih (k:Nat) (v0:Tyt) (v1:Tye):xC (k+22) none 163 [.ro (List.map an v0),.ro (List.map aD v1)]=ob (fW k v0 v1) fun r=>some ((.ro (List.map aD r)),[]):=by
 rw [aH]
 unfold fW
 simp (maxSteps:=2000000) -implicitDefEqProofs only [af1,YH,ac1,Yv,aH (g:=182),afj,abh,af7,Yk,adT,Zc,↓syP,syA,syD,simprocAttr,syE,ah,ag,ae,syW,xQ,rP]
 all_goals simp -implicitDefEqProofs only [List.map_nil]
def dv (k:Nat) (v0:Tyt) (v1:Tye) (v2:Int):Option Tye:=
 ob (aL 24 v1) fun x89=>
 ob (fM k v0 v1) fun x90=>
 bif !x90 then
 some x89
 else
 ob (fV v2 (IntKind.i64.wrap ((↑v0.length:Int) - 1))) fun x91=>
 bif !x91 then
 some x89
 else
 bif room (x89++[(v2,0,0)]).length 24 then
 some (x89++[(v2,0,0)])
 else
 none
theorem AX (k:Nat) (v0:Tyt) (v1:Tye) (v2:Int):xC (k+21) none 181 [.ro (List.map an v0),.ro (List.map aD v1),.lit (.int .i64 v2)]=ob (dv k v0 v1 v2) fun r=>some ((.ro (List.map aD r)),[]):=by
 rw [aH]
 unfold dv
 simp (maxSteps:=2000000) -implicitDefEqProofs only [aga,abl,Mo,wO,↓syP,syA,syD,simprocAttr,syE,ah,ag,ae,syW,xQ,AJ,nS]
 all_goals simp -implicitDefEqProofs only [List.map_nil]
end Go.Ab
set_option maxRecDepth 100000
set_option linter.unusedVariables false
set_option linter.unusedSimpArgs false
namespace Go.Ab
open Go.Proofs
def co (k:Nat) (v0:(Int×Int×Int×Int)) (v1:(List Int)) (v2:(Int×Int×Int×Int×Int×Int×Int)):Option ((List Int)×(Int×Int×Int×Int×Int×Int×Int)):=
 bif v2.1==5 then
 ob (kD v0 v1 v2) fun x6=>
 some x6
 else
 bif v2.1==6 then
 bif v2.1==6 then
 ob (gM k v0 v1 v2) fun x7=>
 some x7
 else
 ob (aL 8 v1) fun x8=>
 some (x8,v2)
 else
 bif v2.1==7 then
 ob (gM k v0 v1 v2) fun x9=>
 some x9
 else
 ob (aL 8 v1) fun x10=>
 some (x10,v2)
theorem ry (k:Nat) (v0_0 v0_1 v0_2 v0_3:Int) (v1:List Int) (v2_0 v2_1 v2_2 v2_3 v2_4 v2_5 v2_6:Int):xC (k+17) none 134 [.agg [.lit (.int .i64 v0_0),.lit (.int .i64 v0_1),.lit (.int .i64 v0_2),.lit (.int .i64 v0_3)],.ro (List.map (aF .u64) v1),.agg [.lit (.int .i64 v2_0),.lit (.int .i64 v2_1),.lit (.int .i64 v2_2),.lit (.int .u64 v2_3),.lit (.int .u64 v2_4),.lit (.int .u64 v2_5),.lit (.int .i64 v2_6)]]=ob (co k (v0_0,v0_1,v0_2,v0_3) v1 (v2_0,v2_1,v2_2,v2_3,v2_4,v2_5,v2_6)) fun r=>some ((.tup [.ro (List.map (aF .u64) r.1),.agg [.lit (.int .i64 r.2.1),.lit (.int .i64 r.2.2.1),.lit (.int .i64 r.2.2.2.1),.lit (.int .u64 r.2.2.2.2.1),.lit (.int .u64 r.2.2.2.2.2.1),.lit (.int .u64 r.2.2.2.2.2.2.1),.lit (.int .i64 r.2.2.2.2.2.2.2)]]),[]):=by
 rw [aH]
 unfold co
 simp (maxSteps:=2000000) -implicitDefEqProofs only [acQ,aby,Kh,u3,↓syP,syA,syD,simprocAttr,syE,ah,ag,ae,syW,xQ,E6,EZ]
 all_goals simp -implicitDefEqProofs only [List.map_nil]
def mY (v0:(Int×Int×Int×Int)) (v1:(List Int)):Option Bool:=
 ob (b7 v0) fun x20=>
 bif x20 then
 ob (dL v0) fun x21=>
 some ((↑v1.length:Int)==x21)
 else
 some false
theorem Iv (k:Nat) (v0_0 v0_1 v0_2 v0_3:Int) (v1:List Int):xC (k+4) none 105 [.agg [.lit (.int .i64 v0_0),.lit (.int .i64 v0_1),.lit (.int .i64 v0_2),.lit (.int .i64 v0_3)],.ro (List.map (aF .u64) v1)]=ob (mY (v0_0,v0_1,v0_2,v0_3) v1) fun r=>some ((.lit (.bool r)),[]):=by
 rw [aH]
 unfold mY
 simp (maxSteps:=2000000) -implicitDefEqProofs only [agk,aay,MT,uW,↓syP,syA,syD,simprocAttr,syE,ah,ag,ae,syW,xQ,ct,gH]
 all_goals simp -implicitDefEqProofs only [List.map_nil]
def i4 (v0:(Int×Int×Int×Int)) (v1:(List Int)) (v2:(Int×Int×Int×Int×Int×Int×Int)) (v3:Int):Option Bool:=
 ob (mY v0 v1) fun x26=>
 bif x26 then
 ob (aK v2) fun x27=>
 bif !x27 then
 bif v2.1==v3 then
 bif decide (0≤v2.2.1) then
 some (decide (v2.2.1<5))
 else
 some false
 else
 some false
 else
 some false
 else
 some false
theorem An (k:Nat) (v0_0 v0_1 v0_2 v0_3:Int) (v1:List Int) (v2_0 v2_1 v2_2 v2_3 v2_4 v2_5 v2_6 v3:Int):xC (k+5) none 196 [.agg [.lit (.int .i64 v0_0),.lit (.int .i64 v0_1),.lit (.int .i64 v0_2),.lit (.int .i64 v0_3)],.ro (List.map (aF .u64) v1),.agg [.lit (.int .i64 v2_0),.lit (.int .i64 v2_1),.lit (.int .i64 v2_2),.lit (.int .u64 v2_3),.lit (.int .u64 v2_4),.lit (.int .u64 v2_5),.lit (.int .i64 v2_6)],.lit (.int .i64 v3)]=ob (i4 (v0_0,v0_1,v0_2,v0_3) v1 (v2_0,v2_1,v2_2,v2_3,v2_4,v2_5,v2_6) v3) fun r=>some ((.lit (.bool r)),[]):=by
 rw [aH]
 unfold i4
 simp (maxSteps:=2000000) -implicitDefEqProofs only [acl,Zf,J7,JH,J9,ME,uz,↓syP,syA,syD,simprocAttr,syE,ah,ag,ae,syW,xQ,eG,Iv]
 all_goals simp -implicitDefEqProofs only [List.map_nil]
def gS (v0:(Int×Int×Int×Int)) (v1:Int):Option Int:=
 ob (b7 v0) fun x36=>
 bif !x36 then
 some ((-1))
 else
 ob (ew 0 0 (IntKind.i64.wrap (v0.1 - 1))) fun x37=>
 bif !x37 then
 some ((-1))
 else
 bif IntKind.u64.wrap v0.2.2.1 !=0 then
 some (IntKind.i64.wrap (6+IntKind.i64.wrap (v1.tmod (IntKind.u64.wrap v0.2.2.1))))
 else
 none
theorem C8 (k:Nat) (v0_0 v0_1 v0_2 v0_3 v1:Int):xC (k+12) none 203 [.agg [.lit (.int .i64 v0_0),.lit (.int .i64 v0_1),.lit (.int .i64 v0_2),.lit (.int .i64 v0_3)],.lit (.int .u64 v1)]=ob (gS (v0_0,v0_1,v0_2,v0_3) v1) fun r=>some ((.lit (.int .i64 r)),[]):=by
 rw [aH]
 unfold gS
 simp (maxSteps:=2000000) -implicitDefEqProofs only [Xt,Vo,wG,gD,adQ,aaO,ad6,aac,↓syP,syA,syD,simprocAttr,syE,ah,ag,ae,syW,xQ,mc,ct]
 all_goals simp -implicitDefEqProofs only [List.map_nil]
def lG (v0:(Int×Int×Int×Int)) (v1:Int):Option Int:=
 ob (b7 v0) fun x42=>
 bif !x42 then
 some ((-1))
 else
 ob (ew 0 0 (IntKind.i64.wrap (v0.1 - 1))) fun x43=>
 bif !x43 then
 some ((-1))
 else
 bif IntKind.u64.wrap v0.2.2.1 !=0 then
 some (IntKind.i64.wrap (IntKind.i64.wrap (6+v0.2.2.1)+IntKind.i64.wrap (v1.tmod (IntKind.u64.wrap v0.2.2.1))))
 else
 none
theorem Dp (k:Nat) (v0_0 v0_1 v0_2 v0_3 v1:Int):xC (k+12) none 205 [.agg [.lit (.int .i64 v0_0),.lit (.int .i64 v0_1),.lit (.int .i64 v0_2),.lit (.int .i64 v0_3)],.lit (.int .u64 v1)]=ob (lG (v0_0,v0_1,v0_2,v0_3) v1) fun r=>some ((.lit (.int .i64 r)),[]):=by
 rw [aH]
 unfold lG
 simp (maxSteps:=2000000) -implicitDefEqProofs only [Xt,Vo,wG,gD,adK,ZY,ae5,aa3,↓syP,syA,syD,simprocAttr,syE,ah,ag,ae,syW,xQ,mc,ct]
 all_goals simp -implicitDefEqProofs only [List.map_nil]
def kY (v0:(Int×Int×Int×Int)) (v1:(List Int)) (v2:(Int×Int×Int×Int×Int×Int×Int)):Option ((List Int)×(Int×Int×Int×Int×Int×Int×Int)):=
 ob (aL 8 v1) fun x59=>
 ob (i4 v0 v1 v2 3) fun x60=>
 bif !x60 then
 some (x59,v2)
 else
 bif decide (0≤v2.2.1∧v2.2.1.toNat<5) then
 bif v2.2.1.toNat==0 then
 ob (aI x59 5) fun x61=>
 some (x59,(v2.1,1,v2.2.2.1,v2.2.2.2.1,x61,v2.2.2.2.2.2))
 else
 bif v2.2.1.toNat==1 then
 ob (gS v0 v2.2.2.2.2.1) fun x62=>
 ob (aI x59 x62) fun x63=>
 bif IntKind.u64.wrap v0.2.2.1 !=0 then
 bif x63==IntKind.u64.wrap (IntKind.u64.wrap (v2.2.2.2.2.1.tdiv (IntKind.u64.wrap v0.2.2.1))*2) then
 some (x59,(v2.1,2,v2.2.2.1,v2.2.2.2.1,v2.2.2.2.2.1,x63,v2.2.2.2.2.2.2))
 else
 bif IntKind.u64.wrap v0.2.2.1 !=0 then
 ob (fe x63 (IntKind.u64.wrap (IntKind.u64.wrap (v2.2.2.2.2.1.tdiv (IntKind.u64.wrap v0.2.2.1))*2))) fun x64=>
 bif decide (x64<0) then
 ob (aW (v2.1,v2.2.1,v2.2.2.1,v2.2.2.2.1,v2.2.2.2.2.1,x63,v2.2.2.2.2.2.2) 2 v2.2.2.2.1) fun x65=>
 some (x59,(x65.1,0,x65.2.2))
 else
 some (x59,(v2.1,0,v2.2.2.1,v2.2.2.2.1,v2.2.2.2.2.1,x63,v2.2.2.2.2.2.2))
 else
 none
 else
 none
 else
 bif v2.2.1.toNat==2 then
 ob (dj x59 5 v2.2.2.2.2.1 (IntKind.u64.wrap (v2.2.2.2.2.1+1))) fun x66=>
 bif x66.2 then
 some (x66.1,(v2.1,3,v2.2.2))
 else
 some (x66.1,(v2.1,0,v2.2.2))
 else
 bif v2.2.1.toNat==3 then
 ob (lG v0 v2.2.2.2.2.1) fun x67=>
 ob (bo x59 x67 v2.2.2.2.1) fun x68=>
 some (x68,(v2.1,4,v2.2.2))
 else
 bif v2.2.1.toNat==4 then
 ob (gS v0 v2.2.2.2.2.1) fun x69=>
 bif IntKind.u64.wrap v0.2.2.1 !=0 then
 ob (bo x59 x69 (IntKind.u64.wrap (IntKind.u64.wrap (IntKind.u64.wrap (v2.2.2.2.2.1.tdiv (IntKind.u64.wrap v0.2.2.1))*2)+1))) fun x70=>
 ob (aW v2 1 v2.2.2.2.1) fun x71=>
 some (x70,(x71.1,0,x71.2.2))
 else
 none
 else
 none
 else
 none
theorem HV (k:Nat) (v0_0 v0_1 v0_2 v0_3:Int) (v1:List Int) (v2_0 v2_1 v2_2 v2_3 v2_4 v2_5 v2_6:Int):xC (k+24) none 167 [.agg [.lit (.int .i64 v0_0),.lit (.int .i64 v0_1),.lit (.int .i64 v0_2),.lit (.int .i64 v0_3)],.ro (List.map (aF .u64) v1),.agg [.lit (.int .i64 v2_0),.lit (.int .i64 v2_1),.lit (.int .i64 v2_2),.lit (.int .u64 v2_3),.lit (.int .u64 v2_4),.lit (.int .u64 v2_5),.lit (.int .i64 v2_6)]]=ob (kY (v0_0,v0_1,v0_2,v0_3) v1 (v2_0,v2_1,v2_2,v2_3,v2_4,v2_5,v2_6)) fun r=>some ((.tup [.ro (List.map (aF .u64) r.1),.agg [.lit (.int .i64 r.2.1),.lit (.int .i64 r.2.2.1),.lit (.int .i64 r.2.2.2.1),.lit (.int .u64 r.2.2.2.2.1),.lit (.int .u64 r.2.2.2.2.2.1),.lit (.int .u64 r.2.2.2.2.2.2.1),.lit (.int .i64 r.2.2.2.2.2.2.2)]]),[]):=by
 rw [aH]
 unfold kY
 simp (maxSteps:=2000000) -implicitDefEqProofs only [ad5,XW,acX,aaB,ady,abO,afi,aaJ,aeD,abr,afe,XZ,afp,aaQ,aff,aa6,↓syP,syA,syD,simprocAttr,syE,ah,ag,ae,syW,xQ,da,dS,i9,fN,lH,An,C8,Dp]
 all_goals simp -implicitDefEqProofs only [List.map_nil]
def iY (v0:(Int×Int×Int×Int)) (v1:Int):Option Int:=
 bif IntKind.u64.wrap v0.2.2.1 !=0 then
 some (IntKind.u64.wrap (IntKind.u64.wrap (IntKind.u64.wrap (v1.tdiv (IntKind.u64.wrap v0.2.2.1))*2)+1))
 else
 none
theorem Jl (k:Nat) (v0_0 v0_1 v0_2 v0_3 v1:Int):xC (k+1) none 204 [.agg [.lit (.int .i64 v0_0),.lit (.int .i64 v0_1),.lit (.int .i64 v0_2),.lit (.int .i64 v0_3)],.lit (.int .u64 v1)]=ob (iY (v0_0,v0_1,v0_2,v0_3) v1) fun r=>some ((.lit (.int .u64 r)),[]):=by
 rw [aH]
 unfold iY
 simp (maxSteps:=2000000) -implicitDefEqProofs only [adF,Zz,↓syP,syA,syD,simprocAttr,syE,ah,ag,ae,syW,xQ]
 all_goals simp -implicitDefEqProofs only [List.map_nil]
def lm (v0:(Int×Int×Int×Int)) (v1:(List Int)) (v2:(Int×Int×Int×Int×Int×Int×Int)):Option ((List Int)×(Int×Int×Int×Int×Int×Int×Int)):=
 ob (aL 8 v1) fun x109=>
 ob (i4 v0 v1 v2 4) fun x110=>
 bif !x110 then
 some (x109,v2)
 else
 bif v2.2.1==0 then
 ob (aI x109 4) fun x111=>
 some (x109,(v2.1,1,v2.2.2.1,v2.2.2.2.1,x111,v2.2.2.2.2.2))
 else
 bif v2.2.1==1 then
 ob (gS v0 v2.2.2.2.2.1) fun x112=>
 ob (aI x109 x112) fun x113=>
 ob (iY v0 v2.2.2.2.2.1) fun x114=>
 ob (fe x113 x114) fun x115=>
 bif x115==0 then
 some (x109,(v2.1,2,v2.2.2.1,v2.2.2.2.1,v2.2.2.2.2.1,x113,v2.2.2.2.2.2.2))
 else
 bif decide (x115<0) then
 ob (aW (v2.1,0,v2.2.2.1,v2.2.2.2.1,v2.2.2.2.2.1,x113,v2.2.2.2.2.2.2) 3 0) fun x116=>
 some (x109,x116)
 else
 some (x109,(v2.1,0,v2.2.2.1,v2.2.2.2.1,v2.2.2.2.2.1,x113,v2.2.2.2.2.2.2))
 else
 bif v2.2.1==2 then
 ob (dj x109 4 v2.2.2.2.2.1 (IntKind.u64.wrap (v2.2.2.2.2.1+1))) fun x117=>
 bif x117.2 then
 some (x117.1,(v2.1,3,v2.2.2))
 else
 some (x117.1,(v2.1,0,v2.2.2))
 else
 bif v2.2.1==3 then
 ob (lG v0 v2.2.2.2.2.1) fun x118=>
 ob (aI x109 x118) fun x119=>
 some (x109,(v2.1,4,v2.2.2.1,x119,v2.2.2.2.2))
 else
 ob (gS v0 v2.2.2.2.2.1) fun x120=>
 ob (iY v0 v2.2.2.2.2.1) fun x121=>
 ob (bo x109 x120 (IntKind.u64.wrap (x121+1))) fun x122=>
 ob (aW v2 1 v2.2.2.2.1) fun x123=>
 some (x122,x123)
theorem Jq (k:Nat) (v0_0 v0_1 v0_2 v0_3:Int) (v1:List Int) (v2_0 v2_1 v2_2 v2_3 v2_4 v2_5 v2_6:Int):xC (k+13) none 168 [.agg [.lit (.int .i64 v0_0),.lit (.int .i64 v0_1),.lit (.int .i64 v0_2),.lit (.int .i64 v0_3)],.ro (List.map (aF .u64) v1),.agg [.lit (.int .i64 v2_0),.lit (.int .i64 v2_1),.lit (.int .i64 v2_2),.lit (.int .u64 v2_3),.lit (.int .u64 v2_4),.lit (.int .u64 v2_5),.lit (.int .i64 v2_6)]]=ob (lm (v0_0,v0_1,v0_2,v0_3) v1 (v2_0,v2_1,v2_2,v2_3,v2_4,v2_5,v2_6)) fun r=>some ((.tup [.ro (List.map (aF .u64) r.1),.agg [.lit (.int .i64 r.2.1),.lit (.int .i64 r.2.2.1),.lit (.int .i64 r.2.2.2.1),.lit (.int .u64 r.2.2.2.2.1),.lit (.int .u64 r.2.2.2.2.2.1),.lit (.int .u64 r.2.2.2.2.2.2.1),.lit (.int .i64 r.2.2.2.2.2.2.2)]]),[]):=by
 rw [aH]
 unfold lm
 simp (maxSteps:=2000000) -implicitDefEqProofs only [ada,XQ,J4,uO,↓syP,syA,syD,simprocAttr,syE,ah,ag,ae,syW,xQ,da,dS,i9,fN,lH,An,C8,Dp,Jl]
 all_goals simp -implicitDefEqProofs only [List.map_nil]
def bt (v0:(Int×Int×Int×Int)) (v1:(List Int)) (v2:(Int×Int×Int×Int×Int×Int×Int)):Option ((List Int)×(Int×Int×Int×Int×Int×Int×Int)):=
 bif v2.1==3 then
 ob (kY v0 v1 v2) fun x142=>
 some x142
 else
 bif v2.1==4 then
 ob (lm v0 v1 v2) fun x143=>
 some x143
 else
 ob (aL 8 v1) fun x144=>
 some (x144,v2)
theorem oY (k:Nat) (v0_0 v0_1 v0_2 v0_3:Int) (v1:List Int) (v2_0 v2_1 v2_2 v2_3 v2_4 v2_5 v2_6:Int):xC (k+26) none 135 [.agg [.lit (.int .i64 v0_0),.lit (.int .i64 v0_1),.lit (.int .i64 v0_2),.lit (.int .i64 v0_3)],.ro (List.map (aF .u64) v1),.agg [.lit (.int .i64 v2_0),.lit (.int .i64 v2_1),.lit (.int .i64 v2_2),.lit (.int .u64 v2_3),.lit (.int .u64 v2_4),.lit (.int .u64 v2_5),.lit (.int .i64 v2_6)]]=ob (bt (v0_0,v0_1,v0_2,v0_3) v1 (v2_0,v2_1,v2_2,v2_3,v2_4,v2_5,v2_6)) fun r=>some ((.tup [.ro (List.map (aF .u64) r.1),.agg [.lit (.int .i64 r.2.1),.lit (.int .i64 r.2.2.1),.lit (.int .i64 r.2.2.2.1),.lit (.int .u64 r.2.2.2.2.1),.lit (.int .u64 r.2.2.2.2.2.1),.lit (.int .u64 r.2.2.2.2.2.2.1),.lit (.int .i64 r.2.2.2.2.2.2.2)]]),[]):=by
 rw [aH]
 unfold bt
 simp (maxSteps:=2000000) -implicitDefEqProofs only [afB,aal,↓syP,syA,syD,simprocAttr,syE,ah,ag,ae,syW,xQ,HV,Jq]
 all_goals simp -implicitDefEqProofs only [List.map_nil]
end Go.Ab
set_option maxRecDepth 100000
set_option linter.unusedVariables false
set_option linter.unusedSimpArgs false
namespace Go.Ab
open Go.Proofs
def i7 (k:Nat) (v0:(Int×Int×Int×Int)) (v1:Tyt) (v2:(List Int)) (v3:Int) (v4:Tyw):Option Bool:=
 ob (b7 v0) fun x5=>
 bif x5 then
 ob (dL v0) fun x6=>
 bif (↑v2.length:Int)==x6 then
 ob (cT (k+4) v1) fun x7=>
 bif x7 then
 bif decide (0≤v3) then
 bif decide (v3<v0.1) then
 bif decide (0≤v4.1) then
 bif decide (v4.1<16) then
 ob (fM (k+3) v1 v4.2.1) fun x8=>
 some x8
 else
 some false
 else
 some false
 else
 some false
 else
 some false
 else
 some false
 else
 some false
 else
 some false
theorem Ar (k:Nat) (v0_0 v0_1 v0_2 v0_3:Int) (v1:Tyt) (v2:List Int) (v3 v4_0:Int) (v4_1:Tye) (v4_2_0 v4_2_1 v4_2_2 v4_2_3 v4_2_4 v4_2_5 v4_2_6 v4_3 v4_4:Int):xC (k+24) none 95 [.agg [.lit (.int .i64 v0_0),.lit (.int .i64 v0_1),.lit (.int .i64 v0_2),.lit (.int .i64 v0_3)],.ro (List.map an v1),.ro (List.map (aF .u64) v2),.lit (.int .i64 v3),.agg [.lit (.int .i64 v4_0),.ro (List.map aD v4_1),.lit (.int .i64 v4_2_0),.lit (.int .i64 v4_2_1),.lit (.int .i64 v4_2_2),.lit (.int .u64 v4_2_3),.lit (.int .u64 v4_2_4),.lit (.int .u64 v4_2_5),.lit (.int .i64 v4_2_6),.lit (.int .i64 v4_3),.lit (.int .i64 v4_4)]]=ob (i7 k (v0_0,v0_1,v0_2,v0_3) v1 v2 v3 (v4_0,v4_1,(v4_2_0,v4_2_1,v4_2_2,v4_2_3,v4_2_4,v4_2_5,v4_2_6),v4_3,v4_4)) fun r=>some ((.lit (.bool r)),[]):=by
 rw [aH]
 unfold i7
 simp (maxSteps:=2000000) -implicitDefEqProofs only [ag9,agm,S2,RO,SH,SL,RU,Sn,S1,xK,↓syP,syA,syD,simprocAttr,syE,ah,ag,ae,syW,xQ,cS,ct,gH,nS]
 all_goals simp -implicitDefEqProofs only [List.map_nil]
def bw (k:Nat) (v0:(List Int)) (v1:Int)  : Nat→Int→Option Int
 | 0,_=>none
 | n+1,s19=>
 bif decide (s19<(↑v0.length:Int)) then
 ob (idx v0 s19) fun x22=>
 bif v1==x22 then
 some (s19)
 else
 bw k v0 v1  n (IntKind.i64.wrap (s19+(1:Int)))
 else
 some ((-1:Int))
theorem ly (k:Nat) (v0:List Int) (v1:Int):∀ (n:Nat) (s19:Int) ⦃j18:V⦄,rt none (itX (xX (xS k) 61 0 k false) GH (0) (au (xX (xS k) 61 0 k false) (ao (xS k).P Tryz.f61) GR) n ⟨[.ro (List.map (aF IntKind.i64) v0),.lit (.int .i64 v1),uu,uu,.lit (.int .i64 (0:Int)),j18,.ro (List.map (aF IntKind.i64) v0),.lit (.int .i64 (↑v0.length:Int)),.lit (.int .i64 s19),.junk,.junk,.junk,.junk,.junk,.junk,.junk,.junk,.junk,.junk],[]⟩)=ob (bw k v0 v1  n s19) fun r=>some ((.lit (.int .i64 r)),[]):=by
 intro n
 induction n with
 | zero=>intros;rfl
 | succ n ih=>
  intro s19 j18
  rw [bw]
  simp (maxSteps:=2000000) -implicitDefEqProofs only [agN,afu,af8,LY,pP,↓syP,syA,syD,simprocAttr,syE,ah,ag,ae,syW,xQ,So,ih]
  all_goals simp -implicitDefEqProofs only [List.map_nil]
def dl (k:Nat) (v0:(List Int)) (v1:Int):Option Int:=
 bw k v0 v1 k 0
theorem ga (k:Nat) (v0:List Int) (v1:Int):xC (k+1) none 61 [.ro (List.map (aF .i64) v0),.lit (.int .i64 v1)]=ob (dl k v0 v1) fun r=>some ((.lit (.int .i64 r)),[]):=by
 rw [aH]
 unfold dl
 simp (maxSteps:=2000000) -implicitDefEqProofs only [agN,afu,af8,LY,pP,↓syP,syA,syD,simprocAttr,syE,ah,ag,ae,syW,xQ,ly k v0 v1]
 all_goals simp -implicitDefEqProofs only [List.map_nil]
def gm (v0:(Int×Int×Int×Int×Int×Int×Int)):Option Bool:=
 bif v0.1==5 then
 ob (aK v0) fun x30=>
 bif !x30 then
 some (v0.2.1==3)
 else
 some false
 else
 some false
theorem By (k:Nat) (v0_0 v0_1 v0_2 v0_3 v0_4 v0_5 v0_6:Int):xC (k+2) none 69 [.agg [.lit (.int .i64 v0_0),.lit (.int .i64 v0_1),.lit (.int .i64 v0_2),.lit (.int .u64 v0_3),.lit (.int .u64 v0_4),.lit (.int .u64 v0_5),.lit (.int .i64 v0_6)]]=ob (gm (v0_0,v0_1,v0_2,v0_3,v0_4,v0_5,v0_6)) fun r=>some ((.lit (.bool r)),[]):=by
 rw [aH]
 unfold gm
 simp (maxSteps:=2000000) -implicitDefEqProofs only [ahP,ag6,RT,Ry,Aq,↓syP,syA,syD,simprocAttr,syE,ah,ag,ae,syW,xQ,eG]
 all_goals simp -implicitDefEqProofs only [List.map_nil]
def gn (v0:Tyw):Option Bool:=
 bif v0.1==8 then
 ob (gm v0.2.2.1) fun x33=>
 some x33
 else
 some false
theorem AO (k:Nat) (v0_0:Int) (v0_1:Tye) (v0_2_0 v0_2_1 v0_2_2 v0_2_3 v0_2_4 v0_2_5 v0_2_6 v0_3 v0_4:Int):xC (k+3) none 31 [.agg [.lit (.int .i64 v0_0),.ro (List.map aD v0_1),.lit (.int .i64 v0_2_0),.lit (.int .i64 v0_2_1),.lit (.int .i64 v0_2_2),.lit (.int .u64 v0_2_3),.lit (.int .u64 v0_2_4),.lit (.int .u64 v0_2_5),.lit (.int .i64 v0_2_6),.lit (.int .i64 v0_3),.lit (.int .i64 v0_4)]]=ob (gn (v0_0,v0_1,(v0_2_0,v0_2_1,v0_2_2,v0_2_3,v0_2_4,v0_2_5,v0_2_6),v0_3,v0_4)) fun r=>some ((.lit (.bool r)),[]):=by
 rw [aH]
 unfold gn
 simp (maxSteps:=2000000) -implicitDefEqProofs only [ahR,agp,Rj,Ac,↓syP,syA,syD,simprocAttr,syE,ah,ag,ae,syW,xQ,By]
 all_goals simp -implicitDefEqProofs only [List.map_nil]
def mS (v0:Int):Option Tyw:=
 ob (aJ 1 v0 0) fun x36=>
 some (0,[],x36,0,0)
theorem pU (k:Nat) (v0:Int):xC (k+2) none 60 [.lit (.int .i64 v0)]=ob (mS v0) fun r=>some ((.agg [.lit (.int .i64 r.1),.ro (List.map aD r.2.1),.lit (.int .i64 r.2.2.1.1),.lit (.int .i64 r.2.2.1.2.1),.lit (.int .i64 r.2.2.1.2.2.1),.lit (.int .u64 r.2.2.1.2.2.2.1),.lit (.int .u64 r.2.2.1.2.2.2.2.1),.lit (.int .u64 r.2.2.1.2.2.2.2.2.1),.lit (.int .i64 r.2.2.1.2.2.2.2.2.2),.lit (.int .i64 r.2.2.2.1),.lit (.int .i64 r.2.2.2.2)]),[]):=by
 rw [aH]
 unfold mS
 simp (maxSteps:=2000000) -implicitDefEqProofs only [ahS,agF,↓syP,syA,syD,simprocAttr,syE,ah,ag,ae,syW,xQ,lT]
 all_goals simp -implicitDefEqProofs only [List.map_nil]
end Go.Ab
set_option maxRecDepth 100000
set_option linter.unusedVariables false
set_option linter.unusedSimpArgs false
namespace Go.Ab
open Go.Proofs
def eU (k:Nat) (v0:(Int×Int×Int×Int)) (v1:Tyt) (v2:(List Int)) (v3:Tys):Option Bool:=
 ob (b7 v0) fun x6=>
 bif x6 then
 ob (dL v0) fun x7=>
 bif (↑v2.length:Int)==x7 then
 ob (cT (k+4) v1) fun x8=>
 bif x8 then
 bif decide (0≤v3.1) then
 bif decide (v3.1<6) then
 bif decide (0<(↑v3.2.1.length:Int)) then
 ob (idx v3.2.1 0) fun x9=>
 bif decide (0≤x9) then
 ob (idx v3.2.1 0) fun x10=>
 some (decide (x10<(↑v1.length:Int)))
 else
 some false
 else
 some false
 else
 some false
 else
 some false
 else
 some false
 else
 some false
 else
 some false
theorem mv (k:Nat) (v0_0 v0_1 v0_2 v0_3:Int) (v1:Tyt) (v2:List Int) (v3_0:Int) (v3_1:List Int) (v3_2_0 v3_2_1 v3_2_2 v3_2_3 v3_2_4 v3_2_5 v3_2_6:Int):xC (k+24) none 85 [.agg [.lit (.int .i64 v0_0),.lit (.int .i64 v0_1),.lit (.int .i64 v0_2),.lit (.int .i64 v0_3)],.ro (List.map an v1),.ro (List.map (aF .u64) v2),.agg [.lit (.int .i64 v3_0),.ro (List.map (aF .i64) v3_1),.lit (.int .i64 v3_2_0),.lit (.int .i64 v3_2_1),.lit (.int .i64 v3_2_2),.lit (.int .u64 v3_2_3),.lit (.int .u64 v3_2_4),.lit (.int .u64 v3_2_5),.lit (.int .i64 v3_2_6)]]=ob (eU k (v0_0,v0_1,v0_2,v0_3) v1 v2 (v3_0,v3_1,(v3_2_0,v3_2_1,v3_2_2,v3_2_3,v3_2_4,v3_2_5,v3_2_6))) fun r=>some ((.lit (.bool r)),[]):=by
 rw [aH]
 unfold eU
 simp (maxSteps:=2000000) -implicitDefEqProofs only [ahQ,ag5,RS,SX,SD,SE,Sv,Rf,Rm,xz,↓syP,syA,syD,simprocAttr,syE,ah,ag,ae,syW,xQ,cS,ct,gH]
 all_goals simp -implicitDefEqProofs only [List.map_nil]
def fb (k : Nat) (v0 : (Int × Int × Int × Int)) (v1 : (List (Int × List Int))) (v2 : (List Int)) (v3 : Int) (v4 : (Int × List Int × Int × Int × Int × Int × Int × Int × Int)) : Option ((List Int) × (Int × List Int × Int × Int × Int × Int × Int × Int × Int) × (List (Int × Int × Int))) :=
 ob (aL 8 v2) fun x38 =>
 ob (aL 8 v4.2.1) fun x39 =>
 ob (eU (k + 15) v0 v1 v2 v4) fun x40 =>
 bif !x40 then
 some (x38,(v4.1,x39,v4.2.2),[])
 else
 ob (idx x39 0) fun x41 =>
 bif v4.1 == 0 then
 ob (aI x38 3) fun x42 =>
 bif x42 != 0 then
 bif room 1 24 then
 bif decide (1 ≤ (↑x39.length : Int)) then
 some (x38,(0,(List.drop (Int.toNat 1) x39),(0,0,0,0,0,0,0)),([(1,x41,v3)]))
 else
 none
 else
 none
 else
 some (x38,(1,x39,v4.2.2),[])
 else
 bif v4.1 == 1 then
 ob (dk x38 0 1) fun x43 =>
 ob (aJ 3 v3 (IntKind.u64.wrap x41)) fun x44 =>
 some (x43.1,(2,x39,x44),[])
 else
 bif v4.1 == 2 then
 bif v4.2.2.1 == 3 then
 ob (bt v0 x38 v4.2.2) fun x45 =>
 ob (aK x45.2) fun x46 =>
 bif !x46 then
 some (x45.1,(v4.1,x39,x45.2),[])
 else
 bif x45.2.2.2.2.2.2.2 != 2 then
 bif room 1 24 then
 some (x45.1,(3,x39,x45.2),([(0,x41,v3)]))
 else
 none
 else
 some (x45.1,(5,x39,x45.2),[])
 else
 bif v4.2.2.1 == 4 then
 ob (bt v0 x38 v4.2.2) fun x47 =>
 ob (aK x47.2) fun x48 =>
 bif !x48 then
 some (x47.1,(v4.1,x39,x47.2),[])
 else
 bif x47.2.2.2.2.2.2.2 != 2 then
 bif room 1 24 then
 some (x47.1,(3,x39,x47.2),([(0,x41,v3)]))
 else
 none
 else
 some (x47.1,(5,x39,x47.2),[])
 else
 ob (co (k + 20) v0 x38 v4.2.2) fun x49 =>
 ob (aK x49.2) fun x50 =>
 bif !x50 then
 some (x49.1,(v4.1,x39,x49.2),[])
 else
 bif x49.2.2.2.2.2.2.2 != 2 then
 bif room 1 24 then
 some (x49.1,(3,x39,x49.2),([(0,x41,v3)]))
 else
 none
 else
 some (x49.1,(5,x39,x49.2),[])
 else
 bif v4.1 == 3 then
 ob (aI x38 1) fun x51 =>
 bif x51 != 0 then
 bif decide (1 ≤ (↑x39.length : Int)) then
 some (x38,(0,(List.drop (Int.toNat 1) x39),(0,0,0,0,0,0,0)),[])
 else
 none
 else
 ob (aJ 6 v3 0) fun x52 =>
 some (x38,(4,x39,x52),[])
 else
 bif v4.1 == 4 then
 bif v4.2.2.1 == 3 then
 ob (bt v0 x38 v4.2.2) fun x53 =>
 ob (aK x53.2) fun x54 =>
 bif x54 then
 bif decide (1 ≤ (↑x39.length : Int)) then
 some (x53.1,(0,(List.drop (Int.toNat 1) x39),(0,0,0,0,0,0,0)),[])
 else
 none
 else
 some (x53.1,(v4.1,x39,x53.2),[])
 else
 bif v4.2.2.1 == 4 then
 ob (bt v0 x38 v4.2.2) fun x55 =>
 ob (aK x55.2) fun x56 =>
 bif x56 then
 bif decide (1 ≤ (↑x39.length : Int)) then
 some (x55.1,(0,(List.drop (Int.toNat 1) x39),(0,0,0,0,0,0,0)),[])
 else
 none
 else
 some (x55.1,(v4.1,x39,x55.2),[])
 else
 ob (co (k + 20) v0 x38 v4.2.2) fun x57 =>
 ob (aK x57.2) fun x58 =>
 bif x58 then
 bif decide (1 ≤ (↑x39.length : Int)) then
 some (x57.1,(0,(List.drop (Int.toNat 1) x39),(0,0,0,0,0,0,0)),[])
 else
 none
 else
 some (x57.1,(v4.1,x39,x57.2),[])
 else
 bif v4.1 == 5 then
 ob (dk x38 0 18446744073709551615) fun x59 =>
 bif room 1 24 then
 bif x59.2 == 1 then
 bif room 2 24 then
 bif decide (1 ≤ (↑x39.length : Int)) then
 some (x59.1,(0,(List.drop (Int.toNat 1) x39),(0,0,0,0,0,0,0)),([(1,x41,v3),(5,0,v3)]))
 else
 none
 else
 none
 else
 bif decide (1 ≤ (↑x39.length : Int)) then
 some (x59.1,(0,(List.drop (Int.toNat 1) x39),(0,0,0,0,0,0,0)),([(1,x41,v3)]))
 else
 none
 else
 none
 else
 none
theorem ow (k : Nat) (v0_0 v0_1 v0_2 v0_3 : Int) (v1 : List (Int × List Int)) (v2 : List Int) (v3 v4_0 : Int) (v4_1 : List Int) (v4_2_0 v4_2_1 v4_2_2 v4_2_3 v4_2_4 v4_2_5 v4_2_6 : Int) : xC (k + 40) none 86 [.agg [.lit (.int .i64 v0_0),.lit (.int .i64 v0_1),.lit (.int .i64 v0_2),.lit (.int .i64 v0_3)],.ro (List.map an v1),.ro (List.map (aF .u64) v2),.lit (.int .i64 v3),.agg [.lit (.int .i64 v4_0),.ro (List.map (aF .i64) v4_1),.lit (.int .i64 v4_2_0),.lit (.int .i64 v4_2_1),.lit (.int .i64 v4_2_2),.lit (.int .u64 v4_2_3),.lit (.int .u64 v4_2_4),.lit (.int .u64 v4_2_5),.lit (.int .i64 v4_2_6)]] = ob (fb k (v0_0,v0_1,v0_2,v0_3) v1 v2 v3 (v4_0,v4_1,(v4_2_0,v4_2_1,v4_2_2,v4_2_3,v4_2_4,v4_2_5,v4_2_6))) fun r => some ((.tup [.ro (List.map (aF .u64) r.1),.agg [.lit (.int .i64 r.2.1.1),.ro (List.map (aF .i64) r.2.1.2.1),.lit (.int .i64 r.2.1.2.2.1),.lit (.int .i64 r.2.1.2.2.2.1),.lit (.int .i64 r.2.1.2.2.2.2.1),.lit (.int .u64 r.2.1.2.2.2.2.2.1),.lit (.int .u64 r.2.1.2.2.2.2.2.2.1),.lit (.int .u64 r.2.1.2.2.2.2.2.2.2.1),.lit (.int .i64 r.2.1.2.2.2.2.2.2.2.2)],.ro (List.map aD r.2.2)]),[]) := by
  rw [aH]
  unfold fb
  simp (maxSteps := 2000000) -implicitDefEqProofs only [ahz,agz,agd,Z6,aep,abo,ad2,XB,J5,Lw,wj,u9,ach,abk,ad9,Zd,adl,aaH,ac0,XP,afX,aa5,adb,abc,↓syP,syA,syD,simprocAttr,syE,ah,ag,ae,syW,xQ,da,AC,lT,eG,ry,oY,mv]
  all_goals simp -implicitDefEqProofs only [List.map_nil]
def go (v0:Tys):Option Bool:=
 some (v0.1 !=0)
theorem Cd (k:Nat) (v0_0:Int) (v0_1:List Int) (v0_2_0 v0_2_1 v0_2_2 v0_2_3 v0_2_4 v0_2_5 v0_2_6:Int):xC (k+1) none 28 [.agg [.lit (.int .i64 v0_0),.ro (List.map (aF .i64) v0_1),.lit (.int .i64 v0_2_0),.lit (.int .i64 v0_2_1),.lit (.int .i64 v0_2_2),.lit (.int .u64 v0_2_3),.lit (.int .u64 v0_2_4),.lit (.int .u64 v0_2_5),.lit (.int .i64 v0_2_6)]]=ob (go (v0_0,v0_1,(v0_2_0,v0_2_1,v0_2_2,v0_2_3,v0_2_4,v0_2_5,v0_2_6))) fun r=>some ((.lit (.bool r)),[]):=by
 rw [aH]
 unfold go
 simp (maxSteps:=2000000) -implicitDefEqProofs only [ahH,agq,↓syP,syA,syD,simprocAttr,syE,ah,ag,ae,syW,xQ]
 all_goals simp -implicitDefEqProofs only [List.map_nil]
def gV (v0:(List Int)):Option Tys:=
 ob (aL 8 v0) fun x86=>
 some (0,x86,(0,0,0,0,0,0,0))
theorem mG (k:Nat) (v0:List Int):xC (k+2) none 63 [.ro (List.map (aF .i64) v0)]=ob (gV v0) fun r=>some ((.agg [.lit (.int .i64 r.1),.ro (List.map (aF .i64) r.2.1),.lit (.int .i64 r.2.2.1),.lit (.int .i64 r.2.2.2.1),.lit (.int .i64 r.2.2.2.2.1),.lit (.int .u64 r.2.2.2.2.2.1),.lit (.int .u64 r.2.2.2.2.2.2.1),.lit (.int .u64 r.2.2.2.2.2.2.2.1),.lit (.int .i64 r.2.2.2.2.2.2.2.2)]),[]):=by
 rw [aH]
 unfold gV
 simp (maxSteps:=2000000) -implicitDefEqProofs only [ahc,ags,↓syP,syA,syD,simprocAttr,syE,ah,ag,ae,syW,xQ]
 all_goals simp -implicitDefEqProofs only [List.map_nil]
end Go.Ab
set_option maxRecDepth 100000
set_option linter.unusedVariables false
set_option linter.unusedSimpArgs false
namespace Go.Ab
open Go.Proofs
def wE {β:Type} (k:Nat) (c:Int×Int×Int×Int) (m:List Int) (f:Int×Int×Int×Int×Int×Int×Int) (K:List Int×(Int×Int×Int×Int×Int×Int×Int)→Option β):Option β:=
 (bif f.1==0 then (bif f.1==0 then ob (eI (k+31) c m f) K else (bif f.1==3 then (bif f.1==3 then ob (bt c m f) K else ob (co (k+40) c m f) K) else (bif f.1==4 then ob (bt c m f) K else ob (co (k+40) c m f) K))) else (bif f.1==1 then (bif f.1==1 then ob (eI (k+31) c m f) K else (bif f.1==3 then (bif f.1==3 then ob (bt c m f) K else ob (co (k+40) c m f) K) else (bif f.1==4 then ob (bt c m f) K else ob (co (k+40) c m f) K))) else (bif f.1==2 then ob (eI (k+31) c m f) K else (bif f.1==3 then (bif f.1==3 then ob (bt c m f) K else ob (co (k+40) c m f) K) else (bif f.1==4 then ob (bt c m f) K else ob (co (k+40) c m f) K)))))
def gA (k : Nat) (v0 : (Int × Int × Int × Int)) (v1 : (List (Int × List Int))) (v2 : (List Int)) (v3 : Int) (v4 : (Int × List (Int × Int × Int) × (Int × Int × Int × Int × Int × Int × Int) × Int × Int)) (v5 : Int) : Option ((List Int) × (Int × List (Int × Int × Int) × (Int × Int × Int × Int × Int × Int × Int) × Int × Int) × (List (Int × Int × Int))) :=
 ob (aL 8 v2) fun x470 =>
 ob (aL 24 v4.2.1) fun x471 =>
 ob (i7 (k + 35) v0 v1 v2 v3 v4) fun x472 =>
 bif !x472 then
 some (x470,(v4.1,x471,v4.2.2),[])
 else
 bif v4.1 == 0 then
 wE k v0 x470 v4.2.2.1 fun x473 =>
 ob (aK x473.2) fun x474 =>
 bif !x474 then
 some (x473.1,(v4.1,x471,x473.2,v4.2.2.2),[])
 else
 bif x473.2.2.2.2.2.2.2 != 1 then
 some (x473.1,(1,x471,(0,0,0,0,0,0,0),v4.2.2.2),[])
 else
 ob (dv (k + 36) v1 x471 (IntKind.i64.wrap x473.2.2.2.2.1)) fun x475 =>
 bif room 1 24 then
 some (x473.1,(9,x475,(0,0,0,0,0,0,0),v4.2.2.2),([(2,IntKind.i64.wrap x473.2.2.2.2.1,v3)]))
 else
 none
 else
 bif v4.1 == 1 then
 ob (dk x470 1 1) fun x518 =>
 ob (aJ 4 v3 0) fun x519 =>
 some (x518.1,(2,x471,x519,v0.2.2.2,v4.2.2.2.2),[])
 else
 bif v4.1 == 2 then
 ob (eV v5 v3 v0.1) fun x520 =>
 wE k v0 x470 v4.2.2.1 fun x521 =>
 ob (aK x521.2) fun x522 =>
 bif !x522 then
 some (x521.1,(v4.1,x471,x521.2,v4.2.2.2),[])
 else
 bif x521.2.2.2.2.2.2.2 == 1 then
 some (x521.1,(4,x471,x521.2,v4.2.2.2),[])
 else
 bif v4.1 == 2 then
 bif decide (0 ≤ x520) then
 ob (aJ 2 x520 0) fun x523 =>
 some (x521.1,(3,x471,x523,v4.2.2.2),[])
 else
 bif decide (v4.2.2.2.1 ≤ 0) then
 ob (aJ 5 v3 0) fun x524 =>
 some (x521.1,(5,x471,x524,v4.2.2.2),[])
 else
 ob (aJ 4 v3 0) fun x525 =>
 some (x521.1,(2,x471,x525,(IntKind.i64.wrap (v4.2.2.2.1 - 1)),v4.2.2.2.2),[])
 else
 bif decide (v4.2.2.2.1 ≤ 0) then
 ob (aJ 5 v3 0) fun x526 =>
 some (x521.1,(5,x471,x526,v4.2.2.2),[])
 else
 ob (aJ 4 v3 0) fun x527 =>
 some (x521.1,(2,x471,x527,(IntKind.i64.wrap (v4.2.2.2.1 - 1)),v4.2.2.2.2),[])
 else
 bif v4.1 == 3 then
 ob (eV v5 v3 v0.1) fun x626 =>
 wE k v0 x470 v4.2.2.1 fun x627 =>
 ob (aK x627.2) fun x628 =>
 bif !x628 then
 some (x627.1,(v4.1,x471,x627.2,v4.2.2.2),[])
 else
 bif x627.2.2.2.2.2.2.2 == 1 then
 some (x627.1,(4,x471,x627.2,v4.2.2.2),[])
 else
 bif v4.1 == 2 then
 bif decide (0 ≤ x626) then
 ob (aJ 2 x626 0) fun x629 =>
 some (x627.1,(3,x471,x629,v4.2.2.2),[])
 else
 bif decide (v4.2.2.2.1 ≤ 0) then
 ob (aJ 5 v3 0) fun x630 =>
 some (x627.1,(5,x471,x630,v4.2.2.2),[])
 else
 ob (aJ 4 v3 0) fun x631 =>
 some (x627.1,(2,x471,x631,(IntKind.i64.wrap (v4.2.2.2.1 - 1)),v4.2.2.2.2),[])
 else
 bif decide (v4.2.2.2.1 ≤ 0) then
 ob (aJ 5 v3 0) fun x632 =>
 some (x627.1,(5,x471,x632,v4.2.2.2),[])
 else
 ob (aJ 4 v3 0) fun x633 =>
 some (x627.1,(2,x471,x633,(IntKind.i64.wrap (v4.2.2.2.1 - 1)),v4.2.2.2.2),[])
 else
 bif v4.1 == 4 then
 ob (dk x470 1 18446744073709551615) fun x732 =>
 bif x732.2 == 1 then
 ob (aJ 6 v3 0) fun x733 =>
 ob (dv (k + 36) v1 x471 (IntKind.i64.wrap v4.2.2.1.2.2.2.1)) fun x734 =>
 bif room 1 24 then
 some (x732.1,(14,x734,x733,v4.2.2.2),([(2,IntKind.i64.wrap v4.2.2.1.2.2.2.1,v3)]))
 else
 none
 else
 ob (dv (k + 36) v1 x471 (IntKind.i64.wrap v4.2.2.1.2.2.2.1)) fun x735 =>
 bif room 1 24 then
 some (x732.1,(9,x735,(0,0,0,0,0,0,0),v4.2.2.2),([(2,IntKind.i64.wrap v4.2.2.1.2.2.2.1,v3)]))
 else
 none
 else
 bif v4.1 == 5 then
 wE k v0 x470 v4.2.2.1 fun x736 =>
 ob (aK x736.2) fun x737 =>
 some (x736.1,(6,x471,x736.2,v4.2.2.2),[])
 else
 bif v4.1 == 6 then
 ob (dk x470 1 18446744073709551615) fun x766 =>
 some (x766.1,(7,x471,v4.2.2.1,v4.2.2.2.1,0),[])
 else
 bif v4.1 == 7 then
 bif decide (v4.2.2.2.2 < 0) then
 some (x470,(8,x471,(v4.2.2.1.1,v4.2.2.1.2.1,v4.2.2.1.2.2.1,0,v4.2.2.1.2.2.2.2),v4.2.2.2.1,0),[])
 else
 bif decide (IntKind.i64.wrap (2 + IntKind.i64.wrap (2 * v0.1)) ≤ v4.2.2.2.2) then
 some (x470,(8,x471,(v4.2.2.1.1,v4.2.2.1.2.1,v4.2.2.1.2.2.1,0,v4.2.2.1.2.2.2.2),v4.2.2.2.1,0),[])
 else
 bif v4.2.2.2.2 == 0 then
 ob (aI x470 4) fun x767 =>
 bif IntKind.i64.wrap (v4.2.2.2.2 + 1) == IntKind.i64.wrap (2 + IntKind.i64.wrap (2 * v0.1)) then
 some (x470,(8,x471,(v4.2.2.1.1,v4.2.2.1.2.1,v4.2.2.1.2.2.1,0,v4.2.2.1.2.2.2.2),v4.2.2.2.1,0),[])
 else
 some (x470,(v4.1,x471,(v4.2.2.1.1,v4.2.2.1.2.1,v4.2.2.1.2.2.1,x767,v4.2.2.1.2.2.2.2),v4.2.2.2.1,(IntKind.i64.wrap (v4.2.2.2.2 + 1))),[])
 else
 bif v4.2.2.2.2 == 1 then
 ob (aI x470 5) fun x768 =>
 bif x768 != v4.2.2.1.2.2.2.1 then
 some (x470,(1,x471,(0,0,0,0,0,0,0),v4.2.2.2),[])
 else
 bif IntKind.i64.wrap (v4.2.2.2.2 + 1) == IntKind.i64.wrap (2 + IntKind.i64.wrap (2 * v0.1)) then
 some (x470,(8,x471,(v4.2.2.1.1,v4.2.2.1.2.1,v4.2.2.1.2.2.1,0,v4.2.2.1.2.2.2.2),v4.2.2.2.1,0),[])
 else
 some (x470,(v4.1,x471,v4.2.2.1,v4.2.2.2.1,(IntKind.i64.wrap (v4.2.2.2.2 + 1))),[])
 else
 bif v4.2.2.2.2.tmod 2 == 0 then
 ob (gX v0 (IntKind.i64.wrap ((IntKind.i64.wrap (v4.2.2.2.2 - 2)).tdiv 2))) fun x769 =>
 ob (aI x470 x769) fun x770 =>
 bif IntKind.i64.wrap (v4.2.2.2.2 + 1) == IntKind.i64.wrap (2 + IntKind.i64.wrap (2 * v0.1)) then
 some (x470,(8,x471,(v4.2.2.1.1,v4.2.2.1.2.1,v4.2.2.1.2.2.1,0,v4.2.2.1.2.2.2.2),v4.2.2.2.1,0),[])
 else
 some (x470,(v4.1,x471,(v4.2.2.1.1,v4.2.2.1.2.1,v4.2.2.1.2.2.1,x770,v4.2.2.1.2.2.2.2),v4.2.2.2.1,(IntKind.i64.wrap (v4.2.2.2.2 + 1))),[])
 else
 ob (dq v0 (IntKind.i64.wrap ((IntKind.i64.wrap (v4.2.2.2.2 - 2)).tdiv 2))) fun x771 =>
 ob (aI x470 x771) fun x772 =>
 ob (fe x772 v4.2.2.1.2.2.2.1) fun x773 =>
 bif decide (0 < x773) then
 some (x470,(1,x471,(0,0,0,0,0,0,0),v4.2.2.2),[])
 else
 bif IntKind.i64.wrap (v4.2.2.2.2 + 1) == IntKind.i64.wrap (2 + IntKind.i64.wrap (2 * v0.1)) then
 some (x470,(8,x471,(v4.2.2.1.1,v4.2.2.1.2.1,v4.2.2.1.2.2.1,0,v4.2.2.1.2.2.2.2),v4.2.2.2.1,0),[])
 else
 some (x470,(v4.1,x471,v4.2.2.1,v4.2.2.2.1,(IntKind.i64.wrap (v4.2.2.2.2 + 1))),[])
 else
 bif v4.1 == 8 then
 wE k v0 x470 v4.2.2.1 fun x774 =>
 ob (aK x774.2) fun x775 =>
 bif x775 then
 some (x774.1,(1,x471,(0,0,0,0,0,0,0),v4.2.2.2),[])
 else
 some (x774.1,(v4.1,x471,x774.2,v4.2.2.2),[])
 else
 bif v4.1 == 9 then
 ob (dU (k + 37) v1 x471) fun x804 =>
 bif x804.1 == 1 then
 ob (fW (k + 36) v1 x471) fun x805 =>
 some (x470,(v4.1,x805,v4.2.2),[])
 else
 bif x804.1 == 2 then
 some (x470,(10,x471,v4.2.2),[])
 else
 bif x804.1 == 3 then
 some (x470,(15,x471,v4.2.2),[])
 else
 ob (aJ 1 v3 0) fun x806 =>
 some (x470,(0,x471,x806,v4.2.2.2),[])
 else
 bif v4.1 == 10 then
 ob (dU (k + 37) v1 x471) fun x807 =>
 bif x807.1 != 2 then
 some (x470,(9,x471,(0,0,0,0,0,0,0),v4.2.2.2),[])
 else
 ob (dk x470 0 1) fun x808 =>
 bif room 1 24 then
 ob (fW (k + 36) v1 x471) fun x809 =>
 ob (aJ 0 v3 (IntKind.u64.wrap x807.2)) fun x810 =>
 some (x808.1,(11,x809,x810,v4.2.2.2),([(3,x807.2,v3)]))
 else
 none
 else
 bif v4.1 == 11 then
 wE k v0 x470 v4.2.2.1 fun x811 =>
 ob (aK x811.2) fun x812 =>
 bif !x812 then
 some (x811.1,(v4.1,x471,x811.2,v4.2.2.2),[])
 else
 bif x811.2.2.2.2.2.2.2 == 2 then
 ob (aJ 3 v3 x811.2.2.2.2.1) fun x813 =>
 some (x811.1,(12,x471,x813,v4.2.2.2),[])
 else
 some (x811.1,(13,x471,(0,0,0,0,0,0,0),v4.2.2.2),[])
 else
 bif v4.1 == 12 then
 wE k v0 x470 v4.2.2.1 fun x856 =>
 ob (aK x856.2) fun x857 =>
 bif !x857 then
 some (x856.1,(v4.1,x471,x856.2,v4.2.2.2),[])
 else
 bif x856.2.2.2.2.2.2.2 == 2 then
 ob (dv (k + 36) v1 x471 (IntKind.i64.wrap x856.2.2.2.2.1)) fun x858 =>
 bif room 1 24 then
 some (x856.1,(9,x858,(0,0,0,0,0,0,0),v4.2.2.2),([(2,IntKind.i64.wrap x856.2.2.2.2.1,v3)]))
 else
 none
 else
 some (x856.1,(13,x471,(0,0,0,0,0,0,0),v4.2.2.2),[])
 else
 bif v4.1 == 13 then
 ob (aI x470 1) fun x901 =>
 bif x901 == 0 then
 ob (aJ 6 v3 0) fun x902 =>
 some (x470,(14,x471,x902,v4.2.2.2),[])
 else
 some (x470,(9,x471,(0,0,0,0,0,0,0),v4.2.2.2),[])
 else
 bif v4.1 == 14 then
 wE k v0 x470 v4.2.2.1 fun x903 =>
 ob (aK x903.2) fun x904 =>
 bif x904 then
 some (x903.1,(9,x471,(0,0,0,0,0,0,0),v4.2.2.2),[])
 else
 some (x903.1,(v4.1,x471,x903.2,v4.2.2.2),[])
 else
 bif v4.1 == 15 then
 ob (dU (k + 37) v1 x471) fun x933 =>
 bif x933.1 != 3 then
 some (x470,(9,x471,(0,0,0,0,0,0,0),v4.2.2.2),[])
 else
 ob (dk x470 0 18446744073709551615) fun x934 =>
 bif room 1 24 then
 bif x934.2 == 1 then
 bif room 2 24 then
 ob (fW (k + 36) v1 x471) fun x935 =>
 bif (↑x935.length : Int) == 0 then
 ob (aJ 1 v3 0) fun x936 =>
 some (x934.1,(0,x935,x936,v4.2.2.2),([(4,x933.2,v3),(5,0,v3)]))
 else
 some (x934.1,(9,x935,(0,0,0,0,0,0,0),v4.2.2.2),([(4,x933.2,v3),(5,0,v3)]))
 else
 none
 else
 ob (fW (k + 36) v1 x471) fun x937 =>
 bif (↑x937.length : Int) == 0 then
 ob (aJ 1 v3 0) fun x938 =>
 some (x934.1,(0,x937,x938,v4.2.2.2),([(4,x933.2,v3)]))
 else
 some (x934.1,(9,x937,(0,0,0,0,0,0,0),v4.2.2.2),([(4,x933.2,v3)]))
 else
 none
 else
 none
theorem u4 (k : Nat) (v0_0 v0_1 v0_2 v0_3 : Int) (v1 : List (Int × List Int)) (v2 : List Int) (v3 v4_0 : Int) (v4_1 : List (Int × Int × Int)) (v4_2_0 v4_2_1 v4_2_2 v4_2_3 v4_2_4 v4_2_5 v4_2_6 v4_3 v4_4 v5 : Int) : xC (k + 60) none 83 [.agg [.lit (.int .i64 v0_0),.lit (.int .i64 v0_1),.lit (.int .i64 v0_2),.lit (.int .i64 v0_3)],.ro (List.map an v1),.ro (List.map (aF .u64) v2),.lit (.int .i64 v3),.agg [.lit (.int .i64 v4_0),.ro (List.map aD v4_1),.lit (.int .i64 v4_2_0),.lit (.int .i64 v4_2_1),.lit (.int .i64 v4_2_2),.lit (.int .u64 v4_2_3),.lit (.int .u64 v4_2_4),.lit (.int .u64 v4_2_5),.lit (.int .i64 v4_2_6),.lit (.int .i64 v4_3),.lit (.int .i64 v4_4)],.lit (.int .u64 v5)] = ob (gA k (v0_0,v0_1,v0_2,v0_3) v1 v2 v3 (v4_0,v4_1,(v4_2_0,v4_2_1,v4_2_2,v4_2_3,v4_2_4,v4_2_5,v4_2_6),v4_3,v4_4) v5) fun r => some ((.tup [.ro (List.map (aF .u64) r.1),.agg [.lit (.int .i64 r.2.1.1),.ro (List.map aD r.2.1.2.1),.lit (.int .i64 r.2.1.2.2.1.1),.lit (.int .i64 r.2.1.2.2.1.2.1),.lit (.int .i64 r.2.1.2.2.1.2.2.1),.lit (.int .u64 r.2.1.2.2.1.2.2.2.1),.lit (.int .u64 r.2.1.2.2.1.2.2.2.2.1),.lit (.int .u64 r.2.1.2.2.1.2.2.2.2.2.1),.lit (.int .i64 r.2.1.2.2.1.2.2.2.2.2.2),.lit (.int .i64 r.2.1.2.2.2.1),.lit (.int .i64 r.2.1.2.2.2.2)],.ro (List.map aD r.2.2)]),[]) := by
  rw [aH]
  unfold gA wE
  simp (maxSteps := 2000000) -implicitDefEqProofs only [ahA,agH,adB,Xw,aez,Zm,adq,XJ,Mq,w6,af9,X2,Me,uy,adn,YO,afn,abz,ac8,Yl,LH,Mw,wd,uJ,afA,aae,ack,abP,acG,aan,adE,YY,afq,Ys,aeA,aaF,adV,aaR,aeC,aau,JS,uG,afR,XC,Kp,JK,u6,wa,adR,aaX,agf,abT,aeU,ZH,afb,abw,acD,ZI,↓syP,syA,syD,simprocAttr,syE,ah,ag,ae,syW,xQ,da,AC,lT,eG,mz,gP,lH,BN,ry,oY,Dj,rP,Ih,AX,Ar]
  all_goals simp -implicitDefEqProofs only [List.map_nil]
end Go.Ab
