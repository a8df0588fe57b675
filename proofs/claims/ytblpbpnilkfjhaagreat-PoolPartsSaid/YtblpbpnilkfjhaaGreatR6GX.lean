import Derived.Test.YtblpbpnilkfjhaaGreatR6Run
import Derived.Test.YtblpbpnilkfjhaaGreatR6Facts
import Derived.Test.YtblpbpnilkfjhaaGreatR6Man
import Derived.Test.YtblpbpnilkfjhaaGreatR6BY
import Derived.Test.YtblpbpnilkfjhaaGreatR6BX
import Derived.Test.YtblpbpnilkfjhaaGreatR6B3
import Derived.Test.YtblpbpnilkfjhaaGreatR6B4
import Derived.Test.YtblpbpnilkfjhaaGreatR6B5
import Derived.Test.YtblpbpnilkfjhaaGreatR6BW
set_option linter.unusedVariables false
set_option linter.unusedSimpArgs false
set_option maxRecDepth 100000
set_option linter.unusedVariables false
set_option linter.unusedSimpArgs false
namespace Go.Ab
open Go.Proofs
def bo (k:Nat) (v0:Tyt)  : Nat→Int→Option Bool
 | 0,_=>none
 | n+1,s3=>
 bif decide (s3<(↑v0.length:Int)) then
 bif decide (s3≤(40:Int)) then
 ob (idx v0 s3) fun x6=>
 bif decide ((40:Int)<(↑x6.2.length:Int)) then
 some (false)
 else
 bo k v0  n (IntKind.i64.wrap (s3+(1:Int)))
 else
 some (decide ((↑v0.length:Int)≤(40:Int)))
 else
 some (decide ((↑v0.length:Int)≤(40:Int)))
theorem iM (k:Nat) (v0:Tyt):∀ (n:Nat) (s3:Int),rt none (itX (xX (xS k) 21 0 k false) oh (0) (au (xX (xS k) 21 0 k false) (av (xS k).P Tryz.f21) ED) n ⟨[.ro (List.map aA v0),uu,.lit (.bool false),.lit (.int .i64 s3),.junk,.junk,.junk,.junk,.junk,.junk,.junk,.junk,.junk,.junk,.junk,.junk,.junk,.junk,.junk,.junk,.junk,uu,uu,uu],[]⟩)=ob (bo k v0  n s3) fun r=>some ((.lit (.bool r)),[]):=by
 intro n
 induction n with
 | zero=>intros;rfl
 | succ n ih=>
  intro s3
  rw [bo]
  simp (maxSteps:=2000000) -implicitDefEqProofs only [aeg,aaK,abP,Jj,Kg,nC,nI,↓syP,syA,syD,simprocAttr,syE,ah,ag,af,syW,xQ,PG,ih]
  all_goals simp -implicitDefEqProofs only [List.map_nil]
def cS (k:Nat) (v0:Tyt):Option Bool:=
 bo k v0 k 0
theorem eR (k:Nat) (v0:Tyt):xC (k+1) none 21 [.ro (List.map aA v0)]=ob (cS k v0) fun r=>some ((.lit (.bool r)),[]):=by
 rw [aN]
 unfold cS
 simp (maxSteps:=2000000) -implicitDefEqProofs only [aeg,aaK,abP,Jj,Kg,nC,nI,↓syP,syA,syD,simprocAttr,syE,ah,ag,af,syW,xQ,iM k v0]
 all_goals simp -implicitDefEqProofs only [List.map_nil]
def eu (v0:(Int×List Int)):Option Bool:=
 bif decide (v0.1<0) then
 some true
 else
 some (decide (20<v0.1))
theorem rR (k:Nat) (v0_0:Int) (v0_1:List Int):xC (k+1) none 99 [.agg [.lit (.int .i64 v0_0),.ro (List.map (aQ .i64) v0_1)]]=ob (eu (v0_0,v0_1)) fun r=>some ((.lit (.bool r)),[]):=by
 rw [aN]
 unfold eu
 simp (maxSteps:=2000000) -implicitDefEqProofs only [ZU,X8,AI,iq,↓syP,syA,syD,simprocAttr,syE,ah,ag,af,syW,xQ]
 all_goals simp -implicitDefEqProofs only [List.map_nil]
def az (k:Nat) (v0:Tyt)  : Nat→Int→Option Int
 | 0,_=>none
 | n+1,s12=>
 bif decide (s12<(↑v0.length:Int)) then
 ob (idx v0 s12) fun x17=>
 ob (eu (x17.1,x17.2)) fun x18=>
 bif x18 then
 some (s12)
 else
 az k v0  n (IntKind.i64.wrap (s12+(1:Int)))
 else
 some ((-1:Int))
theorem de (k:Nat) (v0:Tyt):∀ (n:Nat) (s12:Int) ⦃j11:V⦄,rt none (itX (xX (xS (k+8)) 147 0 (k+8) false) xn (0) (au (xX (xS (k+8)) 147 0 (k+8) false) (av (xS (k+8)).P Tryz.f147) xi) n ⟨[.ro (List.map aA v0),.fn (Fn.func (99:FuncId)) [] [],uu,uu,.lit (.int .i64 (0:Int)),j11,.ro (List.map aA v0),.lit (.int .i64 (↑v0.length:Int)),.lit (.int .i64 s12),.junk,.junk,.junk,.junk,.junk,.junk,.junk,.junk,.junk,.junk],[]⟩)=ob (az k v0  n s12) fun r=>some ((.lit (.int .i64 r)),[]):=by
 intro n
 induction n with
 | zero=>intros;rfl
 | succ n ih=>
  intro s12 j11
  rw [az]
  simp (maxSteps:=2000000) -implicitDefEqProofs only [FT,CU,Ds,lZ,eA,↓syP,syA,syD,simprocAttr,syE,ah,ag,af,syW,xQ,rR,Is,ih]
  all_goals simp -implicitDefEqProofs only [List.map_nil]
def aZ (k:Nat) (v0:Tyt):Option Int:=
 az k v0 (k+8) 0
theorem dU (k:Nat) (v0:Tyt):xC (k+9) none 147 [.ro (List.map aA v0),.fn (Fn.func (99:FuncId)) [] []]=ob (aZ k v0) fun r=>some ((.lit (.int .i64 r)),[]):=by
 rw [aN]
 unfold aZ
 simp (maxSteps:=2000000) -implicitDefEqProofs only [FT,CU,Ds,lZ,eA,↓syP,syA,syD,simprocAttr,syE,ah,ag,af,syW,xQ,de k v0]
 all_goals simp -implicitDefEqProofs only [List.map_nil]
def aI (k:Nat) (v0:Tyt):Option Bool:=
 ob (aZ (k+8) v0) fun x20=>
 some (decide (0≤x20))
theorem bg (k:Nat) (v0:Tyt):xC (k+18) none 98 [.ro (List.map aA v0),.fn (Fn.func (99:FuncId)) [] []]=ob (aI k v0) fun r=>some ((.lit (.bool r)),[]):=by
 rw [aN]
 unfold aI
 simp (maxSteps:=2000000) -implicitDefEqProofs only [Zn,U4,FT,CU,Ds,lZ,eA,↓syP,syA,syD,simprocAttr,syE,ah,ag,af,syW,xQ,dU]
 all_goals simp -implicitDefEqProofs only [List.map_nil]
def cy (k:Nat) (v0:Tyt) (o0:Int→List Bool→Option Bool):Nat→List Int→Int→Int→List Bool→Int→Option Bool
 | 0,_,_,_,_,_=>none
 | n+1,s29,s30,s38,s39,s48=>
 bif decide (s38<s30) then
 ob (idx s29 s38) fun x62=>
 bif decide (x62≤s48) then
 some (false)
 else
 bif decide ((↑v0.length:Int)≤x62) then
 some (false)
 else
 bif decide ((0:Int)≤x62∧x62.toNat<v0.length) then
 ob (s39[x62.toNat]?) fun x63=>
 bif x63 then
 some (false)
 else
 bif decide ((0:Int)≤x62∧x62.toNat<v0.length) then
 ob (s39[x62.toNat]?) fun x64=>
 cy k v0 o0 n (s29) (s30) (IntKind.i64.wrap (s38+(1:Int))) (s39.set x62.toNat true) (s48)
 else
 none
 else
 none
 else
 o0 (IntKind.i64.wrap (s48+(1:Int))) (s39)
theorem mC (k:Nat) (v0:Tyt) (n23:Nat) (o0:Int→List Bool→Option Bool) (ho0:∀ (s42:Int) (s51:List Bool) ⦃s24:Bool⦄ ⦃j40 j41 j50:V⦄,rt none (bq (itX (xX (xS (k+17)) 148 0 (k+17) false) kP (7) (au (xX (xS (k+17)) 148 0 (k+17) false) (av (xS (k+17)).P Tryz.f148) nj) n23 ⟨[.yld 6,.ptr 5 0 0 0,uu,j40,j41,uu,j50,.ro (List.map aA v0),.lit (.int .i64 (↑v0.length:Int)),.lit (.int .i64 s42),.junk,.junk,.junk,.junk,.junk,.junk,.junk,.junk,.junk,.junk,.junk,.junk,.junk,.junk,.junk,.junk,.junk,.junk],[.box [.ro (List.map aA v0)],.box [.lit (.bool false)],.rows 1 (List.map kS s51) 0 true,.rows 0 [] 0 true,.box [.own 2 0 v0.length],.box [.ro (List.map aA v0)],(.loop ⟨LoopState.ready,none,56,[.ro (List.map aA v0),.ptr 0 0 0 0,.ptr 1 0 0 0,.ptr 4 0 0 0,uu,uu,.ro (List.map aA v0),.lit (.int .i64 (↑v0.length:Int)),.lit (.bool (decide ((30:Int)<(↑v0.length:Int)))),.lit (.bool false),.ro (List.map aA v0),.lit (.bool s24),.lit (.bool s24),.ro (List.map aA v0),.lit (.int .i64 (↑v0.length:Int)),.own 2 0 v0.length,.ro (List.map aA v0),.fn (Fn.func (148:FuncId)) [] [.ptr 5 0 0 0],uu,uu,uu,uu,uu,uu,uu,uu,uu,uu,uu,uu,uu,uu,uu,uu,uu,uu,uu,uu],[(18:Tmp),(19:Tmp)],AR,xy⟩)]⟩) (rfK (au (xX (xS (k+18)) 56 0 (k+18) false) (av (xS (k+18)).P Tryz.f56) r8) [.ro (List.map aA v0),.ptr 0 0 0 0,.ptr 1 0 0 0,.ptr 4 0 0 0,uu,uu,.ro (List.map aA v0),.lit (.int .i64 (↑v0.length:Int)),.lit (.bool (decide ((30:Int)<(↑v0.length:Int)))),.lit (.bool false),.ro (List.map aA v0),.lit (.bool s24),.lit (.bool s24),.ro (List.map aA v0),.lit (.int .i64 (↑v0.length:Int)),.own 2 0 v0.length,.ro (List.map aA v0),.fn (Fn.func (148:FuncId)) [] [.ptr 5 0 0 0],uu,uu,uu,uu,uu,uu,uu,uu,uu,uu,uu,uu,uu,uu,uu,uu,uu,uu,uu,uu] (6)))=ob (o0 s42 s51) fun r=>some ((.lit (.bool r)),[])):∀ (n:Nat) (s29:List Int) (s30:Int) (s38:Int) (s39:List Bool) (s48:Int) ⦃s28:Int⦄ ⦃s31:Bool⦄ ⦃s49:Bool⦄ ⦃j37:V⦄,rt none (bq (itX (xX (xS (k+17)) 148 0 (k+17) false) wb (9) (au (xX (xS (k+17)) 148 0 (k+17) false) (eD (xX (xS (k+17)) 148 0 (k+17) false) kP 7 (au (xX (xS (k+17)) 148 0 (k+17) false) (av (xS (k+17)).P Tryz.f148) nj) n23) we) n ⟨[.yld 6,.ptr 5 0 0 0,uu,.lit (.int .i64 s48),.ptr 8 0 0 0,uu,j37,.ro (List.map aA v0),.lit (.int .i64 (↑v0.length:Int)),.lit (.int .i64 s48),.lit (.bool s49),.lit (.int .i64 s48),.rp [.lit (.int .i64 s28),.ro (List.map (aQ IntKind.i64) s29)],.agg [.lit (.int .i64 s28),.ro (List.map (aQ IntKind.i64) s29)],.ptr 8 0 0 1,.ro (List.map (aQ IntKind.i64) s29),.lit (.int .i64 s30),.lit (.int .i64 s38),.junk,.junk,.junk,.junk,.junk,.junk,.junk,.junk,.junk,.junk],[.box [.ro (List.map aA v0)],.box [.lit (.bool false)],.rows 1 (List.map kS s39) 0 true,.rows 0 [] 0 true,.box [.own 2 0 v0.length],.box [.ro (List.map aA v0)],(.loop ⟨LoopState.ready,none,56,[.ro (List.map aA v0),.ptr 0 0 0 0,.ptr 1 0 0 0,.ptr 4 0 0 0,uu,uu,.ro (List.map aA v0),.lit (.int .i64 (↑v0.length:Int)),.lit (.bool (decide ((30:Int)<(↑v0.length:Int)))),.lit (.bool false),.ro (List.map aA v0),.lit (.bool s31),.lit (.bool s31),.ro (List.map aA v0),.lit (.int .i64 (↑v0.length:Int)),.own 2 0 v0.length,.ro (List.map aA v0),.fn (Fn.func (148:FuncId)) [] [.ptr 5 0 0 0],uu,uu,uu,uu,uu,uu,uu,uu,uu,uu,uu,uu,uu,uu,uu,uu,uu,uu,uu,uu],[(18:Tmp),(19:Tmp)],AR,xy⟩),.rows 0 [] 0 true,.box [.lit (.int .i64 s28),.ro (List.map (aQ IntKind.i64) s29)]]⟩) (rfK (au (xX (xS (k+18)) 56 0 (k+18) false) (av (xS (k+18)).P Tryz.f56) r8) [.ro (List.map aA v0),.ptr 0 0 0 0,.ptr 1 0 0 0,.ptr 4 0 0 0,uu,uu,.ro (List.map aA v0),.lit (.int .i64 (↑v0.length:Int)),.lit (.bool (decide ((30:Int)<(↑v0.length:Int)))),.lit (.bool false),.ro (List.map aA v0),.lit (.bool s31),.lit (.bool s31),.ro (List.map aA v0),.lit (.int .i64 (↑v0.length:Int)),.own 2 0 v0.length,.ro (List.map aA v0),.fn (Fn.func (148:FuncId)) [] [.ptr 5 0 0 0],uu,uu,uu,uu,uu,uu,uu,uu,uu,uu,uu,uu,uu,uu,uu,uu,uu,uu,uu,uu] (6)))=ob (cy k v0 o0 n s29 s30 s38 s39 s48) fun r=>some ((.lit (.bool r)),[]):=by
 intro n
 induction n with
 | zero=>intros;rfl
 | succ n ih=>
  intro s29 s30 s38 s39 s48 s28 s31 s49 j37
  rw [cy]
  simp (maxSteps:=2000000) -implicitDefEqProofs only [acE,Zw,ZB,E4,Fc,dG,dJ,DM,Eo,lj,li,lE,rk,Zn,U4,ZU,X8,AI,iq,Qd,NH,aN (g:=100),FT,CU,Ds,lZ,eA,SQ,NG,NZ,w7,xo,kc,ke,↓syP,syA,syD,simprocAttr,syE,ah,ag,af,syW,xQ,bg,Hm,ih,ho0]
  all_goals simp -implicitDefEqProofs only [List.map_nil]
def bL (k:Nat) (v0:Tyt)  : Nat→Int→List Bool→Option Bool
 | 0,_,_=>none
 | n+1,s42,s51=>
 bif decide (s42<(↑v0.length:Int)) then
 ob (idx v0 s42) fun x58=>
 cy k v0 (fun s42 s51=>bL k v0  n s42 s51) (k+17) (x58.2) ((↑x58.2.length:Int)) ((0:Int)) (s51) (s42)
 else
 some (true)
theorem mv (k:Nat) (v0:Tyt):∀ (n:Nat) (s42:Int) (s51:List Bool) ⦃s24:Bool⦄ ⦃j40 j41 j50:V⦄,rt none (bq (itX (xX (xS (k+17)) 148 0 (k+17) false) kP (7) (au (xX (xS (k+17)) 148 0 (k+17) false) (av (xS (k+17)).P Tryz.f148) nj) n ⟨[.yld 6,.ptr 5 0 0 0,uu,j40,j41,uu,j50,.ro (List.map aA v0),.lit (.int .i64 (↑v0.length:Int)),.lit (.int .i64 s42),.junk,.junk,.junk,.junk,.junk,.junk,.junk,.junk,.junk,.junk,.junk,.junk,.junk,.junk,.junk,.junk,.junk,.junk],[.box [.ro (List.map aA v0)],.box [.lit (.bool false)],.rows 1 (List.map kS s51) 0 true,.rows 0 [] 0 true,.box [.own 2 0 v0.length],.box [.ro (List.map aA v0)],(.loop ⟨LoopState.ready,none,56,[.ro (List.map aA v0),.ptr 0 0 0 0,.ptr 1 0 0 0,.ptr 4 0 0 0,uu,uu,.ro (List.map aA v0),.lit (.int .i64 (↑v0.length:Int)),.lit (.bool (decide ((30:Int)<(↑v0.length:Int)))),.lit (.bool false),.ro (List.map aA v0),.lit (.bool s24),.lit (.bool s24),.ro (List.map aA v0),.lit (.int .i64 (↑v0.length:Int)),.own 2 0 v0.length,.ro (List.map aA v0),.fn (Fn.func (148:FuncId)) [] [.ptr 5 0 0 0],uu,uu,uu,uu,uu,uu,uu,uu,uu,uu,uu,uu,uu,uu,uu,uu,uu,uu,uu,uu],[(18:Tmp),(19:Tmp)],AR,xy⟩)]⟩) (rfK (au (xX (xS (k+18)) 56 0 (k+18) false) (av (xS (k+18)).P Tryz.f56) r8) [.ro (List.map aA v0),.ptr 0 0 0 0,.ptr 1 0 0 0,.ptr 4 0 0 0,uu,uu,.ro (List.map aA v0),.lit (.int .i64 (↑v0.length:Int)),.lit (.bool (decide ((30:Int)<(↑v0.length:Int)))),.lit (.bool false),.ro (List.map aA v0),.lit (.bool s24),.lit (.bool s24),.ro (List.map aA v0),.lit (.int .i64 (↑v0.length:Int)),.own 2 0 v0.length,.ro (List.map aA v0),.fn (Fn.func (148:FuncId)) [] [.ptr 5 0 0 0],uu,uu,uu,uu,uu,uu,uu,uu,uu,uu,uu,uu,uu,uu,uu,uu,uu,uu,uu,uu] (6)))=ob (bL k v0  n s42 s51) fun r=>some ((.lit (.bool r)),[]):=by
 intro n
 induction n with
 | zero=>intros;rfl
 | succ n ih=>
  intro s42 s51 s24 j40 j41 j50
  rw [bL]
  simp (maxSteps:=2000000) -implicitDefEqProofs only [acE,Zw,ZB,E4,Fc,dG,dJ,DM,Eo,lj,li,lE,rk,Zn,U4,ZU,X8,AI,iq,Qd,NH,aN (g:=100),FT,CU,Ds,lZ,eA,SQ,NG,NZ,w7,xo,kc,ke,↓syP,syA,syD,simprocAttr,syE,ah,ag,af,syW,xQ,bg,Hl,ih,mC k v0 _ (fun s42 s51=>bL k v0  n s42 s51) ih]
  all_goals simp -implicitDefEqProofs only [List.map_nil]
def dQ (k:Nat) (v0:Tyt):Option Bool:=
 bif decide (30<(↑v0.length:Int)) then
 some false
 else
 ob (aI k v0) fun x65=>
 bif x65 then
 some false
 else
 bif decide (0≤(↑v0.length:Int)∧(↑v0.length:Int)≤9223372036854775807∧(↑v0.length:Int)*1≤70368744177664) then
 bL k v0 (k+17) 0 (List.replicate v0.length false)
 else
 none
theorem kU (k:Nat) (v0:Tyt):xC (k+19) none 56 [.ro (List.map aA v0)]=ob (dQ k v0) fun r=>some ((.lit (.bool r)),[]):=by
 rw [aN]
 unfold dQ
 simp (maxSteps:=2000000) -implicitDefEqProofs only [acE,Zw,ZB,E4,Fc,dG,dJ,DM,Eo,lj,li,lE,rk,Zn,U4,ZU,X8,AI,iq,Qd,NH,aN (g:=100),FT,CU,Ds,lZ,eA,SQ,NG,NZ,w7,xo,kc,ke,↓syP,syA,syD,simprocAttr,syE,ah,ag,af,syW,xQ,bg,mv k v0]
 all_goals simp -implicitDefEqProofs only [List.map_nil]
def bw (k : Nat) (v0 : (List Int)) (v1 : (List Int))  : Nat → Int → Option Bool
 | 0,_ => none
 | n + 1,s74 =>
 bif decide (s74 < (↑v0.length : Int)) then
 ob (idx v0 s74) fun x79 =>
 ob (idx v1 s74) fun x80 =>
 bif x79 != x80 then
 some (false)
 else
 bw k v0 v1  n (IntKind.i64.wrap (s74 + (1 : Int)))
 else
 some (true)
theorem i6 (k:Nat) (v0 v1:List Int):∀ (n:Nat) (s74:Int) ⦃j73:V⦄,rt none (itX (xX (xS k) 91 0 k false) D4 (0) (au (xX (xS k) 91 0 k false) (av (xS k).P Tryz.f91) DQ) n ⟨[.ro (List.map (aQ IntKind.i64) v0),.ro (List.map (aQ IntKind.i64) v1),uu,uu,.lit (.bool false),j73,.ro (List.map (aQ IntKind.i64) v0),.lit (.int .i64 (↑v0.length:Int)),.ro (List.map (aQ IntKind.i64) v1),.lit (.int .i64 (↑v1.length:Int)),.lit (.bool ((↑v0.length:Int)!=(↑v1.length:Int))),.ro (List.map (aQ IntKind.i64) v0),.lit (.int .i64 (↑v0.length:Int)),.lit (.int .i64 s74),.junk,.junk,.junk,.junk,.junk,.junk,.junk,.junk,.junk,.junk,.junk,.junk],[]⟩)=ob (bw k v0 v1  n s74) fun r=>some ((.lit (.bool r)),[]):=by
 intro n
 induction n with
 | zero=>intros;rfl
 | succ n ih=>
  intro s74 j73
  rw [bw]
  simp (maxSteps:=2000000) -implicitDefEqProofs only [adV,aaG,aao,IF,nk,↓syP,syA,syD,simprocAttr,syE,ah,ag,af,syW,xQ,OQ,ih]
  all_goals simp -implicitDefEqProofs only [List.map_nil]
def b8 (k:Nat) (v0:(List Int)) (v1:(List Int)):Option Bool:=
 bif (↑v0.length:Int)!=(↑v1.length:Int) then
 some false
 else
 bw k v0 v1 k 0
theorem ia (k:Nat) (v0 v1:List Int):xC (k+1) none 91 [.ro (List.map (aQ .i64) v0),.ro (List.map (aQ .i64) v1)]=ob (b8 k v0 v1) fun r=>some ((.lit (.bool r)),[]):=by
 rw [aN]
 unfold b8
 simp (maxSteps:=2000000) -implicitDefEqProofs only [adV,aaG,aao,IF,nk,↓syP,syA,syD,simprocAttr,syE,ah,ag,af,syW,xQ,i6 k v0 v1]
 all_goals simp -implicitDefEqProofs only [List.map_nil]
def eU (k:Nat) (v0:(Int×List Int)) (v1:(Int×List Int)):Option Bool:=
 bif v0.1==v1.1 then
 ob (b8 k v0.2 v1.2) fun x82=>
 some x82
 else
 some false
theorem pa (k:Nat) (v0_0:Int) (v0_1:List Int) (v1_0:Int) (v1_1:List Int):xC (k+2) none 90 [.agg [.lit (.int .i64 v0_0),.ro (List.map (aQ .i64) v0_1)],.agg [.lit (.int .i64 v1_0),.ro (List.map (aQ .i64) v1_1)]]=ob (eU k (v0_0,v0_1) (v1_0,v1_1)) fun r=>some ((.lit (.bool r)),[]):=by
 rw [aN]
 unfold eU
 simp (maxSteps:=2000000) -implicitDefEqProofs only [ael,aaw,Js,nD,↓syP,syA,syD,simprocAttr,syE,ah,ag,af,syW,xQ,ia]
 all_goals simp -implicitDefEqProofs only [List.map_nil]
def ap (k:Nat) (v0:Tyt) (v1:Tyt)  : Nat→Int→Option Bool
 | 0,_=>none
 | n+1,s89=>
 bif decide (s89<(↑v0.length:Int)) then
 ob (idx v0 s89) fun x96=>
 ob (idx v1 s89) fun x97=>
 ob (eU (k+6) (x96.1,x96.2) (x97.1,x97.2)) fun x98=>
 bif !x98 then
 some (false)
 else
 ap k v0 v1  n (IntKind.i64.wrap (s89+(1:Int)))
 else
 some (true)
theorem da (k:Nat) (v0 v1:Tyt):∀ (n:Nat) (s89:Int) ⦃j87 j88:V⦄,rt none (itX (xX (xS (k+8)) 89 0 (k+8) false) ES (0) (au (xX (xS (k+8)) 89 0 (k+8) false) (av (xS (k+8)).P Tryz.f89) Ek) n ⟨[.ro (List.map aA v0),.ro (List.map aA v1),.fn (Fn.func (90:FuncId)) [] [],uu,uu,uu,.lit (.bool false),j87,j88,j88,.ro (List.map aA v0),.lit (.int .i64 (↑v0.length:Int)),.ro (List.map aA v1),.lit (.int .i64 (↑v1.length:Int)),.lit (.bool ((↑v0.length:Int)!=(↑v1.length:Int))),.ro (List.map aA v0),.lit (.int .i64 (↑v0.length:Int)),.lit (.int .i64 s89),.junk,.junk,.junk,.junk,.junk,.junk,.junk,.junk,.junk,.junk,.junk,.junk,.junk,.junk],[]⟩)=ob (ap k v0 v1  n s89) fun r=>some ((.lit (.bool r)),[]):=by
 intro n
 induction n with
 | zero=>intros;rfl
 | succ n ih=>
  intro s89 j87 j88
  rw [ap]
  simp (maxSteps:=2000000) -implicitDefEqProofs only [adB,Zz,ZG,EA,lk,↓syP,syA,syD,simprocAttr,syE,ah,ag,af,syW,xQ,pa,Oo,ih]
  all_goals simp -implicitDefEqProofs only [List.map_nil]
def aW (k:Nat) (v0:Tyt) (v1:Tyt):Option Bool:=
 bif (↑v0.length:Int)!=(↑v1.length:Int) then
 some false
 else
 ap k v0 v1 (k+8) 0
theorem dL (k:Nat) (v0 v1:Tyt):xC (k+9) none 89 [.ro (List.map aA v0),.ro (List.map aA v1),.fn (Fn.func (90:FuncId)) [] []]=ob (aW k v0 v1) fun r=>some ((.lit (.bool r)),[]):=by
 rw [aN]
 unfold aW
 simp (maxSteps:=2000000) -implicitDefEqProofs only [adB,Zz,ZG,EA,lk,↓syP,syA,syD,simprocAttr,syE,ah,ag,af,syW,xQ,da k v0 v1]
 all_goals simp -implicitDefEqProofs only [List.map_nil]
def eV (k:Nat) (v0:Tyt) (v1:Tyt):Option Bool:=
 ob (aW k v0 v1) fun x100=>
 some x100
theorem uX (k:Nat) (v0 v1:Tyt):xC (k+10) none 44 [.ro (List.map aA v0),.ro (List.map aA v1)]=ob (eV k v0 v1) fun r=>some ((.lit (.bool r)),[]):=by
 rw [aN]
 unfold eV
 simp (maxSteps:=2000000) -implicitDefEqProofs only [aeO,aej,adB,Zz,ZG,EA,lk,ael,aaw,Js,nD,↓syP,syA,syD,simprocAttr,syE,ah,ag,af,syW,xQ,dL]
 all_goals simp -implicitDefEqProofs only [List.map_nil]
end Go.Ab
set_option maxRecDepth 100000
set_option linter.unusedVariables false
set_option linter.unusedSimpArgs false
namespace Go.Ab
open Go.Proofs
def dI (v0:Int) (v1:Int) (v2:Int):Option Bool:=
 bif decide (v1≤v0) then
 some (decide (v0≤v2))
 else
 some false
theorem ki (k:Nat) (v0 v1 v2:Int):xC (k+1) none 93 [.lit (.int .i64 v0),.lit (.int .i64 v1),.lit (.int .i64 v2)]=ob (dI v0 v1 v2) fun r=>some ((.lit (.bool r)),[]):=by
 rw [aN]
 unfold dI
 simp (maxSteps:=2000000) -implicitDefEqProofs only [aeP,ad9,O2,ud,↓syP,syA,syD,simprocAttr,syE,ah,ag,af,syW,xQ]
 all_goals simp -implicitDefEqProofs only [List.map_nil]
def bU (v0:(Int×Int×Int×Int)):Option Bool:=
 ob (dI v0.1 1 8) fun x5=>
 bif x5 then
 ob (dI v0.2.1 1 16) fun x6=>
 bif x6 then
 bif rI IntKind.i64 v0.2.1 (IntKind.i64.wrap (v0.2.1 - 1))==0 then
 ob (dI v0.2.2.1 1 16) fun x7=>
 bif x7 then
 ob (dI v0.2.2.2 0 4) fun x8=>
 some x8
 else
 some false
 else
 some false
 else
 some false
 else
 some false
theorem cM (k:Nat) (v0_0 v0_1 v0_2 v0_3:Int):xC (k+2) none 50 [.agg [.lit (.int .i64 v0_0),.lit (.int .i64 v0_1),.lit (.int .i64 v0_2),.lit (.int .i64 v0_3)]]=ob (bU (v0_0,v0_1,v0_2,v0_3)) fun r=>some ((.lit (.bool r)),[]):=by
 rw [aN]
 unfold bU
 simp (maxSteps:=2000000) -implicitDefEqProofs only [ae1,aea,Pd,O1,Pu,Po,uq,↓syP,syA,syD,simprocAttr,syE,ah,ag,af,syW,xQ,ki]
 all_goals simp -implicitDefEqProofs only [List.map_nil]
def eb (v0:(Int×Int×Int×Int)) (v1:Int):Option Int:=
 some (IntKind.i64.wrap (IntKind.i64.wrap (6+IntKind.i64.wrap (2*v0.2.2.1))+IntKind.i64.wrap (v1*IntKind.i64.wrap (3+v0.2.1))))
theorem iL (k:Nat) (v0_0 v0_1 v0_2 v0_3 v1:Int):xC (k+1) none 72 [.agg [.lit (.int .i64 v0_0),.lit (.int .i64 v0_1),.lit (.int .i64 v0_2),.lit (.int .i64 v0_3)],.lit (.int .i64 v1)]=ob (eb (v0_0,v0_1,v0_2,v0_3) v1) fun r=>some ((.lit (.int .i64 r)),[]):=by
 rw [aN]
 unfold eb
 simp (maxSteps:=2000000) -implicitDefEqProofs only [aeD,aek,↓syP,syA,syD,simprocAttr,syE,ah,ag,af,syW,xQ]
 all_goals simp -implicitDefEqProofs only [List.map_nil]
def dC (v0:(Int×Int×Int×Int)):Option Int:=
 ob (bU v0) fun x16=>
 bif !x16 then
 some 0
 else
 ob (eb v0 v0.1) fun x17=>
 some x17
theorem iG (k:Nat) (v0_0 v0_1 v0_2 v0_3:Int):xC (k+3) none 103 [.agg [.lit (.int .i64 v0_0),.lit (.int .i64 v0_1),.lit (.int .i64 v0_2),.lit (.int .i64 v0_3)]]=ob (dC (v0_0,v0_1,v0_2,v0_3)) fun r=>some ((.lit (.int .i64 r)),[]):=by
 rw [aN]
 unfold dC
 simp (maxSteps:=2000000) -implicitDefEqProofs only [abp,Wd,↓syP,syA,syD,simprocAttr,syE,ah,ag,af,syW,xQ,cM,iL]
 all_goals simp -implicitDefEqProofs only [List.map_nil]
def fE (v0:(List Int)) (v1:Int):Option Bool:=
 bif decide (0≤v1) then
 some (decide (v1<(↑v0.length:Int)))
 else
 some false
theorem mP (k:Nat) (v0:List Int) (v1:Int):xC (k+1) none 66 [.ro (List.map (aQ .u64) v0),.lit (.int .i64 v1)]=ob (fE v0 v1) fun r=>some ((.lit (.bool r)),[]):=by
 rw [aN]
 unfold fE
 simp (maxSteps:=2000000) -implicitDefEqProofs only [afe,ad0,PN,ux,↓syP,syA,syD,simprocAttr,syE,ah,ag,af,syW,xQ]
 all_goals simp -implicitDefEqProofs only [List.map_nil]
def aG (v0:(List Int)) (v1:Int):Option Int:=
 ob (fE v0 v1) fun x22=>
 bif !x22 then
 some 0
 else
 ob (idx v0 v1) fun x23=>
 some x23
theorem dn (k:Nat) (v0:List Int) (v1:Int):xC (k+2) none 27 [.ro (List.map (aQ .u64) v0),.lit (.int .i64 v1)]=ob (aG v0 v1) fun r=>some ((.lit (.int .u64 r)),[]):=by
 rw [aN]
 unfold aG
 simp (maxSteps:=2000000) -implicitDefEqProofs only [aeI,ad1,↓syP,syA,syD,simprocAttr,syE,ah,ag,af,syW,xQ,mP]
 all_goals simp -implicitDefEqProofs only [List.map_nil]
def br (v0:(List Int)) (v1:Int) (v2:Int):Option (List Int):=
 ob (aK 8 v0) fun x31=>
 ob (fE v0 v1) fun x32=>
 bif !x32 then
 some x31
 else
 ob (idx v0 v1) fun x33=>
 bif decide (0≤v1∧v1.toNat<x31.length) then
 ob (x31[v1.toNat]?) fun x34=>
 ob (idx v0 v1) fun x35=>
 some (x31.set v1.toNat v2)
 else
 none
theorem dO (k:Nat) (v0:List Int) (v1 v2:Int):xC (k+11) none 88 [.ro (List.map (aQ .u64) v0),.lit (.int .i64 v1),.lit (.int .u64 v2)]=ob (br v0 v1 v2) fun r=>some ((.ro (List.map (aQ .u64) r)),[]):=by
 rw [aN]
 unfold br
 simp (maxSteps:=2000000) -implicitDefEqProofs only [ae7,aeu,Tn,K0,abk,Zd,↓syP,syA,syD,simprocAttr,syE,ah,ag,af,syW,xQ,mP]
 all_goals simp -implicitDefEqProofs only [List.map_nil]
def cI (v0:(List Int)) (v1:Int) (v2:Int):Option ((List Int)×Int):=
 ob (aK 8 v0) fun x46=>
 ob (fE v0 v1) fun x47=>
 bif !x47 then
 some (x46,0)
 else
 ob (idx v0 v1) fun x48=>
 bif decide (0≤v1∧v1.toNat<x46.length) then
 ob (x46[v1.toNat]?) fun x49=>
 ob (idx v0 v1) fun x50=>
 some ((x46.set v1.toNat (IntKind.u64.wrap (x48+v2))),x50)
 else
 none
theorem uP (k:Nat) (v0:List Int) (v1 v2:Int):xC (k+11) none 138 [.ro (List.map (aQ .u64) v0),.lit (.int .i64 v1),.lit (.int .u64 v2)]=ob (cI v0 v1 v2) fun r=>some ((.tup [.ro (List.map (aQ .u64) r.1),.lit (.int .u64 r.2)]),[]):=by
 rw [aN]
 unfold cI
 simp (maxSteps:=2000000) -implicitDefEqProofs only [acH,WE,Tn,K0,acM,Wa,↓syP,syA,syD,simprocAttr,syE,ah,ag,af,syW,xQ,mP]
 all_goals simp -implicitDefEqProofs only [List.map_nil]
def cH (v0 : (List Int)) (v1 : Int) (v2 : Int) (v3 : Int) : Option ((List Int) × Bool) :=
 ob (aK 8 v0) fun x63 =>
 ob (fE v0 v1) fun x64 =>
 bif !x64 then
 some (x63,false)
 else
 ob (idx v0 v1) fun x65 =>
 bif x65 != v2 then
 bif decide (0 ≤ v1 ∧ v1.toNat < x63.length) then
 ob (x63[v1.toNat]?) fun x66 =>
 ob (idx v0 v1) fun x67 =>
 some ((x63.set v1.toNat x65),false)
 else
 none
 else
 bif decide (0 ≤ v1 ∧ v1.toNat < x63.length) then
 ob (x63[v1.toNat]?) fun x68 =>
 ob (idx v0 v1) fun x69 =>
 some ((x63.set v1.toNat v3),true)
 else
 none
theorem gf (k:Nat) (v0:List Int) (v1 v2 v3:Int):xC (k+11) none 191 [.ro (List.map (aQ .u64) v0),.lit (.int .i64 v1),.lit (.int .u64 v2),.lit (.int .u64 v3)]=ob (cH v0 v1 v2 v3) fun r=>some ((.tup [.ro (List.map (aQ .u64) r.1),.lit (.bool r.2)]),[]):=by
 rw [aN]
 unfold cH
 simp (maxSteps:=2000000) -implicitDefEqProofs only [Tn,K0,adx,Yb,ade,YK,↓syP,syA,syD,simprocAttr,syE,ah,ag,af,syW,xQ,mP]
 all_goals simp -implicitDefEqProofs only [List.map_nil]
def aF (v0:Int) (v1:Int) (v2:Int):Option (Int×Int×Int×Int×Int×Int×Int):=
 some (v0,0,v1,v2,0,0,0)
theorem mV (k:Nat) (v0 v1 v2:Int):xC (k+1) none 104 [.lit (.int .i64 v0),.lit (.int .i64 v1),.lit (.int .u64 v2)]=ob (aF v0 v1 v2) fun r=>some ((.agg [.lit (.int .i64 r.1),.lit (.int .i64 r.2.1),.lit (.int .i64 r.2.2.1),.lit (.int .u64 r.2.2.2.1),.lit (.int .u64 r.2.2.2.2.1),.lit (.int .u64 r.2.2.2.2.2.1),.lit (.int .i64 r.2.2.2.2.2.2)]),[]):=by
 rw [aN]
 unfold aF
 simp (maxSteps:=2000000) -implicitDefEqProofs only [abR,WS,↓syP,syA,syD,simprocAttr,syE,ah,ag,af,syW,xQ]
 all_goals simp -implicitDefEqProofs only [List.map_nil]
def aH (v0:(Int×Int×Int×Int×Int×Int×Int)):Option Bool:=
 some (v0.2.2.2.2.2.2 !=0)
theorem eJ (k:Nat) (v0_0 v0_1 v0_2 v0_3 v0_4 v0_5 v0_6:Int):xC (k+1) none 110 [.agg [.lit (.int .i64 v0_0),.lit (.int .i64 v0_1),.lit (.int .i64 v0_2),.lit (.int .u64 v0_3),.lit (.int .u64 v0_4),.lit (.int .u64 v0_5),.lit (.int .i64 v0_6)]]=ob (aH (v0_0,v0_1,v0_2,v0_3,v0_4,v0_5,v0_6)) fun r=>some ((.lit (.bool r)),[]):=by
 rw [aN]
 unfold aH
 simp (maxSteps:=2000000) -implicitDefEqProofs only [acF,YW,↓syP,syA,syD,simprocAttr,syE,ah,ag,af,syW,xQ]
 all_goals simp -implicitDefEqProofs only [List.map_nil]
def aU (v0:(Int×Int×Int×Int×Int×Int×Int)) (v1:Int) (v2:Int):Option (Int×Int×Int×Int×Int×Int×Int):=
 some (v0.1,0,v0.2.2.1,v2,0,0,v1)
theorem eC (k:Nat) (v0_0 v0_1 v0_2 v0_3 v0_4 v0_5 v0_6 v1 v2:Int):xC (k+1) none 193 [.agg [.lit (.int .i64 v0_0),.lit (.int .i64 v0_1),.lit (.int .i64 v0_2),.lit (.int .u64 v0_3),.lit (.int .u64 v0_4),.lit (.int .u64 v0_5),.lit (.int .i64 v0_6)],.lit (.int .i64 v1),.lit (.int .u64 v2)]=ob (aU (v0_0,v0_1,v0_2,v0_3,v0_4,v0_5,v0_6) v1 v2) fun r=>some ((.agg [.lit (.int .i64 r.1),.lit (.int .i64 r.2.1),.lit (.int .i64 r.2.2.1),.lit (.int .u64 r.2.2.2.1),.lit (.int .u64 r.2.2.2.2.1),.lit (.int .u64 r.2.2.2.2.2.1),.lit (.int .i64 r.2.2.2.2.2.2)]),[]):=by
 rw [aN]
 unfold aU
 simp (maxSteps:=2000000) -implicitDefEqProofs only [abE,XU,↓syP,syA,syD,simprocAttr,syE,ah,ag,af,syW,xQ]
 all_goals simp -implicitDefEqProofs only [List.map_nil]
def ir (v0:Int) (v1:Int):Option Int:=
 bif decide (v1<0) then
 some v0
 else
 bif decide (16≤v1) then
 some v0
 else
 bif decide (0≤v1) then
 some (orI IntKind.u64 v0 (Nt IntKind.u64 1 v1))
 else
 none
theorem FE (k:Nat) (v0 v1:Int):xC (k+1) none 214 [.lit (.int .u64 v0),.lit (.int .i64 v1)]=ob (ir v0 v1) fun r=>some ((.lit (.int .u64 r)),[]):=by
 rw [aN]
 unfold ir
 simp (maxSteps:=2000000) -implicitDefEqProofs only [acN,UG,Ke,pY,↓syP,syA,syD,simprocAttr,syE,ah,ag,af,syW,xQ]
 all_goals simp -implicitDefEqProofs only [List.map_nil]
def dj (v0:Int):Option Int:=
 some (OH IntKind.u64 v0 16)
theorem k7 (k:Nat) (v0:Int):xC (k+1) none 213 [.lit (.int .u64 v0)]=ob (dj v0) fun r=>some ((.lit (.int .u64 r)),[]):=by
 rw [aN]
 unfold dj
 simp (maxSteps:=2000000) -implicitDefEqProofs only [aat,Vy,↓syP,syA,syD,simprocAttr,syE,ah,ag,af,syW,xQ]
 all_goals simp -implicitDefEqProofs only [List.map_nil]
def fm (v0:(Int×Int×Int×Int)) (v1:Int):Option Int:=
 ob (bU v0) fun x80=>
 bif !x80 then
 some ((-1))
 else
 ob (dI v1 0 (IntKind.i64.wrap (v0.1 - 1))) fun x81=>
 bif !x81 then
 some ((-1))
 else
 ob (eb v0 v1) fun x82=>
 some (IntKind.i64.wrap (x82+2))
theorem uh (k:Nat) (v0_0 v0_1 v0_2 v0_3 v1:Int):xC (k+12) none 32 [.agg [.lit (.int .i64 v0_0),.lit (.int .i64 v0_1),.lit (.int .i64 v0_2),.lit (.int .i64 v0_3)],.lit (.int .i64 v1)]=ob (fm (v0_0,v0_1,v0_2,v0_3) v1) fun r=>some ((.lit (.int .i64 r)),[]):=by
 rw [aN]
 unfold fm
 simp (maxSteps:=2000000) -implicitDefEqProofs only [ae8,aer,Um,TJ,o9,fy,ae0,aep,↓syP,syA,syD,simprocAttr,syE,ah,ag,af,syW,xQ,ki,cM,iL]
 all_goals simp -implicitDefEqProofs only [List.map_nil]
def cB (v0:Int):Option Int:=
 some (rI IntKind.u64 v0 65535)
theorem lS (k:Nat) (v0:Int):xC (k+1) none 192 [.lit (.int .u64 v0)]=ob (cB v0) fun r=>some ((.lit (.int .u64 r)),[]):=by
 rw [aN]
 unfold cB
 simp (maxSteps:=2000000) -implicitDefEqProofs only [adD,VT,↓syP,syA,syD,simprocAttr,syE,ah,ag,af,syW,xQ]
 all_goals simp -implicitDefEqProofs only [List.map_nil]
def fN (v0:(Int×Int×Int×Int)) (v1:Int):Option Int:=
 ob (bU v0) fun x89=>
 bif !x89 then
 some ((-1))
 else
 ob (dI v1 0 (IntKind.i64.wrap (v0.1 - 1))) fun x90=>
 bif !x90 then
 some ((-1))
 else
 ob (eb v0 v1) fun x91=>
 some x91
theorem kQ (k:Nat) (v0_0 v0_1 v0_2 v0_3 v1:Int):xC (k+12) none 107 [.agg [.lit (.int .i64 v0_0),.lit (.int .i64 v0_1),.lit (.int .i64 v0_2),.lit (.int .i64 v0_3)],.lit (.int .i64 v1)]=ob (fN (v0_0,v0_1,v0_2,v0_3) v1) fun r=>some ((.lit (.int .i64 r)),[]):=by
 rw [aN]
 unfold fN
 simp (maxSteps:=2000000) -implicitDefEqProofs only [Um,TJ,o9,fy,ach,V6,abj,Yw,↓syP,syA,syD,simprocAttr,syE,ah,ag,af,syW,xQ,ki,cM,iL]
 all_goals simp -implicitDefEqProofs only [List.map_nil]
def cQ (v0:(Int×Int×Int×Int)) (v1:Int):Option Int:=
 ob (bU v0) fun x98=>
 bif !x98 then
 some ((-1))
 else
 ob (dI v1 0 (IntKind.i64.wrap (v0.1 - 1))) fun x99=>
 bif !x99 then
 some ((-1))
 else
 ob (eb v0 v1) fun x100=>
 some (IntKind.i64.wrap (x100+1))
theorem fD (k:Nat) (v0_0 v0_1 v0_2 v0_3 v1:Int):xC (k+12) none 108 [.agg [.lit (.int .i64 v0_0),.lit (.int .i64 v0_1),.lit (.int .i64 v0_2),.lit (.int .i64 v0_3)],.lit (.int .i64 v1)]=ob (cQ (v0_0,v0_1,v0_2,v0_3) v1) fun r=>some ((.lit (.int .i64 r)),[]):=by
 rw [aN]
 unfold cQ
 simp (maxSteps:=2000000) -implicitDefEqProofs only [Um,TJ,o9,fy,acg,VB,aaC,U5,↓syP,syA,syD,simprocAttr,syE,ah,ag,af,syW,xQ,ki,cM,iL]
 all_goals simp -implicitDefEqProofs only [List.map_nil]
def eI (v0:(Int×Int×Int×Int)) (v1:Int) (v2:Int):Option Int:=
 ob (bU v0) fun x107=>
 bif !x107 then
 some ((-1))
 else
 ob (dI v1 0 (IntKind.i64.wrap (v0.1 - 1))) fun x108=>
 bif !x108 then
 some ((-1))
 else
 ob (eb v0 v1) fun x109=>
 some (IntKind.i64.wrap (IntKind.i64.wrap (x109+3)+IntKind.i64.wrap (rI IntKind.u64 v2 (IntKind.u64.wrap (IntKind.i64.wrap (v0.2.1 - 1))))))
theorem nz (k:Nat) (v0_0 v0_1 v0_2 v0_3 v1 v2:Int):xC (k+12) none 109 [.agg [.lit (.int .i64 v0_0),.lit (.int .i64 v0_1),.lit (.int .i64 v0_2),.lit (.int .i64 v0_3)],.lit (.int .i64 v1),.lit (.int .u64 v2)]=ob (eI (v0_0,v0_1,v0_2,v0_3) v1 v2) fun r=>some ((.lit (.int .i64 r)),[]):=by
 rw [aN]
 unfold eI
 simp (maxSteps:=2000000) -implicitDefEqProofs only [Um,TJ,o9,fy,acu,Xk,aam,Yy,↓syP,syA,syD,simprocAttr,syE,ah,ag,af,syW,xQ,ki,cM,iL]
 all_goals simp -implicitDefEqProofs only [List.map_nil]
def d9 (v0:Int) (v1:Int):Option Int:=
 some (IntKind.i64.wrap (IntKind.u64.wrap (v0 - v1)))
theorem iu (k:Nat) (v0 v1:Int):xC (k+1) none 106 [.lit (.int .u64 v0),.lit (.int .u64 v1)]=ob (d9 v0 v1) fun r=>some ((.lit (.int .i64 r)),[]):=by
 rw [aN]
 unfold d9
 simp (maxSteps:=2000000) -implicitDefEqProofs only [adt,Y0,↓syP,syA,syD,simprocAttr,syE,ah,ag,af,syW,xQ]
 all_goals simp -implicitDefEqProofs only [List.map_nil]
def cR (v0:Int) (v1:Int):Option Bool:=
 bif decide (0≤v0) then
 some (decide (v0<v1))
 else
 some false
theorem nT (k:Nat) (v0 v1:Int):xC (k+1) none 81 [.lit (.int .i64 v0),.lit (.int .i64 v1)]=ob (cR v0 v1) fun r=>some ((.lit (.bool r)),[]):=by
 rw [aN]
 unfold cR
 simp (maxSteps:=2000000) -implicitDefEqProofs only [aeS,aes,Pn,r7,↓syP,syA,syD,simprocAttr,syE,ah,ag,af,syW,xQ]
 all_goals simp -implicitDefEqProofs only [List.map_nil]
def dZ (v0 : Int) (v1 : Int) (v2 : Int) : Option Int :=
 bif decide (v2 < 2) then
 some ((-1))
 else
 ob (cR v1 v2) fun x126 =>
 bif !x126 then
 some ((-1))
 else
 bif IntKind.u64.wrap (IntKind.u64.wrap v2 - 1) != 0 then
 bif IntKind.u64.wrap v2 != 0 then
 some (IntKind.i64.wrap ((IntKind.u64.wrap (IntKind.u64.wrap (IntKind.u64.wrap v1 + 1) + v0.tmod (IntKind.u64.wrap (IntKind.u64.wrap v2 - 1)))).tmod (IntKind.u64.wrap v2)))
 else
 none
 else
 none
theorem wV (k:Nat) (v0 v1 v2:Int):xC (k+2) none 161 [.lit (.int .u64 v0),.lit (.int .i64 v1),.lit (.int .i64 v2)]=ob (dZ v0 v1 v2) fun r=>some ((.lit (.int .i64 r)),[]):=by
 rw [aN]
 unfold dZ
 simp (maxSteps:=2000000) -implicitDefEqProofs only [abC,UH,JK,pm,↓syP,syA,syD,simprocAttr,syE,ah,ag,af,syW,xQ,nT]
 all_goals simp -implicitDefEqProofs only [List.map_nil]
def dV (v0:(Int×Int×Int×Int)) (v1:(List Int)) (v2:(Int×Int×Int×Int×Int×Int×Int)) (v3:Int) (v4:Int):Option Bool:=
 ob (bU v0) fun x132=>
 bif x132 then
 ob (dC v0) fun x133=>
 bif (↑v1.length:Int)==x133 then
 ob (aH v2) fun x134=>
 bif !x134 then
 bif decide (0≤v2.2.2.1) then
 bif decide (v2.2.2.1<v0.1) then
 bif v2.1==v3 then
 bif decide (0≤v2.2.1) then
 some (decide (v2.2.1<v4))
 else
 some false
 else
 some false
 else
 some false
 else
 some false
 else
 some false
 else
 some false
 else
 some false
theorem gF (k:Nat) (v0_0 v0_1 v0_2 v0_3:Int) (v1:List Int) (v2_0 v2_1 v2_2 v2_3 v2_4 v2_5 v2_6 v3 v4:Int):xC (k+4) none 188 [.agg [.lit (.int .i64 v0_0),.lit (.int .i64 v0_1),.lit (.int .i64 v0_2),.lit (.int .i64 v0_3)],.ro (List.map (aQ .u64) v1),.agg [.lit (.int .i64 v2_0),.lit (.int .i64 v2_1),.lit (.int .i64 v2_2),.lit (.int .u64 v2_3),.lit (.int .u64 v2_4),.lit (.int .u64 v2_5),.lit (.int .i64 v2_6)],.lit (.int .i64 v3),.lit (.int .i64 v4)]=ob (dV (v0_0,v0_1,v0_2,v0_3) v1 (v2_0,v2_1,v2_2,v2_3,v2_4,v2_5,v2_6) v3 v4) fun r=>some ((.lit (.bool r)),[]):=by
 rw [aN]
 unfold dV
 simp (maxSteps:=2000000) -implicitDefEqProofs only [aaH,Uu,Jc,Hd,JT,He,I0,HK,H9,oN,↓syP,syA,syD,simprocAttr,syE,ah,ag,af,syW,xQ,cM,iG,eJ]
 all_goals simp -implicitDefEqProofs only [List.map_nil]
def gV (v0 : (Int × Int × Int × Int)) (v1 : (List Int)) (v2 : (Int × Int × Int × Int × Int × Int × Int)) : Option ((List Int) × (Int × Int × Int × Int × Int × Int × Int)) :=
 ob (aK 8 v1) fun x152 =>
 ob (dV v0 v1 v2 5 5) fun x153 =>
 bif x153 then
 bif decide (0 ≤ v2.2.1 ∧ v2.2.1.toNat < 5) then
 bif v2.2.1.toNat == 0 then
 ob (aG x152 2) fun x154 =>
 some (x152,(v2.1,1,v2.2.2.1,v2.2.2.2.1,x154,v2.2.2.2.2.2))
 else
 bif v2.2.1.toNat == 1 then
 ob (aG x152 2) fun x155 =>
 ob (dj x155) fun x156 =>
 ob (dj v2.2.2.2.2.1) fun x157 =>
 bif x156 != x157 then
 ob (aU (v2.1,2,v2.2.2.1,v2.2.2.2.1,v2.2.2.2.2.1,x155,v2.2.2.2.2.2.2) 4 0) fun x158 =>
 some (x152,x158)
 else
 some (x152,(v2.1,2,v2.2.2.1,v2.2.2.2.1,v2.2.2.2.2.1,x155,v2.2.2.2.2.2.2))
 else
 bif v2.2.1.toNat == 2 then
 ob (ir v2.2.2.2.2.2.1 v2.2.2.1) fun x159 =>
 ob (cH x152 2 v2.2.2.2.2.2.1 x159) fun x160 =>
 bif x160.2 then
 some (x160.1,(v2.1,3,v2.2.2))
 else
 some (x160.1,(v2.1,1,v2.2.2))
 else
 bif v2.2.1.toNat == 3 then
 ob (fm v0 v2.2.2.1) fun x161 =>
 ob (aG x152 x161) fun x162 =>
 bif x162 != 0 then
 some (x152,(v2.1,4,v2.2.2.1,v2.2.2.2.1,v2.2.2.2.2.1,x162,v2.2.2.2.2.2.2))
 else
 some (x152,(v2.1,v2.2.1,v2.2.2.1,v2.2.2.2.1,v2.2.2.2.2.1,x162,v2.2.2.2.2.2.2))
 else
 bif v2.2.1.toNat == 4 then
 ob (fm v0 v2.2.2.1) fun x163 =>
 ob (br x152 x163 0) fun x164 =>
 ob (aU v2 1 0) fun x165 =>
 some (x164,x165)
 else
 none
 else
 none
 else
 some (x152,v2)
theorem C8 (k:Nat) (v0_0 v0_1 v0_2 v0_3:Int) (v1:List Int) (v2_0 v2_1 v2_2 v2_3 v2_4 v2_5 v2_6:Int):xC (k+14) none 165 [.agg [.lit (.int .i64 v0_0),.lit (.int .i64 v0_1),.lit (.int .i64 v0_2),.lit (.int .i64 v0_3)],.ro (List.map (aQ .u64) v1),.agg [.lit (.int .i64 v2_0),.lit (.int .i64 v2_1),.lit (.int .i64 v2_2),.lit (.int .u64 v2_3),.lit (.int .u64 v2_4),.lit (.int .u64 v2_5),.lit (.int .i64 v2_6)]]=ob (gV (v0_0,v0_1,v0_2,v0_3) v1 (v2_0,v2_1,v2_2,v2_3,v2_4,v2_5,v2_6)) fun r=>some ((.tup [.ro (List.map (aQ .u64) r.1),.agg [.lit (.int .i64 r.2.1),.lit (.int .i64 r.2.2.1),.lit (.int .i64 r.2.2.2.1),.lit (.int .u64 r.2.2.2.2.1),.lit (.int .u64 r.2.2.2.2.2.1),.lit (.int .u64 r.2.2.2.2.2.2.1),.lit (.int .i64 r.2.2.2.2.2.2.2)]]),[]):=by
 rw [aN]
 unfold gV
 simp (maxSteps:=2000000) -implicitDefEqProofs only [aaA,UJ,Jn,ru,abf,Vl,abr,UV,acp,UZ,acB,YI,adz,UX,↓syP,syA,syD,simprocAttr,syE,ah,ag,af,syW,xQ,dn,dO,gf,eC,FE,k7,uh,gF]
 all_goals simp -implicitDefEqProofs only [List.map_nil]
end Go.Ab
set_option maxRecDepth 100000
set_option linter.unusedVariables false
set_option linter.unusedSimpArgs false
namespace Go.Ab
open Go.Proofs
def gC (v0:(Int×Int×Int×Int)) (v1:(List Int)) (v2:(Int×Int×Int×Int×Int×Int×Int)):Option Bool:=
 bif v2.1==6 then
 ob (bU v0) fun x8=>
 bif x8 then
 ob (dC v0) fun x9=>
 bif (↑v1.length:Int)==x9 then
 ob (aH v2) fun x10=>
 bif !x10 then
 bif decide (0≤v2.2.1) then
 some (decide (v2.2.1≤2))
 else
 some false
 else
 some false
 else
 some false
 else
 some false
 else
 bif v2.1==7 then
 ob (bU v0) fun x11=>
 bif x11 then
 ob (dC v0) fun x12=>
 bif (↑v1.length:Int)==x12 then
 ob (aH v2) fun x13=>
 bif !x13 then
 bif decide (0≤v2.2.1) then
 some (decide (v2.2.1≤2))
 else
 some false
 else
 some false
 else
 some false
 else
 some false
 else
 some false
theorem Dd (k:Nat) (v0_0 v0_1 v0_2 v0_3:Int) (v1:List Int) (v2_0 v2_1 v2_2 v2_3 v2_4 v2_5 v2_6:Int):xC (k+15) none 189 [.agg [.lit (.int .i64 v0_0),.lit (.int .i64 v0_1),.lit (.int .i64 v0_2),.lit (.int .i64 v0_3)],.ro (List.map (aQ .u64) v1),.agg [.lit (.int .i64 v2_0),.lit (.int .i64 v2_1),.lit (.int .i64 v2_2),.lit (.int .u64 v2_3),.lit (.int .u64 v2_4),.lit (.int .u64 v2_5),.lit (.int .i64 v2_6)]]=ob (gC (v0_0,v0_1,v0_2,v0_3) v1 (v2_0,v2_1,v2_2,v2_3,v2_4,v2_5,v2_6)) fun r=>some ((.lit (.bool r)),[]):=by
 rw [aN]
 unfold gC
 simp (maxSteps:=2000000) -implicitDefEqProofs only [acf,U3,Jr,JG,Iw,Hk,Jo,oW,Ws,QH,aN (g:=190),Tb,Ml,P8,LE,↓syP,syA,syD,simprocAttr,syE,ah,ag,af,syW,xQ,cM,iG,eJ]
 all_goals simp -implicitDefEqProofs only [List.map_nil]
def fk (v0:Int) (v1:Int):Option Int:=
 some (orI IntKind.u64 (Nt IntKind.u64 v0 16) (rI IntKind.u64 v1 65535))
theorem pn (k:Nat) (v0 v1:Int):xC (k+1) none 233 [.lit (.int .u64 v0),.lit (.int .u64 v1)]=ob (fk v0 v1) fun r=>some ((.lit (.int .u64 r)),[]):=by
 rw [aN]
 unfold fk
 simp (maxSteps:=2000000) -implicitDefEqProofs only [acn,VV,↓syP,syA,syD,simprocAttr,syE,ah,ag,af,syW,xQ]
 all_goals simp -implicitDefEqProofs only [List.map_nil]
def cj (k:Nat) (v0:Int)  : Nat→Int→Option Int
 | 0,_=>none
 | n+1,s27=>
 bif decide (s27<(16:Int)) then
 bif decide ((0:Int)≤s27) then
 bif rI IntKind.u64 (OH IntKind.u64 v0 s27) (1:Int)==(1:Int) then
 some (s27)
 else
 cj k v0  n (IntKind.i64.wrap (s27+(1:Int)))
 else
 none
 else
 some ((-1:Int))
theorem lQ (k:Nat) (v0:Int):∀ (n:Nat) (s27:Int) ⦃j26:V⦄,rt none (bq (itX (xX (xS (k+9)) 234 0 (k+9) false) kZ (3) (au (xX (xS (k+9)) 234 0 (k+9) false) (av (xS (k+9)).P Tryz.f234) wd) n ⟨[.yld 2,.ptr 1 0 0 0,uu,j26,.lit (.int .i64 s27),.junk,.junk,.junk,.junk,.junk,.junk,.junk,.junk,.junk,.junk,.junk,.junk,.junk,.junk],[.box [.lit (.int .i64 (0:Int))],.box [.lit (.int .u64 v0)],(.loop ⟨LoopState.ready,none,195,[.lit (.int .u64 v0),uu,.ptr 0 0 0 0,uu,.lit (.int .u64 v0),.fn (Fn.func (234:FuncId)) [] [.ptr 1 0 0 0],uu,uu],[(6:Tmp)],Dj,Ce⟩)]⟩) (rfK (au (xX (xS (k+10)) 195 0 (k+10) false) (av (xS (k+10)).P Tryz.f195) wP) [.lit (.int .u64 v0),uu,.ptr 0 0 0 0,uu,.lit (.int .u64 v0),.fn (Fn.func (234:FuncId)) [] [.ptr 1 0 0 0],uu,uu] (2)))=ob (cj k v0  n s27) fun r=>some ((.lit (.int .i64 r)),[]):=by
 intro n
 induction n with
 | zero=>intros;rfl
 | succ n ih=>
  intro s27 j26
  rw [cj]
  simp (maxSteps:=2000000) -implicitDefEqProofs only [X2,Qp,Qj,Cz,gK,gS,mg,uf,Xr,QV,aN (g:=220),Xv,QL,Rh,Dk,Dv,mc,mh,↓syP,syA,syD,simprocAttr,syE,ah,ag,af,syW,xQ,Ii,ih]
  all_goals simp -implicitDefEqProofs only [List.map_nil]
def eZ (k:Nat) (v0:Int):Option Int:=
 cj k v0 (k+9) 0
theorem mJ (k:Nat) (v0:Int):xC (k+11) none 195 [.lit (.int .u64 v0)]=ob (eZ k v0) fun r=>some ((.lit (.int .i64 r)),[]):=by
 rw [aN]
 unfold eZ
 simp (maxSteps:=2000000) -implicitDefEqProofs only [X2,Qp,Qj,Cz,gK,gS,mg,uf,Xr,QV,aN (g:=220),Xv,QL,Rh,Dk,Dv,mc,mh,↓syP,syA,syD,simprocAttr,syE,ah,ag,af,syW,xQ,lQ k v0]
 all_goals simp -implicitDefEqProofs only [List.map_nil]
def gM (k:Nat) (v0:Int):Option (Int×Int):=
 ob (cB v0) fun x32=>
 ob (dj v0) fun x33=>
 ob (fk (IntKind.u64.wrap (x33+1)) (rI IntKind.u64 x32 (IntKind.u64.wrap (x32 - 1)))) fun x34=>
 ob (eZ k x32) fun x35=>
 some (x34,x35)
theorem C0 (k:Nat) (v0:Int):xC (k+12) none 216 [.lit (.int .u64 v0)]=ob (gM k v0) fun r=>some ((.tup [.lit (.int .u64 r.1),.lit (.int .i64 r.2)]),[]):=by
 rw [aN]
 unfold gM
 simp (maxSteps:=2000000) -implicitDefEqProofs only [acP,VZ,↓syP,syA,syD,simprocAttr,syE,ah,ag,af,syW,xQ,k7,lS,pn,mJ]
 all_goals simp -implicitDefEqProofs only [List.map_nil]
def eo (k:Nat) (v0:Int):Option (Int×Int):=
 ob (gM k v0) fun x41=>
 some (x41.1,(IntKind.u64.wrap (bif decide (x41.2<0) then 0 else x41.2)))
theorem rX (k:Nat) (v0:Int):xC (k+13) none 215 [.lit (.int .u64 v0)]=ob (eo k v0) fun r=>some ((.tup [.lit (.int .u64 r.1),.lit (.int .u64 r.2)]),[]):=by
 rw [aN]
 unfold eo
 simp (maxSteps:=2000000) -implicitDefEqProofs only [Tb,Ml,↓syP,syA,syD,simprocAttr,syE,ah,ag,af,syW,xQ,C0]
 all_goals simp -implicitDefEqProofs only [List.map_nil]
def gO (v0:Int):Option Int:=
 ob (dj v0) fun x45=>
 ob (fk (IntKind.u64.wrap (x45+1)) 0) fun x46=>
 some x46
theorem CS (k:Nat) (v0:Int):xC (k+2) none 218 [.lit (.int .u64 v0)]=ob (gO v0) fun r=>some ((.lit (.int .u64 r)),[]):=by
 rw [aN]
 unfold gO
 simp (maxSteps:=2000000) -implicitDefEqProofs only [aaI,Wg,↓syP,syA,syD,simprocAttr,syE,ah,ag,af,syW,xQ,k7,pn]
 all_goals simp -implicitDefEqProofs only [List.map_nil]
def eq (v0:Int):Option (Int×Int):=
 ob (gO v0) fun x51=>
 ob (cB v0) fun x52=>
 some (x51,x52)
theorem rS (k:Nat) (v0:Int):xC (k+3) none 217 [.lit (.int .u64 v0)]=ob (eq v0) fun r=>some ((.tup [.lit (.int .u64 r.1),.lit (.int .u64 r.2)]),[]):=by
 rw [aN]
 unfold eq
 simp (maxSteps:=2000000) -implicitDefEqProofs only [P8,LE,↓syP,syA,syD,simprocAttr,syE,ah,ag,af,syW,xQ,lS,CS]
 all_goals simp -implicitDefEqProofs only [List.map_nil]
def dD (k:Nat) (v0:(Int×Int×Int×Int)) (v1:(List Int)) (v2:(List Int))  : Nat→List Int→Int→Option (List Int)
 | 0,_,_=>none
 | n+1,s59,s61=>
 bif decide (s61<(↑v2.length:Int)) then
 ob (idx v2 s61) fun x68=>
 ob (fm (v0.1,v0.2.1,v0.2.2.1,v0.2.2.2) x68) fun x69=>
 ob (br s59 x69 (1:Int)) fun x70=>
 dD k v0 v1 v2  n (x70) (IntKind.i64.wrap (s61+(1:Int)))
 else
 some (s59)
theorem nd (k:Nat) (v0_0 v0_1 v0_2 v0_3:Int) (v1 v2:List Int):∀ (n:Nat) (s59:List Int) (s61:Int) ⦃j60:V⦄,rt none (itX (xX (xS (k+12)) 194 0 (k+12) false) wQ (2) (au (xX (xS (k+12)) 194 0 (k+12) false) (av (xS (k+12)).P Tryz.f194) u5) n ⟨[.agg [.lit (.int .i64 v0_0),.lit (.int .i64 v0_1),.lit (.int .i64 v0_2),.lit (.int .i64 v0_3)],.ro (List.map (aQ IntKind.u64) s59),.ro (List.map (aQ IntKind.i64) v2),.ptr 0 0 0 0,uu,uu,.own 1 0 0,uu,j60,.ro (List.map (aQ IntKind.i64) v2),.lit (.int .i64 (↑v2.length:Int)),.lit (.int .i64 s61),.junk,.junk,.junk,.junk,.junk,.junk,.junk,.junk,.junk,uu],[.box [.lit (.int .i64 v0_0),.lit (.int .i64 v0_1),.lit (.int .i64 v0_2),.lit (.int .i64 v0_3)],.rows 0 [] 0 true]⟩)=ob (dD k (v0_0,v0_1,v0_2,v0_3) v1 v2  n s59 s61) fun r=>some ((.ro (List.map (aQ .u64) r)),[]):=by
 intro n
 induction n with
 | zero=>intros;rfl
 | succ n ih=>
  intro s59 s61 j60
  rw [dD]
  simp (maxSteps:=2000000) -implicitDefEqProofs only [W5,R9,Sq,CL,mo,↓syP,syA,syD,simprocAttr,syE,ah,ag,af,syW,xQ,dO,uh,Jk,ih]
  all_goals simp -implicitDefEqProofs only [List.map_nil]
def eE (k:Nat) (v0:(Int×Int×Int×Int)) (v1:(List Int)) (v2:(List Int)):Option (List Int):=
 dD k v0 v1 v2 (k+12) v1 0
theorem CM (k:Nat) (v0_0 v0_1 v0_2 v0_3:Int) (v1 v2:List Int):xC (k+13) none 194 [.agg [.lit (.int .i64 v0_0),.lit (.int .i64 v0_1),.lit (.int .i64 v0_2),.lit (.int .i64 v0_3)],.ro (List.map (aQ .u64) v1),.ro (List.map (aQ .i64) v2)]=ob (eE k (v0_0,v0_1,v0_2,v0_3) v1 v2) fun r=>some ((.ro (List.map (aQ .u64) r)),[]):=by
 rw [aN]
 unfold eE
 simp (maxSteps:=2000000) -implicitDefEqProofs only [W5,R9,Sq,CL,mo,↓syP,syA,syD,simprocAttr,syE,ah,ag,af,syW,xQ,nd k v0_0 v0_1 v0_2 v0_3 v1 v2]
 all_goals simp -implicitDefEqProofs only [List.map_nil]
def ff (k:Nat) (v0:(Int×Int×Int×Int)) (v1:(List Int)) (v2:(Int×Int×Int×Int×Int×Int×Int)):Option ((List Int)×(Int×Int×Int×Int×Int×Int×Int)):=
 ob (aK 8 v1) fun x93=>
 ob (gC v0 v1 v2) fun x94=>
 bif !x94 then
 some (x93,v2)
 else
 bif v2.2.1==0 then
 ob (aG x93 2) fun x95=>
 some (x93,(v2.1,1,v2.2.2.1,v2.2.2.2.1,x95,v2.2.2.2.2.2))
 else
 bif v2.2.1==1 then
 bif v2.1==6 then
 ob (eo (k+2) v2.2.2.2.2.1) fun x96=>
 ob (cH x93 2 v2.2.2.2.2.1 x96.1) fun x97=>
 bif !x97.2 then
 some (x97.1,(v2.1,0,v2.2.2))
 else
 ob (cB v2.2.2.2.2.1) fun x98=>
 bif x98==0 then
 ob (aU (v2.1,0,v2.2.2) 3 0) fun x99=>
 some (x97.1,x99)
 else
 some (x97.1,(v2.1,2,v2.2.2.1,v2.2.2.2.1,v2.2.2.2.2.1,x96.2,v2.2.2.2.2.2.2))
 else
 bif v2.1==7 then
 ob (eq v2.2.2.2.2.1) fun x100=>
 ob (cH x93 2 v2.2.2.2.2.1 x100.1) fun x101=>
 bif !x101.2 then
 some (x101.1,(v2.1,0,v2.2.2))
 else
 ob (cB v2.2.2.2.2.1) fun x102=>
 bif x102==0 then
 ob (aU (v2.1,0,v2.2.2) 3 0) fun x103=>
 some (x101.1,x103)
 else
 some (x101.1,(v2.1,2,v2.2.2.1,v2.2.2.2.1,v2.2.2.2.2.1,x100.2,v2.2.2.2.2.2.2))
 else
 none
 else
 bif v2.1==6 then
 bif decide (v2.2.2.2.2.2.1<8) then
 ob (eE (k+2) v0 x93 [IntKind.i64.wrap v2.2.2.2.2.2.1]) fun x104=>
 ob (aU v2 1 v2.2.2.2.2.2.1) fun x105=>
 some (x104,x105)
 else
 ob (eE (k+2) v0 x93 [(-1)]) fun x106=>
 ob (aU v2 1 v2.2.2.2.2.2.1) fun x107=>
 some (x106,x107)
 else
 ob (eZ (k+4) v2.2.2.2.2.2.1) fun x108=>
 ob (eE (k+2) v0 x93 [x108]) fun x109=>
 ob (cB v2.2.2.2.2.2.1) fun x110=>
 bif rI IntKind.u64 x110 (IntKind.u64.wrap (x110 - 1))==0 then
 ob (cB v2.2.2.2.2.1) fun x111=>
 ob (aU (v2.1,v2.2.1,v2.2.2.1,v2.2.2.2.1,v2.2.2.2.2.1,x110,v2.2.2.2.2.2.2) 1 x111) fun x112=>
 some (x109,x112)
 else
 bif x110==0 then
 ob (cB v2.2.2.2.2.1) fun x113=>
 ob (aU (v2.1,v2.2.1,v2.2.2.1,v2.2.2.2.1,v2.2.2.2.2.1,x110,v2.2.2.2.2.2.2) 1 x113) fun x114=>
 some (x109,x114)
 else
 some (x109,(v2.1,v2.2.1,v2.2.2.1,v2.2.2.2.1,v2.2.2.2.2.1,(rI IntKind.u64 x110 (IntKind.u64.wrap (x110 - 1))),v2.2.2.2.2.2.2))
theorem Dn (k:Nat) (v0_0 v0_1 v0_2 v0_3:Int) (v1:List Int) (v2_0 v2_1 v2_2 v2_3 v2_4 v2_5 v2_6:Int):xC (k+16) none 166 [.agg [.lit (.int .i64 v0_0),.lit (.int .i64 v0_1),.lit (.int .i64 v0_2),.lit (.int .i64 v0_3)],.ro (List.map (aQ .u64) v1),.agg [.lit (.int .i64 v2_0),.lit (.int .i64 v2_1),.lit (.int .i64 v2_2),.lit (.int .u64 v2_3),.lit (.int .u64 v2_4),.lit (.int .u64 v2_5),.lit (.int .i64 v2_6)]]=ob (ff k (v0_0,v0_1,v0_2,v0_3) v1 (v2_0,v2_1,v2_2,v2_3,v2_4,v2_5,v2_6)) fun r=>some ((.tup [.ro (List.map (aQ .u64) r.1),.agg [.lit (.int .i64 r.2.1),.lit (.int .i64 r.2.2.1),.lit (.int .i64 r.2.2.2.1),.lit (.int .u64 r.2.2.2.2.1),.lit (.int .u64 r.2.2.2.2.2.1),.lit (.int .u64 r.2.2.2.2.2.2.1),.lit (.int .i64 r.2.2.2.2.2.2.2)]]),[]):=by
 rw [aN]
 unfold ff
 simp (maxSteps:=2000000) -implicitDefEqProofs only [ack,Y7,HJ,HP,H8,pz,o7,rb,Ws,QH,aN (g:=190),Tb,Ml,P8,LE,↓syP,syA,syD,simprocAttr,syE,ah,ag,af,syW,xQ,dn,gf,eC,lS,Dd,mJ,rX,rS,CM]
 all_goals simp -implicitDefEqProofs only [List.map_nil]
end Go.Ab
set_option maxRecDepth 100000
set_option linter.unusedVariables false
set_option linter.unusedSimpArgs false
namespace Go.Ab
open Go.Proofs
def gr (v0:(Int×Int×Int×Int)) (v1:(List Int)) (v2:(Int×Int×Int×Int×Int×Int×Int)):Option ((List Int)×(Int×Int×Int×Int×Int×Int×Int)):=
 ob (aK 8 v1) fun x14=>
 ob (dV v0 v1 v2 0 4) fun x15=>
 bif x15 then
 bif v2.2.1==0 then
 ob (cQ v0 v2.2.2.1) fun x16=>
 ob (aG x14 x16) fun x17=>
 some (x14,(v2.1,1,v2.2.2.1,v2.2.2.2.1,x17,v2.2.2.2.2.2))
 else
 bif v2.2.1==1 then
 ob (fN v0 v2.2.2.1) fun x18=>
 ob (aG x14 x18) fun x19=>
 bif decide (IntKind.u64.wrap v0.2.1≤IntKind.u64.wrap (v2.2.2.2.2.1 - x19)) then
 ob (aU (v2.1,2,v2.2.2.1,v2.2.2.2.1,v2.2.2.2.2.1,x19,v2.2.2.2.2.2.2) 2 v2.2.2.2.1) fun x20=>
 some (x14,x20)
 else
 some (x14,(v2.1,2,v2.2.2.1,v2.2.2.2.1,v2.2.2.2.2.1,x19,v2.2.2.2.2.2.2))
 else
 bif v2.2.1==2 then
 ob (eI v0 v2.2.2.1 v2.2.2.2.2.1) fun x21=>
 ob (br x14 x21 v2.2.2.2.1) fun x22=>
 some (x22,(v2.1,3,v2.2.2))
 else
 bif v2.2.1==3 then
 ob (cQ v0 v2.2.2.1) fun x23=>
 ob (br x14 x23 (IntKind.u64.wrap (v2.2.2.2.2.1+1))) fun x24=>
 ob (aU v2 1 v2.2.2.2.1) fun x25=>
 some (x24,x25)
 else
 none
 else
 some (x14,v2)
theorem CT (k:Nat) (v0_0 v0_1 v0_2 v0_3:Int) (v1:List Int) (v2_0 v2_1 v2_2 v2_3 v2_4 v2_5 v2_6:Int):xC (k+24) none 207 [.agg [.lit (.int .i64 v0_0),.lit (.int .i64 v0_1),.lit (.int .i64 v0_2),.lit (.int .i64 v0_3)],.ro (List.map (aQ .u64) v1),.agg [.lit (.int .i64 v2_0),.lit (.int .i64 v2_1),.lit (.int .i64 v2_2),.lit (.int .u64 v2_3),.lit (.int .u64 v2_4),.lit (.int .u64 v2_5),.lit (.int .i64 v2_6)]]=ob (gr (v0_0,v0_1,v0_2,v0_3) v1 (v2_0,v2_1,v2_2,v2_3,v2_4,v2_5,v2_6)) fun r=>some ((.tup [.ro (List.map (aQ .u64) r.1),.agg [.lit (.int .i64 r.2.1),.lit (.int .i64 r.2.2.1),.lit (.int .i64 r.2.2.2.1),.lit (.int .u64 r.2.2.2.2.1),.lit (.int .u64 r.2.2.2.2.2.1),.lit (.int .u64 r.2.2.2.2.2.2.1),.lit (.int .i64 r.2.2.2.2.2.2.2)]]),[]):=by
 rw [aN]
 unfold gr
 simp (maxSteps:=2000000) -implicitDefEqProofs only [aaO,V2,If,pD,aau,Up,aai,U7,aa2,XM,abT,VJ,↓syP,syA,syD,simprocAttr,syE,ah,ag,af,syW,xQ,dn,dO,eC,kQ,fD,nz,gF]
 all_goals simp -implicitDefEqProofs only [List.map_nil]
def iS (v0:(Int×Int×Int×Int)) (v1:(List Int)) (v2:(Int×Int×Int×Int×Int×Int×Int)):Option ((List Int)×(Int×Int×Int×Int×Int×Int×Int)):=
 ob (aK 8 v1) fun x54=>
 ob (dV v0 v1 v2 1 7) fun x55=>
 bif !x55 then
 some (x54,v2)
 else
 ob (fN v0 v2.2.2.1) fun x56=>
 ob (cQ v0 v2.2.2.1) fun x57=>
 bif v2.2.1==0 then
 ob (aG x54 x57) fun x58=>
 some (x54,(v2.1,(IntKind.i64.wrap (v2.2.1+1)),v2.2.2.1,v2.2.2.2.1,(IntKind.u64.wrap (x58 - 1)),v2.2.2.2.2.2))
 else
 bif v2.2.1==1 then
 ob (br x54 x57 v2.2.2.2.2.1) fun x59=>
 some (x59,(v2.1,(IntKind.i64.wrap (v2.2.1+1)),v2.2.2))
 else
 bif v2.2.1==2 then
 ob (aG x54 x56) fun x60=>
 ob (d9 v2.2.2.2.2.1 x60) fun x61=>
 bif decide (x61<0) then
 some (x54,(v2.1,6,v2.2.2.1,v2.2.2.2.1,v2.2.2.2.2.1,x60,v2.2.2.2.2.2.2))
 else
 some (x54,(v2.1,(IntKind.i64.wrap (v2.2.1+1)),v2.2.2.1,v2.2.2.2.1,v2.2.2.2.2.1,x60,v2.2.2.2.2.2.2))
 else
 bif v2.2.1==3 then
 ob (eI v0 v2.2.2.1 v2.2.2.2.2.1) fun x62=>
 ob (aG x54 x62) fun x63=>
 bif v2.2.2.2.2.1 !=v2.2.2.2.2.2.1 then
 ob (aU (v2.1,v2.2.1,v2.2.2.1,x63,v2.2.2.2.2) 1 x63) fun x64=>
 some (x54,x64)
 else
 some (x54,(v2.1,(IntKind.i64.wrap (v2.2.1+1)),v2.2.2.1,x63,v2.2.2.2.2))
 else
 bif v2.2.1==4 then
 ob (cH x54 x56 v2.2.2.2.2.2.1 (IntKind.u64.wrap (v2.2.2.2.2.2.1+1))) fun x65=>
 bif !x65.2 then
 some (x65.1,(v2.1,6,v2.2.2))
 else
 some (x65.1,(v2.1,(IntKind.i64.wrap (v2.2.1+1)),v2.2.2))
 else
 bif v2.2.1==5 then
 ob (br x54 x57 (IntKind.u64.wrap (v2.2.2.2.2.1+1))) fun x66=>
 ob (aU v2 1 v2.2.2.2.1) fun x67=>
 some (x66,x67)
 else
 ob (br x54 x57 (IntKind.u64.wrap (v2.2.2.2.2.1+1))) fun x68=>
 ob (aU v2 3 0) fun x69=>
 some (x68,x69)
theorem F9 (k:Nat) (v0_0 v0_1 v0_2 v0_3:Int) (v1:List Int) (v2_0 v2_1 v2_2 v2_3 v2_4 v2_5 v2_6:Int):xC (k+24) none 208 [.agg [.lit (.int .i64 v0_0),.lit (.int .i64 v0_1),.lit (.int .i64 v0_2),.lit (.int .i64 v0_3)],.ro (List.map (aQ .u64) v1),.agg [.lit (.int .i64 v2_0),.lit (.int .i64 v2_1),.lit (.int .i64 v2_2),.lit (.int .u64 v2_3),.lit (.int .u64 v2_4),.lit (.int .u64 v2_5),.lit (.int .i64 v2_6)]]=ob (iS (v0_0,v0_1,v0_2,v0_3) v1 (v2_0,v2_1,v2_2,v2_3,v2_4,v2_5,v2_6)) fun r=>some ((.tup [.ro (List.map (aQ .u64) r.1),.agg [.lit (.int .i64 r.2.1),.lit (.int .i64 r.2.2.1),.lit (.int .i64 r.2.2.2.1),.lit (.int .u64 r.2.2.2.2.1),.lit (.int .u64 r.2.2.2.2.2.1),.lit (.int .u64 r.2.2.2.2.2.2.1),.lit (.int .i64 r.2.2.2.2.2.2.2)]]),[]):=by
 rw [aN]
 unfold iS
 simp (maxSteps:=2000000) -implicitDefEqProofs only [aa6,WV,abz,YC,↓syP,syA,syD,simprocAttr,syE,ah,ag,af,syW,xQ,dn,dO,gf,eC,kQ,fD,nz,iu,gF]
 all_goals simp -implicitDefEqProofs only [List.map_nil]
def an (k : Nat) (v0 : (Int × Int × Int × Int)) (v1 : (List Int)) (v2 : (Int × Int × Int × Int × Int × Int × Int))  : Nat → List Int → Int → Int → Int → Option ((List Int) × (Int × Int × Int × Int × Int × Int × Int))
 | 0,_,_,_,_ => none
 | n + 1,s91,s94,s95,s117 =>
 bif decide (s117 < (4 : Int)) then
 bif decide ((0 : Int) ≤ s117 ∧ s117.toNat < (4 : Nat)) then
 bif s117.toNat == (0 : Nat) then
 bif s117 != v2.2.1 then
 an k v0 v1 v2  n (s91) (s94) (s95) (IntKind.i64.wrap (s117 + (1 : Int)))
 else
 ob (aG s91 s94) fun x152 =>
 ob (aH (v2.1,v2.2.1,v2.2.2.1,v2.2.2.2.1,v2.2.2.2.2.1,x152,v2.2.2.2.2.2.2)) fun x153 =>
 bif !x153 then
 some ((s91),((v2.1),(IntKind.i64.wrap (v2.2.1 + (1 : Int))),(v2.2.2.1),(v2.2.2.2.1),(v2.2.2.2.2.1),(x152),(v2.2.2.2.2.2.2)))
 else
 some ((s91),((v2.1),(v2.2.1),(v2.2.2.1),(v2.2.2.2.1),(v2.2.2.2.2.1),(x152),(v2.2.2.2.2.2.2)))
 else
 bif s117.toNat == (1 : Nat) then
 bif s117 != v2.2.1 then
 an k v0 v1 v2  n (s91) (s94) (s95) (IntKind.i64.wrap (s117 + (1 : Int)))
 else
 ob (aG s91 s95) fun x154 =>
 ob (d9 x154 v2.2.2.2.2.2.1) fun x155 =>
 bif decide (x155 ≤ (0 : Int)) then
 ob (aU (v2.1,v2.2.1,v2.2.2.1,v2.2.2.2.1,x154,v2.2.2.2.2.2.1,v2.2.2.2.2.2.2) (3 : Int) (0 : Int)) fun x156 =>
 ob (aH (x156.1,x156.2.1,x156.2.2.1,x156.2.2.2.1,x156.2.2.2.2.1,x156.2.2.2.2.2.1,x156.2.2.2.2.2.2)) fun x157 =>
 bif !x157 then
 some ((s91),((x156.1),(IntKind.i64.wrap (x156.2.1 + (1 : Int))),(x156.2.2.1),(x156.2.2.2.1),(x156.2.2.2.2.1),(x156.2.2.2.2.2.1),(x156.2.2.2.2.2.2)))
 else
 some ((s91),((x156.1),(x156.2.1),(x156.2.2.1),(x156.2.2.2.1),(x156.2.2.2.2.1),(x156.2.2.2.2.2.1),(x156.2.2.2.2.2.2)))
 else
 ob (aH (v2.1,v2.2.1,v2.2.2.1,v2.2.2.2.1,x154,v2.2.2.2.2.2.1,v2.2.2.2.2.2.2)) fun x158 =>
 bif !x158 then
 some ((s91),((v2.1),(IntKind.i64.wrap (v2.2.1 + (1 : Int))),(v2.2.2.1),(v2.2.2.2.1),(x154),(v2.2.2.2.2.2.1),(v2.2.2.2.2.2.2)))
 else
 some ((s91),((v2.1),(v2.2.1),(v2.2.2.1),(v2.2.2.2.1),(x154),(v2.2.2.2.2.2.1),(v2.2.2.2.2.2.2)))
 else
 bif s117.toNat == (2 : Nat) then
 bif s117 != v2.2.1 then
 an k v0 v1 v2  n (s91) (s94) (s95) (IntKind.i64.wrap (s117 + (1 : Int)))
 else
 ob (eI (v0.1,v0.2.1,v0.2.2.1,v0.2.2.2) v2.2.2.1 v2.2.2.2.2.2.1) fun x159 =>
 ob (aG s91 x159) fun x160 =>
 ob (aH (v2.1,v2.2.1,v2.2.2.1,x160,v2.2.2.2.2.1,v2.2.2.2.2.2.1,v2.2.2.2.2.2.2)) fun x161 =>
 bif !x161 then
 some ((s91),((v2.1),(IntKind.i64.wrap (v2.2.1 + (1 : Int))),(v2.2.2.1),(x160),(v2.2.2.2.2.1),(v2.2.2.2.2.2.1),(v2.2.2.2.2.2.2)))
 else
 some ((s91),((v2.1),(v2.2.1),(v2.2.2.1),(x160),(v2.2.2.2.2.1),(v2.2.2.2.2.2.1),(v2.2.2.2.2.2.2)))
 else
 bif s117.toNat == (3 : Nat) then
 bif s117 != v2.2.1 then
 an k v0 v1 v2  n (s91) (s94) (s95) (IntKind.i64.wrap (s117 + (1 : Int)))
 else
 ob (cH s91 s94 v2.2.2.2.2.2.1 (IntKind.u64.wrap (v2.2.2.2.2.2.1 + (1 : Int)))) fun x162 =>
 bif x162.2 then
 ob (aU (v2.1,v2.2.1,v2.2.2.1,v2.2.2.2.1,v2.2.2.2.2.1,v2.2.2.2.2.2.1,v2.2.2.2.2.2.2) (1 : Int) v2.2.2.2.1) fun x163 =>
 ob (aH (x163.1,x163.2.1,x163.2.2.1,x163.2.2.2.1,x163.2.2.2.2.1,x163.2.2.2.2.2.1,x163.2.2.2.2.2.2)) fun x164 =>
 bif !x164 then
 some ((x162.1),((x163.1),(IntKind.i64.wrap (x163.2.1 + (1 : Int))),(x163.2.2.1),(x163.2.2.2.1),(x163.2.2.2.2.1),(x163.2.2.2.2.2.1),(x163.2.2.2.2.2.2)))
 else
 some ((x162.1),((x163.1),(x163.2.1),(x163.2.2.1),(x163.2.2.2.1),(x163.2.2.2.2.1),(x163.2.2.2.2.2.1),(x163.2.2.2.2.2.2)))
 else
 ob (aU (v2.1,v2.2.1,v2.2.2.1,v2.2.2.2.1,v2.2.2.2.2.1,v2.2.2.2.2.2.1,v2.2.2.2.2.2.2) (4 : Int) (0 : Int)) fun x165 =>
 ob (aH (x165.1,x165.2.1,x165.2.2.1,x165.2.2.2.1,x165.2.2.2.2.1,x165.2.2.2.2.2.1,x165.2.2.2.2.2.2)) fun x166 =>
 bif !x166 then
 some ((x162.1),((x165.1),(IntKind.i64.wrap (x165.2.1 + (1 : Int))),(x165.2.2.1),(x165.2.2.2.1),(x165.2.2.2.2.1),(x165.2.2.2.2.2.1),(x165.2.2.2.2.2.2)))
 else
 some ((x162.1),((x165.1),(x165.2.1),(x165.2.2.1),(x165.2.2.2.1),(x165.2.2.2.2.1),(x165.2.2.2.2.2.1),(x165.2.2.2.2.2.2)))
 else
 none
 else
 none
 else
 some ((s91),((v2.1),(v2.2.1),(v2.2.2.1),(v2.2.2.2.1),(v2.2.2.2.2.1),(v2.2.2.2.2.2.1),(v2.2.2.2.2.2.2)))
theorem mM (k:Nat) (v0_0 v0_1 v0_2 v0_3:Int) (v1:List Int) (v2_0 v2_1 v2_2 v2_3 v2_4 v2_5 v2_6:Int):∀ (n:Nat) (s91:List Int) (s94:Int) (s95:Int) (s117:Int) ⦃s92:Bool⦄ ⦃s93:Bool⦄ ⦃j115 j116:V⦄,rt none (itX (xX (xS (k+23)) 209 0 (k+23) false) wI (9) (au (xX (xS (k+23)) 209 0 (k+23) false) (av (xS (k+23)).P Tryz.f209) wH) n ⟨[.agg [.lit (.int .i64 v0_0),.lit (.int .i64 v0_1),.lit (.int .i64 v0_2),.lit (.int .i64 v0_3)],.ro (List.map (aQ IntKind.u64) v1),.agg [.lit (.int .i64 v2_0),.lit (.int .i64 v2_1),.lit (.int .i64 v2_2),.lit (.int .u64 v2_3),.lit (.int .u64 v2_4),.lit (.int .u64 v2_5),.lit (.int .i64 v2_6)],.ptr 0 0 0 0,uu,.ptr 1 0 0 0,.own 2 0 0,.ptr 3 0 0 0,.ptr 5 0 0 0,.ptr 6 0 0 0,.ptr 7 0 0 0,.own 8 0 4,j115,j116,.ro (List.map (aQ IntKind.u64) v1),.ro (List.map (aQ IntKind.u64) s91),.agg [.lit (.int .i64 v0_0),.lit (.int .i64 v0_1),.lit (.int .i64 v0_2),.lit (.int .i64 v0_3)],.ro (List.map (aQ IntKind.u64) v1),.agg [.lit (.int .i64 v2_0),.lit (.int .i64 v2_1),.lit (.int .i64 v2_2),.lit (.int .u64 v2_3),.lit (.int .u64 v2_4),.lit (.int .u64 v2_5),.lit (.int .i64 v2_6)],.lit (.bool s92),.lit (.bool s93),uu,uu,.agg [.lit (.int .i64 v0_0),.lit (.int .i64 v0_1),.lit (.int .i64 v0_2),.lit (.int .i64 v0_3)],.ptr 1 0 0 2,.lit (.int .i64 v2_2),.lit (.int .i64 s94),.agg [.lit (.int .i64 v0_0),.lit (.int .i64 v0_1),.lit (.int .i64 v0_2),.lit (.int .i64 v0_3)],.ptr 1 0 0 2,.lit (.int .i64 v2_2),.lit (.int .i64 s95),.fn (Fn.func (229:FuncId)) [] [.ptr 5 0 0 0,.ptr 6 0 0 0,.ptr 1 0 0 0],.fn (Fn.func (230:FuncId)) [] [.ptr 5 0 0 0,.ptr 7 0 0 0,.ptr 1 0 0 0],.fn (Fn.func (231:FuncId)) [] [.ptr 5 0 0 0,.ptr 0 0 0 0,.ptr 1 0 0 0],.fn (Fn.func (232:FuncId)) [] [.ptr 5 0 0 0,.ptr 6 0 0 0,.ptr 1 0 0 0],.own 8 0 4,.own 8 0 4,.lit (.int .i64 (4:Int)),.lit (.int .i64 s117),.junk,.junk,.junk,.junk,.junk,.junk,.junk,.junk,.junk,.junk,.junk,.junk,.junk,.junk,.junk,.junk,.junk,.junk,uu,uu],[.box [.lit (.int .i64 v0_0),.lit (.int .i64 v0_1),.lit (.int .i64 v0_2),.lit (.int .i64 v0_3)],.box [.lit (.int .i64 v2_0),.lit (.int .i64 v2_1),.lit (.int .i64 v2_2),.lit (.int .u64 v2_3),.lit (.int .u64 v2_4),.lit (.int .u64 v2_5),.lit (.int .i64 v2_6)],.rows 0 [] 0 true,.box [.lit (.int .i64 (0:Int)),.lit (.int .i64 (0:Int)),.lit (.int .i64 (0:Int)),.lit (.int .u64 (0:Int)),.lit (.int .u64 (0:Int)),.lit (.int .u64 (0:Int)),.lit (.int .i64 (0:Int))],.rows 0 [] 0 true,.box [.ro (List.map (aQ IntKind.u64) s91)],.box [.lit (.int .i64 s94)],.box [.lit (.int .i64 s95)],.rows 1 [[.fn (Fn.func (229:FuncId)) [] [.ptr 5 0 0 0,.ptr 6 0 0 0,.ptr 1 0 0 0]],[.fn (Fn.func (230:FuncId)) [] [.ptr 5 0 0 0,.ptr 7 0 0 0,.ptr 1 0 0 0]],[.fn (Fn.func (231:FuncId)) [] [.ptr 5 0 0 0,.ptr 0 0 0 0,.ptr 1 0 0 0]],[.fn (Fn.func (232:FuncId)) [] [.ptr 5 0 0 0,.ptr 6 0 0 0,.ptr 1 0 0 0]]] 0 true]⟩)=ob (an k (v0_0,v0_1,v0_2,v0_3) v1 (v2_0,v2_1,v2_2,v2_3,v2_4,v2_5,v2_6)  n s91 s94 s95 s117) fun r=>some ((.tup [.ro (List.map (aQ .u64) r.1),.agg [.lit (.int .i64 r.2.1),.lit (.int .i64 r.2.2.1),.lit (.int .i64 r.2.2.2.1),.lit (.int .u64 r.2.2.2.2.1),.lit (.int .u64 r.2.2.2.2.2.1),.lit (.int .u64 r.2.2.2.2.2.2.1),.lit (.int .i64 r.2.2.2.2.2.2.2)]]),[]):=by
 intro n
 induction n with
 | zero=>intros;rfl
 | succ n ih=>
  intro s91 s94 s95 s117 s92 s93 j115 j116
  rw [an]
  simp (maxSteps:=2000000) -implicitDefEqProofs only [U6,RH,S4,Dx,md,Wk,Tx,V8,P7,Xz,PX,Uw,Tz,↓syP,syA,syD,simprocAttr,syE,ah,ag,af,syW,xQ,dn,gf,eJ,eC,kQ,fD,nz,iu,gF,J4,ih]
  all_goals simp -implicitDefEqProofs only [List.map_nil]
def fL (k:Nat) (v0:(Int×Int×Int×Int)) (v1:(List Int)) (v2:(Int×Int×Int×Int×Int×Int×Int)):Option ((List Int)×(Int×Int×Int×Int×Int×Int×Int)):=
 ob (aK 8 v1) fun x167=>
 ob (dV v0 v1 v2 2 4) fun x168=>
 bif !x168 then
 some (x167,v2)
 else
 ob (fN v0 v2.2.2.1) fun x169=>
 ob (cQ v0 v2.2.2.1) fun x170=>
 an k v0 v1 v2 (k+23) x167 x169 x170 0
theorem xE (k:Nat) (v0_0 v0_1 v0_2 v0_3:Int) (v1:List Int) (v2_0 v2_1 v2_2 v2_3 v2_4 v2_5 v2_6:Int):xC (k+24) none 209 [.agg [.lit (.int .i64 v0_0),.lit (.int .i64 v0_1),.lit (.int .i64 v0_2),.lit (.int .i64 v0_3)],.ro (List.map (aQ .u64) v1),.agg [.lit (.int .i64 v2_0),.lit (.int .i64 v2_1),.lit (.int .i64 v2_2),.lit (.int .u64 v2_3),.lit (.int .u64 v2_4),.lit (.int .u64 v2_5),.lit (.int .i64 v2_6)]]=ob (fL k (v0_0,v0_1,v0_2,v0_3) v1 (v2_0,v2_1,v2_2,v2_3,v2_4,v2_5,v2_6)) fun r=>some ((.tup [.ro (List.map (aQ .u64) r.1),.agg [.lit (.int .i64 r.2.1),.lit (.int .i64 r.2.2.1),.lit (.int .i64 r.2.2.2.1),.lit (.int .u64 r.2.2.2.2.1),.lit (.int .u64 r.2.2.2.2.2.1),.lit (.int .u64 r.2.2.2.2.2.2.1),.lit (.int .i64 r.2.2.2.2.2.2.2)]]),[]):=by
 rw [aN]
 unfold fL
 simp (maxSteps:=2000000) -implicitDefEqProofs only [U6,RH,S4,Dx,md,Wk,Tx,V8,P7,Xz,PX,Uw,Tz,↓syP,syA,syD,simprocAttr,syE,ah,ag,af,syW,xQ,kQ,fD,gF,mM k v0_0 v0_1 v0_2 v0_3 v1 v2_0 v2_1 v2_2 v2_3 v2_4 v2_5 v2_6]
 all_goals simp -implicitDefEqProofs only [List.map_nil]
def dN (k:Nat) (v0:(Int×Int×Int×Int)) (v1:(List Int)) (v2:(Int×Int×Int×Int×Int×Int×Int)):Option ((List Int)×(Int×Int×Int×Int×Int×Int×Int)):=
 bif v2.1==0 then
 ob (gr v0 v1 v2) fun x179=>
 some x179
 else
 bif v2.1==1 then
 ob (iS v0 v1 v2) fun x180=>
 some x180
 else
 bif v2.1==2 then
 ob (fL (k+1) v0 v1 v2) fun x181=>
 some x181
 else
 ob (aK 8 v1) fun x182=>
 some (x182,v2)
theorem Bp (k:Nat) (v0_0 v0_1 v0_2 v0_3:Int) (v1:List Int) (v2_0 v2_1 v2_2 v2_3 v2_4 v2_5 v2_6:Int):xC (k+26) none 180 [.agg [.lit (.int .i64 v0_0),.lit (.int .i64 v0_1),.lit (.int .i64 v0_2),.lit (.int .i64 v0_3)],.ro (List.map (aQ .u64) v1),.agg [.lit (.int .i64 v2_0),.lit (.int .i64 v2_1),.lit (.int .i64 v2_2),.lit (.int .u64 v2_3),.lit (.int .u64 v2_4),.lit (.int .u64 v2_5),.lit (.int .i64 v2_6)]]=ob (dN k (v0_0,v0_1,v0_2,v0_3) v1 (v2_0,v2_1,v2_2,v2_3,v2_4,v2_5,v2_6)) fun r=>some ((.tup [.ro (List.map (aQ .u64) r.1),.agg [.lit (.int .i64 r.2.1),.lit (.int .i64 r.2.2.1),.lit (.int .i64 r.2.2.2.1),.lit (.int .u64 r.2.2.2.2.1),.lit (.int .u64 r.2.2.2.2.2.1),.lit (.int .u64 r.2.2.2.2.2.2.1),.lit (.int .i64 r.2.2.2.2.2.2.2)]]),[]):=by
 rw [aN]
 unfold dN
 simp (maxSteps:=2000000) -implicitDefEqProofs only [abD,Vn,↓syP,syA,syD,simprocAttr,syE,ah,ag,af,syW,xQ,CT,F9,xE]
 all_goals simp -implicitDefEqProofs only [List.map_nil]
end Go.Ab
set_option maxRecDepth 100000
set_option linter.unusedVariables false
set_option linter.unusedSimpArgs false
namespace Go.Ab
open Go.Proofs
def eM (v0:Int) (v1:Int):Option Bool:=
 bif decide (0≤v0) then
 some (decide (v0≤v1))
 else
 some false
theorem uN (k:Nat) (v0 v1:Int):xC (k+1) none 172 [.lit (.int .i64 v0),.lit (.int .i64 v1)]=ob (eM v0 v1) fun r=>some ((.lit (.bool r)),[]):=by
 rw [aN]
 unfold eM
 simp (maxSteps:=2000000) -implicitDefEqProofs only [adS,Zh,Jv,oO,↓syP,syA,syD,simprocAttr,syE,ah,ag,af,syW,xQ]
 all_goals simp -implicitDefEqProofs only [List.map_nil]
def bF (k:Nat)   : Nat→Tye→Int→Tyt→Int→Option Int
 | 0,_,_,_,_=>none
 | n+1,s3,s4,s5,s13=>
 bif decide (s13<s4) then
 ob (idx s3 s13) fun x31=>
 ob (eM x31.1 (IntKind.i64.wrap ((↑s5.length:Int) - (1:Int)))) fun x32=>
 bif !x32 then
 some (s13)
 else
 ob (idx s5 x31.1) fun x33=>
 ob (eM x31.2.1 x33.1) fun x34=>
 bif !x34 then
 some (s13)
 else
 ob (eM x31.2.2 (↑x33.2.length:Int)) fun x35=>
 bif !x35 then
 some (s13)
 else
 bif decide (x31.2.1<x33.1) then
 bif decide ((0:Int)<x31.2.2) then
 some (s13)
 else
 bF k   n (s3) (s4) (s5) (IntKind.i64.wrap (s13+(1:Int)))
 else
 bF k   n (s3) (s4) (s5) (IntKind.i64.wrap (s13+(1:Int)))
 else
 some ((-1:Int))
theorem lI (k:Nat)  : ∀ (n:Nat) (s3:Tye) (s4:Int) (s5:Tyt) (s13:Int) ⦃j12:V⦄,itX (xX (xS (k+17)) 206 0 (k+17) false) wK (1) (au (xX (xS (k+17)) 206 0 (k+17) false) (av (xS (k+17)).P Tryz.f206) wT) n ⟨[.ro (List.map aE s3),.fn (Fn.func (171:FuncId)) [] [.ptr 0 0 0 0],uu,uu,.lit (.int .i64 (0:Int)),j12,.ro (List.map aE s3),.lit (.int .i64 s4),.lit (.int .i64 s13),.junk,.junk,.junk,.junk,.junk,.junk,.junk,.junk,.junk,.junk],[.box [.ro (List.map aA s5)]]⟩=ob (bF k   n s3 s4 s5 s13) fun r=>some ((.lit (.int .i64 r),[.box [.ro (List.map aA s5)]])):=by
 intro n
 induction n with
 | zero=>intros;rfl
 | succ n ih=>
  intro s3 s4 s5 s13 j12
  rw [bF]
  simp (maxSteps:=2000000) -implicitDefEqProofs only [XE,QM,CO,lP,WY,T8,YE,ST,Dq,Cd,B7,DC,Co,Dt,l9,UA,Qv,QU,Cf,lU,↓syP,syA,syD,simprocAttr,syE,ah,ag,af,syW,xQ,uN,G3,ih]
  all_goals simp -implicitDefEqProofs only [List.map_nil]
def eB (k:Nat) (v0:Tyt) (v1:Tye):Option Bool:=
 ob (dQ k v0) fun x38=>
 bif x38 then
 ob (bF k (k+17) v1 (↑v1.length:Int) v0 0) fun x39=>
 some (!decide (0≤x39))
 else
 some false
theorem lX (k:Nat) (v0:Tyt) (v1:Tye):xC (k+20) none 146 [.ro (List.map aA v0),.ro (List.map aE v1)]=ob (eB k v0 v1) fun r=>some ((.lit (.bool r)),[]):=by
 rw [aN]
 unfold eB
 simp (maxSteps:=2000000) -implicitDefEqProofs only [XE,QM,CO,lP,WY,T8,YE,ST,Dq,Cd,B7,DC,Co,Dt,l9,UA,Qv,QU,Cf,lU,↓syP,syA,syD,simprocAttr,syE,ah,ag,af,syW,xQ,kU,lI]
 all_goals simp -implicitDefEqProofs only [List.map_nil]
def a7 (k:Nat) (v0:Tye) (v1:Tye)  : Nat→Int→Option Bool
 | 0,_=>none
 | n+1,s46=>
 bif decide (s46<(↑v0.length:Int)) then
 ob (idx v0 s46) fun x51=>
 ob (idx v1 s46) fun x52=>
 bif !(x51.1==x52.1&&(x51.2.1==x52.2.1&&x51.2.2==x52.2.2)) then
 some (false)
 else
 a7 k v0 v1  n (IntKind.i64.wrap (s46+(1:Int)))
 else
 some (true)
theorem gc (k:Nat) (v0 v1:Tye):∀ (n:Nat) (s46:Int) ⦃j45:V⦄,rt none (itX (xX (xS k) 145 0 k false) wC (0) (au (xX (xS k) 145 0 k false) (av (xS k).P Tryz.f145) xq) n ⟨[.ro (List.map aE v0),.ro (List.map aE v1),uu,uu,.lit (.bool false),j45,.ro (List.map aE v0),.lit (.int .i64 (↑v0.length:Int)),.ro (List.map aE v1),.lit (.int .i64 (↑v1.length:Int)),.lit (.bool ((↑v0.length:Int)!=(↑v1.length:Int))),.ro (List.map aE v0),.lit (.int .i64 (↑v0.length:Int)),.lit (.int .i64 s46),.junk,.junk,.junk,.junk,.junk,.junk,.junk,.junk,.junk,.junk,.junk,.junk],[]⟩)=ob (a7 k v0 v1  n s46) fun r=>some ((.lit (.bool r)),[]):=by
 intro n
 induction n with
 | zero=>intros;rfl
 | succ n ih=>
  intro s46 j45
  rw [a7]
  simp (maxSteps:=2000000) -implicitDefEqProofs only [Wz,Q0,SX,DG,l8,↓syP,syA,syD,simprocAttr,syE,ah,ag,af,syW,xQ,Ig,ih]
  all_goals simp -implicitDefEqProofs only [List.map_nil]
def cD (k:Nat) (v0:Tye) (v1:Tye):Option Bool:=
 bif (↑v0.length:Int)!=(↑v1.length:Int) then
 some false
 else
 a7 k v0 v1 k 0
theorem kE (k:Nat) (v0 v1:Tye):xC (k+1) none 145 [.ro (List.map aE v0),.ro (List.map aE v1)]=ob (cD k v0 v1) fun r=>some ((.lit (.bool r)),[]):=by
 rw [aN]
 unfold cD
 simp (maxSteps:=2000000) -implicitDefEqProofs only [Wz,Q0,SX,DG,l8,↓syP,syA,syD,simprocAttr,syE,ah,ag,af,syW,xQ,gc k v0 v1]
 all_goals simp -implicitDefEqProofs only [List.map_nil]
def fM (k:Nat) (v0:Tye) (v1:Tye):Option Bool:=
 ob (cD k v0 v1) fun x54=>
 some x54
theorem Bj (k:Nat) (v0 v1:Tye):xC (k+2) none 92 [.ro (List.map aE v0),.ro (List.map aE v1)]=ob (fM k v0 v1) fun r=>some ((.lit (.bool r)),[]):=by
 rw [aN]
 unfold fM
 simp (maxSteps:=2000000) -implicitDefEqProofs only [afh,aee,↓syP,syA,syD,simprocAttr,syE,ah,ag,af,syW,xQ,kE]
 all_goals simp -implicitDefEqProofs only [List.map_nil]
def dk (k:Nat) (v0:Tyt) (v1:Tye):Option (Int×Int):=
 bif (↑v1.length:Int)==0 then
 some (0,0)
 else
 ob (eB k v0 v1) fun x60=>
 bif !x60 then
 some (0,0)
 else
 ob (idx v1 (IntKind.i64.wrap ((↑v1.length:Int) - 1))) fun x61=>
 ob (idx v0 x61.1) fun x62=>
 bif decide (x61.2.1<x62.1) then
 some (1,x61.1)
 else
 bif decide (x61.2.2<(↑x62.2.length:Int)) then
 ob (idx x62.2 x61.2.2) fun x63=>
 some (2,x63)
 else
 some (3,x61.1)
theorem ol (k:Nat) (v0:Tyt) (v1:Tye):xC (k+21) none 162 [.ro (List.map aA v0),.ro (List.map aE v1)]=ob (dk k v0 v1) fun r=>some ((.agg [.lit (.int .i64 r.1),.lit (.int .i64 r.2)]),[]):=by
 rw [aN]
 unfold dk
 simp (maxSteps:=2000000) -implicitDefEqProofs only [Z3,Ye,JH,pZ,↓syP,syA,syD,simprocAttr,syE,ah,ag,af,syW,xQ,lX]
 all_goals simp -implicitDefEqProofs only [List.map_nil]
def eH (k:Nat) (v0:Tyt) (v1:Tye):Option Tye:=
 ob (aK 24 v1) fun x74=>
 ob (dk k v0 v1) fun x75=>
 bif x75.1==1 then
 bif decide (0≤IntKind.i64.wrap ((↑x74.length:Int) - 1)∧(IntKind.i64.wrap ((↑x74.length:Int) - 1)).toNat<x74.length) then
 ob (x74[(IntKind.i64.wrap ((↑x74.length:Int) - 1)).toNat]?) fun x76=>
 bif decide (0≤IntKind.i64.wrap ((↑x74.length:Int) - 1)∧(IntKind.i64.wrap ((↑x74.length:Int) - 1)).toNat<x74.length) then
 ob (x74[(IntKind.i64.wrap ((↑x74.length:Int) - 1)).toNat]?) fun x77=>
 some (x74.set (IntKind.i64.wrap ((↑x74.length:Int) - 1)).toNat (x77.1,IntKind.i64.wrap (x76.2.1+1),x77.2.2))
 else
 none
 else
 none
 else
 bif x75.1==2 then
 bif decide (0≤IntKind.i64.wrap ((↑x74.length:Int) - 1)∧(IntKind.i64.wrap ((↑x74.length:Int) - 1)).toNat<x74.length) then
 ob (x74[(IntKind.i64.wrap ((↑x74.length:Int) - 1)).toNat]?) fun x78=>
 bif decide (0≤IntKind.i64.wrap ((↑x74.length:Int) - 1)∧(IntKind.i64.wrap ((↑x74.length:Int) - 1)).toNat<x74.length) then
 ob (x74[(IntKind.i64.wrap ((↑x74.length:Int) - 1)).toNat]?) fun x79=>
 some (x74.set (IntKind.i64.wrap ((↑x74.length:Int) - 1)).toNat (x79.1,x79.2.1,IntKind.i64.wrap (x78.2.2+1)))
 else
 none
 else
 none
 else
 bif x75.1==3 then
 ck (decide (0≤IntKind.i64.wrap ((↑x74.length:Int) - 1)∧(IntKind.i64.wrap ((↑x74.length:Int) - 1)).toNat≤x74.length)) (
 ck (decide ((IntKind.i64.wrap ((↑x74.length:Int) - 1)).toNat≤x74.length)) (
 some (List.take (IntKind.i64.wrap ((↑x74.length:Int) - 1)).toNat x74)))
 else
 some x74
theorem FX (k:Nat) (v0:Tyt) (v1:Tye):xC (k+22) none 163 [.ro (List.map aA v0),.ro (List.map aE v1)]=ob (eH k v0 v1) fun r=>some ((.ro (List.map aE r)),[]):=by
 rw [aN]
 unfold eH
 simp (maxSteps:=2000000) -implicitDefEqProofs only [acT,Zk,acX,Xs,aN (g:=182),ab0,Yf,adi,UQ,adA,WF,↓syP,syA,syD,simprocAttr,syE,ah,ag,af,syW,xQ,ol]
 all_goals simp -implicitDefEqProofs only [List.map_nil]
def cK (k:Nat) (v0:Tyt) (v1:Tye) (v2:Int):Option Tye:=
 ob (aK 24 v1) fun x89=>
 ob (eB k v0 v1) fun x90=>
 bif !x90 then
 some x89
 else
 ob (eM v2 (IntKind.i64.wrap ((↑v0.length:Int) - 1))) fun x91=>
 bif !x91 then
 some x89
 else
 bif room (x89++[(v2,0,0)]).length 24 then
 some (x89++[(v2,0,0)])
 else
 none
theorem wL (k:Nat) (v0:Tyt) (v1:Tye) (v2:Int):xC (k+21) none 181 [.ro (List.map aA v0),.ro (List.map aE v1),.lit (.int .i64 v2)]=ob (cK k v0 v1 v2) fun r=>some ((.ro (List.map aE r)),[]):=by
 rw [aN]
 unfold cK
 simp (maxSteps:=2000000) -implicitDefEqProofs only [abd,Yr,JY,pC,↓syP,syA,syD,simprocAttr,syE,ah,ag,af,syW,xQ,uN,lX]
 all_goals simp -implicitDefEqProofs only [List.map_nil]
end Go.Ab
set_option maxRecDepth 100000
set_option linter.unusedVariables false
set_option linter.unusedSimpArgs false
namespace Go.Ab
open Go.Proofs
def bQ (k:Nat) (v0:(Int×Int×Int×Int)) (v1:(List Int)) (v2:(Int×Int×Int×Int×Int×Int×Int)):Option ((List Int)×(Int×Int×Int×Int×Int×Int×Int)):=
 bif v2.1==5 then
 ob (gV v0 v1 v2) fun x6=>
 some x6
 else
 bif v2.1==6 then
 bif v2.1==6 then
 ob (ff k v0 v1 v2) fun x7=>
 some x7
 else
 ob (aK 8 v1) fun x8=>
 some (x8,v2)
 else
 bif v2.1==7 then
 ob (ff k v0 v1 v2) fun x9=>
 some x9
 else
 ob (aK 8 v1) fun x10=>
 some (x10,v2)
theorem oa (k:Nat) (v0_0 v0_1 v0_2 v0_3:Int) (v1:List Int) (v2_0 v2_1 v2_2 v2_3 v2_4 v2_5 v2_6:Int):xC (k+17) none 134 [.agg [.lit (.int .i64 v0_0),.lit (.int .i64 v0_1),.lit (.int .i64 v0_2),.lit (.int .i64 v0_3)],.ro (List.map (aQ .u64) v1),.agg [.lit (.int .i64 v2_0),.lit (.int .i64 v2_1),.lit (.int .i64 v2_2),.lit (.int .u64 v2_3),.lit (.int .u64 v2_4),.lit (.int .u64 v2_5),.lit (.int .i64 v2_6)]]=ob (bQ k (v0_0,v0_1,v0_2,v0_3) v1 (v2_0,v2_1,v2_2,v2_3,v2_4,v2_5,v2_6)) fun r=>some ((.tup [.ro (List.map (aQ .u64) r.1),.agg [.lit (.int .i64 r.2.1),.lit (.int .i64 r.2.2.1),.lit (.int .i64 r.2.2.2.1),.lit (.int .u64 r.2.2.2.2.1),.lit (.int .u64 r.2.2.2.2.2.1),.lit (.int .u64 r.2.2.2.2.2.2.1),.lit (.int .i64 r.2.2.2.2.2.2.2)]]),[]):=by
 rw [aN]
 unfold bQ
 simp (maxSteps:=2000000) -implicitDefEqProofs only [adQ,Y2,Ho,pp,↓syP,syA,syD,simprocAttr,syE,ah,ag,af,syW,xQ,C8,Dn]
 all_goals simp -implicitDefEqProofs only [List.map_nil]
def ld (v0:(Int×Int×Int×Int)) (v1:(List Int)):Option Bool:=
 ob (bU v0) fun x20=>
 bif x20 then
 ob (dC v0) fun x21=>
 some ((↑v1.length:Int)==x21)
 else
 some false
theorem GS (k:Nat) (v0_0 v0_1 v0_2 v0_3:Int) (v1:List Int):xC (k+4) none 105 [.agg [.lit (.int .i64 v0_0),.lit (.int .i64 v0_1),.lit (.int .i64 v0_2),.lit (.int .i64 v0_3)],.ro (List.map (aQ .u64) v1)]=ob (ld (v0_0,v0_1,v0_2,v0_3) v1) fun r=>some ((.lit (.bool r)),[]):=by
 rw [aN]
 unfold ld
 simp (maxSteps:=2000000) -implicitDefEqProofs only [aa9,Ve,Jp,rF,↓syP,syA,syD,simprocAttr,syE,ah,ag,af,syW,xQ,cM,iG]
 all_goals simp -implicitDefEqProofs only [List.map_nil]
def go (v0:(Int×Int×Int×Int)) (v1:(List Int)) (v2:(Int×Int×Int×Int×Int×Int×Int)) (v3:Int):Option Bool:=
 ob (ld v0 v1) fun x26=>
 bif x26 then
 ob (aH v2) fun x27=>
 bif !x27 then
 bif v2.1==v3 then
 bif decide (0≤v2.2.1) then
 some (decide (v2.2.1<5))
 else
 some false
 else
 some false
 else
 some false
 else
 some false
theorem rZ (k:Nat) (v0_0 v0_1 v0_2 v0_3:Int) (v1:List Int) (v2_0 v2_1 v2_2 v2_3 v2_4 v2_5 v2_6 v3:Int):xC (k+5) none 196 [.agg [.lit (.int .i64 v0_0),.lit (.int .i64 v0_1),.lit (.int .i64 v0_2),.lit (.int .i64 v0_3)],.ro (List.map (aQ .u64) v1),.agg [.lit (.int .i64 v2_0),.lit (.int .i64 v2_1),.lit (.int .i64 v2_2),.lit (.int .u64 v2_3),.lit (.int .u64 v2_4),.lit (.int .u64 v2_5),.lit (.int .i64 v2_6)],.lit (.int .i64 v3)]=ob (go (v0_0,v0_1,v0_2,v0_3) v1 (v2_0,v2_1,v2_2,v2_3,v2_4,v2_5,v2_6) v3) fun r=>some ((.lit (.bool r)),[]):=by
 rw [aN]
 unfold go
 simp (maxSteps:=2000000) -implicitDefEqProofs only [abo,Uv,Iy,HF,JZ,JW,pq,↓syP,syA,syD,simprocAttr,syE,ah,ag,af,syW,xQ,eJ,GS]
 all_goals simp -implicitDefEqProofs only [List.map_nil]
def fI (v0:(Int×Int×Int×Int)) (v1:Int):Option Int:=
 ob (bU v0) fun x36=>
 bif !x36 then
 some ((-1))
 else
 ob (dI 0 0 (IntKind.i64.wrap (v0.1 - 1))) fun x37=>
 bif !x37 then
 some ((-1))
 else
 bif IntKind.u64.wrap v0.2.2.1 !=0 then
 some (IntKind.i64.wrap (6+IntKind.i64.wrap (v1.tmod (IntKind.u64.wrap v0.2.2.1))))
 else
 none
theorem BR (k:Nat) (v0_0 v0_1 v0_2 v0_3 v1:Int):xC (k+12) none 203 [.agg [.lit (.int .i64 v0_0),.lit (.int .i64 v0_1),.lit (.int .i64 v0_2),.lit (.int .i64 v0_3)],.lit (.int .u64 v1)]=ob (fI (v0_0,v0_1,v0_2,v0_3) v1) fun r=>some ((.lit (.int .i64 r)),[]):=by
 rw [aN]
 unfold fI
 simp (maxSteps:=2000000) -implicitDefEqProofs only [Um,TJ,o9,fy,abB,Xg,aaZ,X0,↓syP,syA,syD,simprocAttr,syE,ah,ag,af,syW,xQ,ki,cM]
 all_goals simp -implicitDefEqProofs only [List.map_nil]
def iX (v0:(Int×Int×Int×Int)) (v1:Int):Option Int:=
 ob (bU v0) fun x42=>
 bif !x42 then
 some ((-1))
 else
 ob (dI 0 0 (IntKind.i64.wrap (v0.1 - 1))) fun x43=>
 bif !x43 then
 some ((-1))
 else
 bif IntKind.u64.wrap v0.2.2.1 !=0 then
 some (IntKind.i64.wrap (IntKind.i64.wrap (6+v0.2.2.1)+IntKind.i64.wrap (v1.tmod (IntKind.u64.wrap v0.2.2.1))))
 else
 none
theorem AM (k:Nat) (v0_0 v0_1 v0_2 v0_3 v1:Int):xC (k+12) none 205 [.agg [.lit (.int .i64 v0_0),.lit (.int .i64 v0_1),.lit (.int .i64 v0_2),.lit (.int .i64 v0_3)],.lit (.int .u64 v1)]=ob (iX (v0_0,v0_1,v0_2,v0_3) v1) fun r=>some ((.lit (.int .i64 r)),[]):=by
 rw [aN]
 unfold iX
 simp (maxSteps:=2000000) -implicitDefEqProofs only [Um,TJ,o9,fy,abS,U8,adG,Vv,↓syP,syA,syD,simprocAttr,syE,ah,ag,af,syW,xQ,ki,cM]
 all_goals simp -implicitDefEqProofs only [List.map_nil]
def iK (v0:(Int×Int×Int×Int)) (v1:(List Int)) (v2:(Int×Int×Int×Int×Int×Int×Int)):Option ((List Int)×(Int×Int×Int×Int×Int×Int×Int)):=
 ob (aK 8 v1) fun x59=>
 ob (go v0 v1 v2 3) fun x60=>
 bif !x60 then
 some (x59,v2)
 else
 bif decide (0≤v2.2.1∧v2.2.1.toNat<5) then
 bif v2.2.1.toNat==0 then
 ob (aG x59 5) fun x61=>
 some (x59,(v2.1,1,v2.2.2.1,v2.2.2.2.1,x61,v2.2.2.2.2.2))
 else
 bif v2.2.1.toNat==1 then
 ob (fI v0 v2.2.2.2.2.1) fun x62=>
 ob (aG x59 x62) fun x63=>
 bif IntKind.u64.wrap v0.2.2.1 !=0 then
 bif x63==IntKind.u64.wrap (IntKind.u64.wrap (v2.2.2.2.2.1.tdiv (IntKind.u64.wrap v0.2.2.1))*2) then
 some (x59,(v2.1,2,v2.2.2.1,v2.2.2.2.1,v2.2.2.2.2.1,x63,v2.2.2.2.2.2.2))
 else
 bif IntKind.u64.wrap v0.2.2.1 !=0 then
 ob (d9 x63 (IntKind.u64.wrap (IntKind.u64.wrap (v2.2.2.2.2.1.tdiv (IntKind.u64.wrap v0.2.2.1))*2))) fun x64=>
 bif decide (x64<0) then
 ob (aU (v2.1,v2.2.1,v2.2.2.1,v2.2.2.2.1,v2.2.2.2.2.1,x63,v2.2.2.2.2.2.2) 2 v2.2.2.2.1) fun x65=>
 some (x59,(x65.1,0,x65.2.2))
 else
 some (x59,(v2.1,0,v2.2.2.1,v2.2.2.2.1,v2.2.2.2.2.1,x63,v2.2.2.2.2.2.2))
 else
 none
 else
 none
 else
 bif v2.2.1.toNat==2 then
 ob (cH x59 5 v2.2.2.2.2.1 (IntKind.u64.wrap (v2.2.2.2.2.1+1))) fun x66=>
 bif x66.2 then
 some (x66.1,(v2.1,3,v2.2.2))
 else
 some (x66.1,(v2.1,0,v2.2.2))
 else
 bif v2.2.1.toNat==3 then
 ob (iX v0 v2.2.2.2.2.1) fun x67=>
 ob (br x59 x67 v2.2.2.2.1) fun x68=>
 some (x68,(v2.1,4,v2.2.2))
 else
 bif v2.2.1.toNat==4 then
 ob (fI v0 v2.2.2.2.2.1) fun x69=>
 bif IntKind.u64.wrap v0.2.2.1 !=0 then
 ob (br x59 x69 (IntKind.u64.wrap (IntKind.u64.wrap (IntKind.u64.wrap (v2.2.2.2.2.1.tdiv (IntKind.u64.wrap v0.2.2.1))*2)+1))) fun x70=>
 ob (aU v2 1 v2.2.2.2.1) fun x71=>
 some (x70,(x71.1,0,x71.2.2))
 else
 none
 else
 none
 else
 none
theorem FJ (k:Nat) (v0_0 v0_1 v0_2 v0_3:Int) (v1:List Int) (v2_0 v2_1 v2_2 v2_3 v2_4 v2_5 v2_6:Int):xC (k+24) none 167 [.agg [.lit (.int .i64 v0_0),.lit (.int .i64 v0_1),.lit (.int .i64 v0_2),.lit (.int .i64 v0_3)],.ro (List.map (aQ .u64) v1),.agg [.lit (.int .i64 v2_0),.lit (.int .i64 v2_1),.lit (.int .i64 v2_2),.lit (.int .u64 v2_3),.lit (.int .u64 v2_4),.lit (.int .u64 v2_5),.lit (.int .i64 v2_6)]]=ob (iK (v0_0,v0_1,v0_2,v0_3) v1 (v2_0,v2_1,v2_2,v2_3,v2_4,v2_5,v2_6)) fun r=>some ((.tup [.ro (List.map (aQ .u64) r.1),.agg [.lit (.int .i64 r.2.1),.lit (.int .i64 r.2.2.1),.lit (.int .i64 r.2.2.2.1),.lit (.int .u64 r.2.2.2.2.1),.lit (.int .u64 r.2.2.2.2.2.1),.lit (.int .u64 r.2.2.2.2.2.2.1),.lit (.int .i64 r.2.2.2.2.2.2.2)]]),[]):=by
 rw [aN]
 unfold iK
 simp (maxSteps:=2000000) -implicitDefEqProofs only [Z1,X5,adU,YF,aaE,VN,acO,Yq,ab4,Xp,aaY,UC,ZX,XB,aaz,WO,↓syP,syA,syD,simprocAttr,syE,ah,ag,af,syW,xQ,dn,dO,gf,eC,iu,rZ,BR,AM]
 all_goals simp -implicitDefEqProofs only [List.map_nil]
def gi (v0:(Int×Int×Int×Int)) (v1:Int):Option Int:=
 bif IntKind.u64.wrap v0.2.2.1 !=0 then
 some (IntKind.u64.wrap (IntKind.u64.wrap (IntKind.u64.wrap (v1.tdiv (IntKind.u64.wrap v0.2.2.1))*2)+1))
 else
 none
theorem GL (k:Nat) (v0_0 v0_1 v0_2 v0_3 v1:Int):xC (k+1) none 204 [.agg [.lit (.int .i64 v0_0),.lit (.int .i64 v0_1),.lit (.int .i64 v0_2),.lit (.int .i64 v0_3)],.lit (.int .u64 v1)]=ob (gi (v0_0,v0_1,v0_2,v0_3) v1) fun r=>some ((.lit (.int .u64 r)),[]):=by
 rw [aN]
 unfold gi
 simp (maxSteps:=2000000) -implicitDefEqProofs only [aag,Yd,↓syP,syA,syD,simprocAttr,syE,ah,ag,af,syW,xQ]
 all_goals simp -implicitDefEqProofs only [List.map_nil]
def iw (v0:(Int×Int×Int×Int)) (v1:(List Int)) (v2:(Int×Int×Int×Int×Int×Int×Int)):Option ((List Int)×(Int×Int×Int×Int×Int×Int×Int)):=
 ob (aK 8 v1) fun x109=>
 ob (go v0 v1 v2 4) fun x110=>
 bif !x110 then
 some (x109,v2)
 else
 bif v2.2.1==0 then
 ob (aG x109 4) fun x111=>
 some (x109,(v2.1,1,v2.2.2.1,v2.2.2.2.1,x111,v2.2.2.2.2.2))
 else
 bif v2.2.1==1 then
 ob (fI v0 v2.2.2.2.2.1) fun x112=>
 ob (aG x109 x112) fun x113=>
 ob (gi v0 v2.2.2.2.2.1) fun x114=>
 ob (d9 x113 x114) fun x115=>
 bif x115==0 then
 some (x109,(v2.1,2,v2.2.2.1,v2.2.2.2.1,v2.2.2.2.2.1,x113,v2.2.2.2.2.2.2))
 else
 bif decide (x115<0) then
 ob (aU (v2.1,0,v2.2.2.1,v2.2.2.2.1,v2.2.2.2.2.1,x113,v2.2.2.2.2.2.2) 3 0) fun x116=>
 some (x109,x116)
 else
 some (x109,(v2.1,0,v2.2.2.1,v2.2.2.2.1,v2.2.2.2.2.1,x113,v2.2.2.2.2.2.2))
 else
 bif v2.2.1==2 then
 ob (cH x109 4 v2.2.2.2.2.1 (IntKind.u64.wrap (v2.2.2.2.2.1+1))) fun x117=>
 bif x117.2 then
 some (x117.1,(v2.1,3,v2.2.2))
 else
 some (x117.1,(v2.1,0,v2.2.2))
 else
 bif v2.2.1==3 then
 ob (iX v0 v2.2.2.2.2.1) fun x118=>
 ob (aG x109 x118) fun x119=>
 some (x109,(v2.1,4,v2.2.2.1,x119,v2.2.2.2.2))
 else
 ob (fI v0 v2.2.2.2.2.1) fun x120=>
 ob (gi v0 v2.2.2.2.2.1) fun x121=>
 ob (br x109 x120 (IntKind.u64.wrap (x121+1))) fun x122=>
 ob (aU v2 1 v2.2.2.2.1) fun x123=>
 some (x122,x123)
theorem FL (k:Nat) (v0_0 v0_1 v0_2 v0_3:Int) (v1:List Int) (v2_0 v2_1 v2_2 v2_3 v2_4 v2_5 v2_6:Int):xC (k+13) none 168 [.agg [.lit (.int .i64 v0_0),.lit (.int .i64 v0_1),.lit (.int .i64 v0_2),.lit (.int .i64 v0_3)],.ro (List.map (aQ .u64) v1),.agg [.lit (.int .i64 v2_0),.lit (.int .i64 v2_1),.lit (.int .i64 v2_2),.lit (.int .u64 v2_3),.lit (.int .u64 v2_4),.lit (.int .u64 v2_5),.lit (.int .i64 v2_6)]]=ob (iw (v0_0,v0_1,v0_2,v0_3) v1 (v2_0,v2_1,v2_2,v2_3,v2_4,v2_5,v2_6)) fun r=>some ((.tup [.ro (List.map (aQ .u64) r.1),.agg [.lit (.int .i64 r.2.1),.lit (.int .i64 r.2.2.1),.lit (.int .i64 r.2.2.2.1),.lit (.int .u64 r.2.2.2.2.1),.lit (.int .u64 r.2.2.2.2.2.1),.lit (.int .u64 r.2.2.2.2.2.2.1),.lit (.int .i64 r.2.2.2.2.2.2.2)]]),[]):=by
 rw [aN]
 unfold iw
 simp (maxSteps:=2000000) -implicitDefEqProofs only [adR,Ut,J8,pF,↓syP,syA,syD,simprocAttr,syE,ah,ag,af,syW,xQ,dn,dO,gf,eC,iu,rZ,BR,AM,GL]
 all_goals simp -implicitDefEqProofs only [List.map_nil]
def bk (v0:(Int×Int×Int×Int)) (v1:(List Int)) (v2:(Int×Int×Int×Int×Int×Int×Int)):Option ((List Int)×(Int×Int×Int×Int×Int×Int×Int)):=
 bif v2.1==3 then
 ob (iK v0 v1 v2) fun x142=>
 some x142
 else
 bif v2.1==4 then
 ob (iw v0 v1 v2) fun x143=>
 some x143
 else
 ob (aK 8 v1) fun x144=>
 some (x144,v2)
theorem mW (k:Nat) (v0_0 v0_1 v0_2 v0_3:Int) (v1:List Int) (v2_0 v2_1 v2_2 v2_3 v2_4 v2_5 v2_6:Int):xC (k+26) none 135 [.agg [.lit (.int .i64 v0_0),.lit (.int .i64 v0_1),.lit (.int .i64 v0_2),.lit (.int .i64 v0_3)],.ro (List.map (aQ .u64) v1),.agg [.lit (.int .i64 v2_0),.lit (.int .i64 v2_1),.lit (.int .i64 v2_2),.lit (.int .u64 v2_3),.lit (.int .u64 v2_4),.lit (.int .u64 v2_5),.lit (.int .i64 v2_6)]]=ob (bk (v0_0,v0_1,v0_2,v0_3) v1 (v2_0,v2_1,v2_2,v2_3,v2_4,v2_5,v2_6)) fun r=>some ((.tup [.ro (List.map (aQ .u64) r.1),.agg [.lit (.int .i64 r.2.1),.lit (.int .i64 r.2.2.1),.lit (.int .i64 r.2.2.2.1),.lit (.int .u64 r.2.2.2.2.1),.lit (.int .u64 r.2.2.2.2.2.1),.lit (.int .u64 r.2.2.2.2.2.2.1),.lit (.int .i64 r.2.2.2.2.2.2.2)]]),[]):=by
 rw [aN]
 unfold bk
 simp (maxSteps:=2000000) -implicitDefEqProofs only [acb,XW,↓syP,syA,syD,simprocAttr,syE,ah,ag,af,syW,xQ,FJ,FL]
 all_goals simp -implicitDefEqProofs only [List.map_nil]
end Go.Ab
set_option maxRecDepth 100000
set_option linter.unusedVariables false
set_option linter.unusedSimpArgs false
namespace Go.Ab
open Go.Proofs
def gl (k:Nat) (v0:(Int×Int×Int×Int)) (v1:Tyt) (v2:(List Int)) (v3:Int) (v4:Tyw):Option Bool:=
 ob (bU v0) fun x5=>
 bif x5 then
 ob (dC v0) fun x6=>
 bif (↑v2.length:Int)==x6 then
 ob (dQ (k+4) v1) fun x7=>
 bif x7 then
 bif decide (0≤v3) then
 bif decide (v3<v0.1) then
 bif decide (0≤v4.1) then
 bif decide (v4.1<16) then
 ob (eB (k+3) v1 v4.2.1) fun x8=>
 some x8
 else
 some false
 else
 some false
 else
 some false
 else
 some false
 else
 some false
 else
 some false
 else
 some false
theorem uE (k:Nat) (v0_0 v0_1 v0_2 v0_3:Int) (v1:Tyt) (v2:List Int) (v3 v4_0:Int) (v4_1:Tye) (v4_2_0 v4_2_1 v4_2_2 v4_2_3 v4_2_4 v4_2_5 v4_2_6 v4_3 v4_4:Int):xC (k+24) none 95 [.agg [.lit (.int .i64 v0_0),.lit (.int .i64 v0_1),.lit (.int .i64 v0_2),.lit (.int .i64 v0_3)],.ro (List.map aA v1),.ro (List.map (aQ .u64) v2),.lit (.int .i64 v3),.agg [.lit (.int .i64 v4_0),.ro (List.map aE v4_1),.lit (.int .i64 v4_2_0),.lit (.int .i64 v4_2_1),.lit (.int .i64 v4_2_2),.lit (.int .u64 v4_2_3),.lit (.int .u64 v4_2_4),.lit (.int .u64 v4_2_5),.lit (.int .i64 v4_2_6),.lit (.int .i64 v4_3),.lit (.int .i64 v4_4)]]=ob (gl k (v0_0,v0_1,v0_2,v0_3) v1 v2 v3 (v4_0,v4_1,(v4_2_0,v4_2_1,v4_2_2,v4_2_3,v4_2_4,v4_2_5,v4_2_6),v4_3,v4_4)) fun r=>some ((.lit (.bool r)),[]):=by
 rw [aN]
 unfold gl
 simp (maxSteps:=2000000) -implicitDefEqProofs only [afa,ad2,OW,OX,PI,OB,O3,Pv,PT,uL,↓syP,syA,syD,simprocAttr,syE,ah,ag,af,syW,xQ,kU,cM,iG,lX]
 all_goals simp -implicitDefEqProofs only [List.map_nil]
def gU (k:Nat) (v0:Tyw) (v1:Tyw):Option Bool:=
 bif v0.1==v1.1 then
 bif v0.2.2.1.1==v1.2.2.1.1&&(v0.2.2.1.2.1==v1.2.2.1.2.1&&(v0.2.2.1.2.2.1==v1.2.2.1.2.2.1&&(v0.2.2.1.2.2.2.1==v1.2.2.1.2.2.2.1&&(v0.2.2.1.2.2.2.2.1==v1.2.2.1.2.2.2.2.1&&(v0.2.2.1.2.2.2.2.2.1==v1.2.2.1.2.2.2.2.2.1&&v0.2.2.1.2.2.2.2.2.2==v1.2.2.1.2.2.2.2.2.2))))) then
 bif v0.2.2.2.1==v1.2.2.2.1 then
 bif v0.2.2.2.2==v1.2.2.2.2 then
 ob (fM k v0.2.1 v1.2.1) fun x14=>
 some x14
 else
 some false
 else
 some false
 else
 some false
 else
 some false
theorem Cb (k:Nat) (v0_0:Int) (v0_1:Tye) (v0_2_0 v0_2_1 v0_2_2 v0_2_3 v0_2_4 v0_2_5 v0_2_6 v0_3 v0_4 v1_0:Int) (v1_1:Tye) (v1_2_0 v1_2_1 v1_2_2 v1_2_3 v1_2_4 v1_2_5 v1_2_6 v1_3 v1_4:Int):xC (k+3) none 47 [.agg [.lit (.int .i64 v0_0),.ro (List.map aE v0_1),.lit (.int .i64 v0_2_0),.lit (.int .i64 v0_2_1),.lit (.int .i64 v0_2_2),.lit (.int .u64 v0_2_3),.lit (.int .u64 v0_2_4),.lit (.int .u64 v0_2_5),.lit (.int .i64 v0_2_6),.lit (.int .i64 v0_3),.lit (.int .i64 v0_4)],.agg [.lit (.int .i64 v1_0),.ro (List.map aE v1_1),.lit (.int .i64 v1_2_0),.lit (.int .i64 v1_2_1),.lit (.int .i64 v1_2_2),.lit (.int .u64 v1_2_3),.lit (.int .u64 v1_2_4),.lit (.int .u64 v1_2_5),.lit (.int .i64 v1_2_6),.lit (.int .i64 v1_3),.lit (.int .i64 v1_4)]]=ob (gU k (v0_0,v0_1,(v0_2_0,v0_2_1,v0_2_2,v0_2_3,v0_2_4,v0_2_5,v0_2_6),v0_3,v0_4) (v1_0,v1_1,(v1_2_0,v1_2_1,v1_2_2,v1_2_3,v1_2_4,v1_2_5,v1_2_6),v1_3,v1_4)) fun r=>some ((.lit (.bool r)),[]):=by
 rw [aN]
 unfold gU
 simp (maxSteps:=2000000) -implicitDefEqProofs only [aeF,adX,Oa,OZ,PU,OK,uD,↓syP,syA,syD,simprocAttr,syE,ah,ag,af,syW,xQ,Bj]
 all_goals simp -implicitDefEqProofs only [List.map_nil]
end Go.Ab
set_option maxRecDepth 100000
set_option linter.unusedVariables false
set_option linter.unusedSimpArgs false
namespace Go.Ab
open Go.Proofs
def eN (k:Nat) (v0:(Int×Int×Int×Int)) (v1:Tyt) (v2:(List Int)) (v3:Tys):Option Bool:=
 ob (bU v0) fun x6=>
 bif x6 then
 ob (dC v0) fun x7=>
 bif (↑v2.length:Int)==x7 then
 ob (dQ (k+4) v1) fun x8=>
 bif x8 then
 bif decide (0≤v3.1) then
 bif decide (v3.1<6) then
 bif decide (0<(↑v3.2.1.length:Int)) then
 ob (idx v3.2.1 0) fun x9=>
 bif decide (0≤x9) then
 ob (idx v3.2.1 0) fun x10=>
 some (decide (x10<(↑v1.length:Int)))
 else
 some false
 else
 some false
 else
 some false
 else
 some false
 else
 some false
 else
 some false
 else
 some false
theorem oi (k:Nat) (v0_0 v0_1 v0_2 v0_3:Int) (v1:Tyt) (v2:List Int) (v3_0:Int) (v3_1:List Int) (v3_2_0 v3_2_1 v3_2_2 v3_2_3 v3_2_4 v3_2_5 v3_2_6:Int):xC (k+24) none 85 [.agg [.lit (.int .i64 v0_0),.lit (.int .i64 v0_1),.lit (.int .i64 v0_2),.lit (.int .i64 v0_3)],.ro (List.map aA v1),.ro (List.map (aQ .u64) v2),.agg [.lit (.int .i64 v3_0),.ro (List.map (aQ .i64) v3_1),.lit (.int .i64 v3_2_0),.lit (.int .i64 v3_2_1),.lit (.int .i64 v3_2_2),.lit (.int .u64 v3_2_3),.lit (.int .u64 v3_2_4),.lit (.int .u64 v3_2_5),.lit (.int .i64 v3_2_6)]]=ob (eN k (v0_0,v0_1,v0_2,v0_3) v1 v2 (v3_0,v3_1,(v3_2_0,v3_2_1,v3_2_2,v3_2_3,v3_2_4,v3_2_5,v3_2_6))) fun r=>some ((.lit (.bool r)),[]):=by
 rw [aN]
 unfold eN
 simp (maxSteps:=2000000) -implicitDefEqProofs only [afc,ad5,Pm,PL,OE,PP,OA,O8,OU,uG,↓syP,syA,syD,simprocAttr,syE,ah,ag,af,syW,xQ,kU,cM,iG]
 all_goals simp -implicitDefEqProofs only [List.map_nil]
def eY (k : Nat) (v0 : (Int × Int × Int × Int)) (v1 : (List (Int × List Int))) (v2 : (List Int)) (v3 : Int) (v4 : (Int × List Int × Int × Int × Int × Int × Int × Int × Int)) : Option ((List Int) × (Int × List Int × Int × Int × Int × Int × Int × Int × Int) × (List (Int × Int × Int))) :=
 ob (aK 8 v2) fun x38 =>
 ob (aK 8 v4.2.1) fun x39 =>
 ob (eN (k + 15) v0 v1 v2 v4) fun x40 =>
 bif !x40 then
 some (x38,(v4.1,x39,v4.2.2),[])
 else
 ob (idx x39 0) fun x41 =>
 bif v4.1 == 0 then
 ob (aG x38 3) fun x42 =>
 bif x42 != 0 then
 bif room 1 24 then
 bif decide (1 ≤ (↑x39.length : Int)) then
 some (x38,(0,(List.drop (Int.toNat 1) x39),(0,0,0,0,0,0,0)),([(1,x41,v3)]))
 else
 none
 else
 none
 else
 some (x38,(1,x39,v4.2.2),[])
 else
 bif v4.1 == 1 then
 ob (cI x38 0 1) fun x43 =>
 ob (aF 3 v3 (IntKind.u64.wrap x41)) fun x44 =>
 some (x43.1,(2,x39,x44),[])
 else
 bif v4.1 == 2 then
 bif v4.2.2.1 == 3 then
 ob (bk v0 x38 v4.2.2) fun x45 =>
 ob (aH x45.2) fun x46 =>
 bif !x46 then
 some (x45.1,(v4.1,x39,x45.2),[])
 else
 bif x45.2.2.2.2.2.2.2 != 2 then
 bif room 1 24 then
 some (x45.1,(3,x39,x45.2),([(0,x41,v3)]))
 else
 none
 else
 some (x45.1,(5,x39,x45.2),[])
 else
 bif v4.2.2.1 == 4 then
 ob (bk v0 x38 v4.2.2) fun x47 =>
 ob (aH x47.2) fun x48 =>
 bif !x48 then
 some (x47.1,(v4.1,x39,x47.2),[])
 else
 bif x47.2.2.2.2.2.2.2 != 2 then
 bif room 1 24 then
 some (x47.1,(3,x39,x47.2),([(0,x41,v3)]))
 else
 none
 else
 some (x47.1,(5,x39,x47.2),[])
 else
 ob (bQ (k + 20) v0 x38 v4.2.2) fun x49 =>
 ob (aH x49.2) fun x50 =>
 bif !x50 then
 some (x49.1,(v4.1,x39,x49.2),[])
 else
 bif x49.2.2.2.2.2.2.2 != 2 then
 bif room 1 24 then
 some (x49.1,(3,x39,x49.2),([(0,x41,v3)]))
 else
 none
 else
 some (x49.1,(5,x39,x49.2),[])
 else
 bif v4.1 == 3 then
 ob (aG x38 1) fun x51 =>
 bif x51 != 0 then
 bif decide (1 ≤ (↑x39.length : Int)) then
 some (x38,(0,(List.drop (Int.toNat 1) x39),(0,0,0,0,0,0,0)),[])
 else
 none
 else
 ob (aF 6 v3 0) fun x52 =>
 some (x38,(4,x39,x52),[])
 else
 bif v4.1 == 4 then
 bif v4.2.2.1 == 3 then
 ob (bk v0 x38 v4.2.2) fun x53 =>
 ob (aH x53.2) fun x54 =>
 bif x54 then
 bif decide (1 ≤ (↑x39.length : Int)) then
 some (x53.1,(0,(List.drop (Int.toNat 1) x39),(0,0,0,0,0,0,0)),[])
 else
 none
 else
 some (x53.1,(v4.1,x39,x53.2),[])
 else
 bif v4.2.2.1 == 4 then
 ob (bk v0 x38 v4.2.2) fun x55 =>
 ob (aH x55.2) fun x56 =>
 bif x56 then
 bif decide (1 ≤ (↑x39.length : Int)) then
 some (x55.1,(0,(List.drop (Int.toNat 1) x39),(0,0,0,0,0,0,0)),[])
 else
 none
 else
 some (x55.1,(v4.1,x39,x55.2),[])
 else
 ob (bQ (k + 20) v0 x38 v4.2.2) fun x57 =>
 ob (aH x57.2) fun x58 =>
 bif x58 then
 bif decide (1 ≤ (↑x39.length : Int)) then
 some (x57.1,(0,(List.drop (Int.toNat 1) x39),(0,0,0,0,0,0,0)),[])
 else
 none
 else
 some (x57.1,(v4.1,x39,x57.2),[])
 else
 bif v4.1 == 5 then
 ob (cI x38 0 18446744073709551615) fun x59 =>
 bif room 1 24 then
 bif x59.2 == 1 then
 bif room 2 24 then
 bif decide (1 ≤ (↑x39.length : Int)) then
 some (x59.1,(0,(List.drop (Int.toNat 1) x39),(0,0,0,0,0,0,0)),([(1,x41,v3),(5,0,v3)]))
 else
 none
 else
 none
 else
 bif decide (1 ≤ (↑x39.length : Int)) then
 some (x59.1,(0,(List.drop (Int.toNat 1) x39),(0,0,0,0,0,0,0)),([(1,x41,v3)]))
 else
 none
 else
 none
 else
 none
theorem wO (k : Nat) (v0_0 v0_1 v0_2 v0_3 : Int) (v1 : List (Int × List Int)) (v2 : List Int) (v3 v4_0 : Int) (v4_1 : List Int) (v4_2_0 v4_2_1 v4_2_2 v4_2_3 v4_2_4 v4_2_5 v4_2_6 : Int) : xC (k + 40) none 86 [.agg [.lit (.int .i64 v0_0),.lit (.int .i64 v0_1),.lit (.int .i64 v0_2),.lit (.int .i64 v0_3)],.ro (List.map aA v1),.ro (List.map (aQ .u64) v2),.lit (.int .i64 v3),.agg [.lit (.int .i64 v4_0),.ro (List.map (aQ .i64) v4_1),.lit (.int .i64 v4_2_0),.lit (.int .i64 v4_2_1),.lit (.int .i64 v4_2_2),.lit (.int .u64 v4_2_3),.lit (.int .u64 v4_2_4),.lit (.int .u64 v4_2_5),.lit (.int .i64 v4_2_6)]] = ob (eY k (v0_0,v0_1,v0_2,v0_3) v1 v2 v3 (v4_0,v4_1,(v4_2_0,v4_2_1,v4_2_2,v4_2_3,v4_2_4,v4_2_5,v4_2_6))) fun r => some ((.tup [.ro (List.map (aQ .u64) r.1),.agg [.lit (.int .i64 r.2.1.1),.ro (List.map (aQ .i64) r.2.1.2.1),.lit (.int .i64 r.2.1.2.2.1),.lit (.int .i64 r.2.1.2.2.2.1),.lit (.int .i64 r.2.1.2.2.2.2.1),.lit (.int .u64 r.2.1.2.2.2.2.2.1),.lit (.int .u64 r.2.1.2.2.2.2.2.2.1),.lit (.int .u64 r.2.1.2.2.2.2.2.2.2.1),.lit (.int .i64 r.2.1.2.2.2.2.2.2.2.2)],.ro (List.map aE r.2.2)]),[]) := by
  rw [aN]
  unfold eY
  simp (maxSteps := 2000000) -implicitDefEqProofs only [aeQ,aeb,ac0,XG,acA,XN,ac6,X4,IX,IQ,oT,oV,ZV,VR,adu,YN,aa4,Wi,aaD,Yg,acs,XA,abn,YO,↓syP,syA,syD,simprocAttr,syE,ah,ag,af,syW,xQ,dn,uP,mV,eJ,oa,mW,oi]
  all_goals simp -implicitDefEqProofs only [List.map_nil]
def eQ (k:Nat) (v0:Tys) (v1:Tys):Option Bool:=
 bif v0.1==v1.1 then
 bif v0.2.2.1==v1.2.2.1&&(v0.2.2.2.1==v1.2.2.2.1&&(v0.2.2.2.2.1==v1.2.2.2.2.1&&(v0.2.2.2.2.2.1==v1.2.2.2.2.2.1&&(v0.2.2.2.2.2.2.1==v1.2.2.2.2.2.2.1&&(v0.2.2.2.2.2.2.2.1==v1.2.2.2.2.2.2.2.1&&v0.2.2.2.2.2.2.2.2==v1.2.2.2.2.2.2.2.2))))) then
 ob (b8 k v0.2.1 v1.2.1) fun x83=>
 some x83
 else
 some false
 else
 some false
theorem xj (k:Nat) (v0_0:Int) (v0_1:List Int) (v0_2_0 v0_2_1 v0_2_2 v0_2_3 v0_2_4 v0_2_5 v0_2_6 v1_0:Int) (v1_1:List Int) (v1_2_0 v1_2_1 v1_2_2 v1_2_3 v1_2_4 v1_2_5 v1_2_6:Int):xC (k+2) none 49 [.agg [.lit (.int .i64 v0_0),.ro (List.map (aQ .i64) v0_1),.lit (.int .i64 v0_2_0),.lit (.int .i64 v0_2_1),.lit (.int .i64 v0_2_2),.lit (.int .u64 v0_2_3),.lit (.int .u64 v0_2_4),.lit (.int .u64 v0_2_5),.lit (.int .i64 v0_2_6)],.agg [.lit (.int .i64 v1_0),.ro (List.map (aQ .i64) v1_1),.lit (.int .i64 v1_2_0),.lit (.int .i64 v1_2_1),.lit (.int .i64 v1_2_2),.lit (.int .u64 v1_2_3),.lit (.int .u64 v1_2_4),.lit (.int .u64 v1_2_5),.lit (.int .i64 v1_2_6)]]=ob (eQ k (v0_0,v0_1,(v0_2_0,v0_2_1,v0_2_2,v0_2_3,v0_2_4,v0_2_5,v0_2_6)) (v1_0,v1_1,(v1_2_0,v1_2_1,v1_2_2,v1_2_3,v1_2_4,v1_2_5,v1_2_6))) fun r=>some ((.lit (.bool r)),[]):=by
 rw [aN]
 unfold eQ
 simp (maxSteps:=2000000) -implicitDefEqProofs only [aeK,aed,Pg,OV,ui,↓syP,syA,syD,simprocAttr,syE,ah,ag,af,syW,xQ,ia]
 all_goals simp -implicitDefEqProofs only [List.map_nil]
end Go.Ab
set_option maxRecDepth 100000
set_option linter.unusedVariables false
set_option linter.unusedSimpArgs false
namespace Go.Ab
open Go.Proofs
def oI {β:Type} (k:Nat) (c:Int×Int×Int×Int) (m:List Int) (f:Int×Int×Int×Int×Int×Int×Int) (K:List Int×(Int×Int×Int×Int×Int×Int×Int)→Option β):Option β:=
 (bif f.1==0 then (bif f.1==0 then ob (dN (k+31) c m f) K else (bif f.1==3 then (bif f.1==3 then ob (bk c m f) K else ob (bQ (k+40) c m f) K) else (bif f.1==4 then ob (bk c m f) K else ob (bQ (k+40) c m f) K))) else (bif f.1==1 then (bif f.1==1 then ob (dN (k+31) c m f) K else (bif f.1==3 then (bif f.1==3 then ob (bk c m f) K else ob (bQ (k+40) c m f) K) else (bif f.1==4 then ob (bk c m f) K else ob (bQ (k+40) c m f) K))) else (bif f.1==2 then ob (dN (k+31) c m f) K else (bif f.1==3 then (bif f.1==3 then ob (bk c m f) K else ob (bQ (k+40) c m f) K) else (bif f.1==4 then ob (bk c m f) K else ob (bQ (k+40) c m f) K)))))
def gG (k : Nat) (v0 : (Int × Int × Int × Int)) (v1 : (List (Int × List Int))) (v2 : (List Int)) (v3 : Int) (v4 : (Int × List (Int × Int × Int) × (Int × Int × Int × Int × Int × Int × Int) × Int × Int)) (v5 : Int) : Option ((List Int) × (Int × List (Int × Int × Int) × (Int × Int × Int × Int × Int × Int × Int) × Int × Int) × (List (Int × Int × Int))) :=
 ob (aK 8 v2) fun x470 =>
 ob (aK 24 v4.2.1) fun x471 =>
 ob (gl (k + 35) v0 v1 v2 v3 v4) fun x472 =>
 bif !x472 then
 some (x470,(v4.1,x471,v4.2.2),[])
 else
 bif v4.1 == 0 then
 oI k v0 x470 v4.2.2.1 fun x473 =>
 ob (aH x473.2) fun x474 =>
 bif !x474 then
 some (x473.1,(v4.1,x471,x473.2,v4.2.2.2),[])
 else
 bif x473.2.2.2.2.2.2.2 != 1 then
 some (x473.1,(1,x471,(0,0,0,0,0,0,0),v4.2.2.2),[])
 else
 ob (cK (k + 36) v1 x471 (IntKind.i64.wrap x473.2.2.2.2.1)) fun x475 =>
 bif room 1 24 then
 some (x473.1,(9,x475,(0,0,0,0,0,0,0),v4.2.2.2),([(2,IntKind.i64.wrap x473.2.2.2.2.1,v3)]))
 else
 none
 else
 bif v4.1 == 1 then
 ob (cI x470 1 1) fun x518 =>
 ob (aF 4 v3 0) fun x519 =>
 some (x518.1,(2,x471,x519,v0.2.2.2,v4.2.2.2.2),[])
 else
 bif v4.1 == 2 then
 ob (dZ v5 v3 v0.1) fun x520 =>
 oI k v0 x470 v4.2.2.1 fun x521 =>
 ob (aH x521.2) fun x522 =>
 bif !x522 then
 some (x521.1,(v4.1,x471,x521.2,v4.2.2.2),[])
 else
 bif x521.2.2.2.2.2.2.2 == 1 then
 some (x521.1,(4,x471,x521.2,v4.2.2.2),[])
 else
 bif v4.1 == 2 then
 bif decide (0 ≤ x520) then
 ob (aF 2 x520 0) fun x523 =>
 some (x521.1,(3,x471,x523,v4.2.2.2),[])
 else
 bif decide (v4.2.2.2.1 ≤ 0) then
 ob (aF 5 v3 0) fun x524 =>
 some (x521.1,(5,x471,x524,v4.2.2.2),[])
 else
 ob (aF 4 v3 0) fun x525 =>
 some (x521.1,(2,x471,x525,(IntKind.i64.wrap (v4.2.2.2.1 - 1)),v4.2.2.2.2),[])
 else
 bif decide (v4.2.2.2.1 ≤ 0) then
 ob (aF 5 v3 0) fun x526 =>
 some (x521.1,(5,x471,x526,v4.2.2.2),[])
 else
 ob (aF 4 v3 0) fun x527 =>
 some (x521.1,(2,x471,x527,(IntKind.i64.wrap (v4.2.2.2.1 - 1)),v4.2.2.2.2),[])
 else
 bif v4.1 == 3 then
 ob (dZ v5 v3 v0.1) fun x626 =>
 oI k v0 x470 v4.2.2.1 fun x627 =>
 ob (aH x627.2) fun x628 =>
 bif !x628 then
 some (x627.1,(v4.1,x471,x627.2,v4.2.2.2),[])
 else
 bif x627.2.2.2.2.2.2.2 == 1 then
 some (x627.1,(4,x471,x627.2,v4.2.2.2),[])
 else
 bif v4.1 == 2 then
 bif decide (0 ≤ x626) then
 ob (aF 2 x626 0) fun x629 =>
 some (x627.1,(3,x471,x629,v4.2.2.2),[])
 else
 bif decide (v4.2.2.2.1 ≤ 0) then
 ob (aF 5 v3 0) fun x630 =>
 some (x627.1,(5,x471,x630,v4.2.2.2),[])
 else
 ob (aF 4 v3 0) fun x631 =>
 some (x627.1,(2,x471,x631,(IntKind.i64.wrap (v4.2.2.2.1 - 1)),v4.2.2.2.2),[])
 else
 bif decide (v4.2.2.2.1 ≤ 0) then
 ob (aF 5 v3 0) fun x632 =>
 some (x627.1,(5,x471,x632,v4.2.2.2),[])
 else
 ob (aF 4 v3 0) fun x633 =>
 some (x627.1,(2,x471,x633,(IntKind.i64.wrap (v4.2.2.2.1 - 1)),v4.2.2.2.2),[])
 else
 bif v4.1 == 4 then
 ob (cI x470 1 18446744073709551615) fun x732 =>
 bif x732.2 == 1 then
 ob (aF 6 v3 0) fun x733 =>
 ob (cK (k + 36) v1 x471 (IntKind.i64.wrap v4.2.2.1.2.2.2.1)) fun x734 =>
 bif room 1 24 then
 some (x732.1,(14,x734,x733,v4.2.2.2),([(2,IntKind.i64.wrap v4.2.2.1.2.2.2.1,v3)]))
 else
 none
 else
 ob (cK (k + 36) v1 x471 (IntKind.i64.wrap v4.2.2.1.2.2.2.1)) fun x735 =>
 bif room 1 24 then
 some (x732.1,(9,x735,(0,0,0,0,0,0,0),v4.2.2.2),([(2,IntKind.i64.wrap v4.2.2.1.2.2.2.1,v3)]))
 else
 none
 else
 bif v4.1 == 5 then
 oI k v0 x470 v4.2.2.1 fun x736 =>
 ob (aH x736.2) fun x737 =>
 some (x736.1,(6,x471,x736.2,v4.2.2.2),[])
 else
 bif v4.1 == 6 then
 ob (cI x470 1 18446744073709551615) fun x766 =>
 some (x766.1,(7,x471,v4.2.2.1,v4.2.2.2.1,0),[])
 else
 bif v4.1 == 7 then
 bif decide (v4.2.2.2.2 < 0) then
 some (x470,(8,x471,(v4.2.2.1.1,v4.2.2.1.2.1,v4.2.2.1.2.2.1,0,v4.2.2.1.2.2.2.2),v4.2.2.2.1,0),[])
 else
 bif decide (IntKind.i64.wrap (2 + IntKind.i64.wrap (2 * v0.1)) ≤ v4.2.2.2.2) then
 some (x470,(8,x471,(v4.2.2.1.1,v4.2.2.1.2.1,v4.2.2.1.2.2.1,0,v4.2.2.1.2.2.2.2),v4.2.2.2.1,0),[])
 else
 bif v4.2.2.2.2 == 0 then
 ob (aG x470 4) fun x767 =>
 bif IntKind.i64.wrap (v4.2.2.2.2 + 1) == IntKind.i64.wrap (2 + IntKind.i64.wrap (2 * v0.1)) then
 some (x470,(8,x471,(v4.2.2.1.1,v4.2.2.1.2.1,v4.2.2.1.2.2.1,0,v4.2.2.1.2.2.2.2),v4.2.2.2.1,0),[])
 else
 some (x470,(v4.1,x471,(v4.2.2.1.1,v4.2.2.1.2.1,v4.2.2.1.2.2.1,x767,v4.2.2.1.2.2.2.2),v4.2.2.2.1,(IntKind.i64.wrap (v4.2.2.2.2 + 1))),[])
 else
 bif v4.2.2.2.2 == 1 then
 ob (aG x470 5) fun x768 =>
 bif x768 != v4.2.2.1.2.2.2.1 then
 some (x470,(1,x471,(0,0,0,0,0,0,0),v4.2.2.2),[])
 else
 bif IntKind.i64.wrap (v4.2.2.2.2 + 1) == IntKind.i64.wrap (2 + IntKind.i64.wrap (2 * v0.1)) then
 some (x470,(8,x471,(v4.2.2.1.1,v4.2.2.1.2.1,v4.2.2.1.2.2.1,0,v4.2.2.1.2.2.2.2),v4.2.2.2.1,0),[])
 else
 some (x470,(v4.1,x471,v4.2.2.1,v4.2.2.2.1,(IntKind.i64.wrap (v4.2.2.2.2 + 1))),[])
 else
 bif v4.2.2.2.2.tmod 2 == 0 then
 ob (fN v0 (IntKind.i64.wrap ((IntKind.i64.wrap (v4.2.2.2.2 - 2)).tdiv 2))) fun x769 =>
 ob (aG x470 x769) fun x770 =>
 bif IntKind.i64.wrap (v4.2.2.2.2 + 1) == IntKind.i64.wrap (2 + IntKind.i64.wrap (2 * v0.1)) then
 some (x470,(8,x471,(v4.2.2.1.1,v4.2.2.1.2.1,v4.2.2.1.2.2.1,0,v4.2.2.1.2.2.2.2),v4.2.2.2.1,0),[])
 else
 some (x470,(v4.1,x471,(v4.2.2.1.1,v4.2.2.1.2.1,v4.2.2.1.2.2.1,x770,v4.2.2.1.2.2.2.2),v4.2.2.2.1,(IntKind.i64.wrap (v4.2.2.2.2 + 1))),[])
 else
 ob (cQ v0 (IntKind.i64.wrap ((IntKind.i64.wrap (v4.2.2.2.2 - 2)).tdiv 2))) fun x771 =>
 ob (aG x470 x771) fun x772 =>
 ob (d9 x772 v4.2.2.1.2.2.2.1) fun x773 =>
 bif decide (0 < x773) then
 some (x470,(1,x471,(0,0,0,0,0,0,0),v4.2.2.2),[])
 else
 bif IntKind.i64.wrap (v4.2.2.2.2 + 1) == IntKind.i64.wrap (2 + IntKind.i64.wrap (2 * v0.1)) then
 some (x470,(8,x471,(v4.2.2.1.1,v4.2.2.1.2.1,v4.2.2.1.2.2.1,0,v4.2.2.1.2.2.2.2),v4.2.2.2.1,0),[])
 else
 some (x470,(v4.1,x471,v4.2.2.1,v4.2.2.2.1,(IntKind.i64.wrap (v4.2.2.2.2 + 1))),[])
 else
 bif v4.1 == 8 then
 oI k v0 x470 v4.2.2.1 fun x774 =>
 ob (aH x774.2) fun x775 =>
 bif x775 then
 some (x774.1,(1,x471,(0,0,0,0,0,0,0),v4.2.2.2),[])
 else
 some (x774.1,(v4.1,x471,x774.2,v4.2.2.2),[])
 else
 bif v4.1 == 9 then
 ob (dk (k + 37) v1 x471) fun x804 =>
 bif x804.1 == 1 then
 ob (eH (k + 36) v1 x471) fun x805 =>
 some (x470,(v4.1,x805,v4.2.2),[])
 else
 bif x804.1 == 2 then
 some (x470,(10,x471,v4.2.2),[])
 else
 bif x804.1 == 3 then
 some (x470,(15,x471,v4.2.2),[])
 else
 ob (aF 1 v3 0) fun x806 =>
 some (x470,(0,x471,x806,v4.2.2.2),[])
 else
 bif v4.1 == 10 then
 ob (dk (k + 37) v1 x471) fun x807 =>
 bif x807.1 != 2 then
 some (x470,(9,x471,(0,0,0,0,0,0,0),v4.2.2.2),[])
 else
 ob (cI x470 0 1) fun x808 =>
 bif room 1 24 then
 ob (eH (k + 36) v1 x471) fun x809 =>
 ob (aF 0 v3 (IntKind.u64.wrap x807.2)) fun x810 =>
 some (x808.1,(11,x809,x810,v4.2.2.2),([(3,x807.2,v3)]))
 else
 none
 else
 bif v4.1 == 11 then
 oI k v0 x470 v4.2.2.1 fun x811 =>
 ob (aH x811.2) fun x812 =>
 bif !x812 then
 some (x811.1,(v4.1,x471,x811.2,v4.2.2.2),[])
 else
 bif x811.2.2.2.2.2.2.2 == 2 then
 ob (aF 3 v3 x811.2.2.2.2.1) fun x813 =>
 some (x811.1,(12,x471,x813,v4.2.2.2),[])
 else
 some (x811.1,(13,x471,(0,0,0,0,0,0,0),v4.2.2.2),[])
 else
 bif v4.1 == 12 then
 oI k v0 x470 v4.2.2.1 fun x856 =>
 ob (aH x856.2) fun x857 =>
 bif !x857 then
 some (x856.1,(v4.1,x471,x856.2,v4.2.2.2),[])
 else
 bif x856.2.2.2.2.2.2.2 == 2 then
 ob (cK (k + 36) v1 x471 (IntKind.i64.wrap x856.2.2.2.2.1)) fun x858 =>
 bif room 1 24 then
 some (x856.1,(9,x858,(0,0,0,0,0,0,0),v4.2.2.2),([(2,IntKind.i64.wrap x856.2.2.2.2.1,v3)]))
 else
 none
 else
 some (x856.1,(13,x471,(0,0,0,0,0,0,0),v4.2.2.2),[])
 else
 bif v4.1 == 13 then
 ob (aG x470 1) fun x901 =>
 bif x901 == 0 then
 ob (aF 6 v3 0) fun x902 =>
 some (x470,(14,x471,x902,v4.2.2.2),[])
 else
 some (x470,(9,x471,(0,0,0,0,0,0,0),v4.2.2.2),[])
 else
 bif v4.1 == 14 then
 oI k v0 x470 v4.2.2.1 fun x903 =>
 ob (aH x903.2) fun x904 =>
 bif x904 then
 some (x903.1,(9,x471,(0,0,0,0,0,0,0),v4.2.2.2),[])
 else
 some (x903.1,(v4.1,x471,x903.2,v4.2.2.2),[])
 else
 bif v4.1 == 15 then
 ob (dk (k + 37) v1 x471) fun x933 =>
 bif x933.1 != 3 then
 some (x470,(9,x471,(0,0,0,0,0,0,0),v4.2.2.2),[])
 else
 ob (cI x470 0 18446744073709551615) fun x934 =>
 bif room 1 24 then
 bif x934.2 == 1 then
 bif room 2 24 then
 ob (eH (k + 36) v1 x471) fun x935 =>
 bif (↑x935.length : Int) == 0 then
 ob (aF 1 v3 0) fun x936 =>
 some (x934.1,(0,x935,x936,v4.2.2.2),([(4,x933.2,v3),(5,0,v3)]))
 else
 some (x934.1,(9,x935,(0,0,0,0,0,0,0),v4.2.2.2),([(4,x933.2,v3),(5,0,v3)]))
 else
 none
 else
 ob (eH (k + 36) v1 x471) fun x937 =>
 bif (↑x937.length : Int) == 0 then
 ob (aF 1 v3 0) fun x938 =>
 some (x934.1,(0,x937,x938,v4.2.2.2),([(4,x933.2,v3)]))
 else
 some (x934.1,(9,x937,(0,0,0,0,0,0,0),v4.2.2.2),([(4,x933.2,v3)]))
 else
 none
 else
 none
theorem Cq (k : Nat) (v0_0 v0_1 v0_2 v0_3 : Int) (v1 : List (Int × List Int)) (v2 : List Int) (v3 v4_0 : Int) (v4_1 : List (Int × Int × Int)) (v4_2_0 v4_2_1 v4_2_2 v4_2_3 v4_2_4 v4_2_5 v4_2_6 v4_3 v4_4 v5 : Int) : xC (k + 60) none 83 [.agg [.lit (.int .i64 v0_0),.lit (.int .i64 v0_1),.lit (.int .i64 v0_2),.lit (.int .i64 v0_3)],.ro (List.map aA v1),.ro (List.map (aQ .u64) v2),.lit (.int .i64 v3),.agg [.lit (.int .i64 v4_0),.ro (List.map aE v4_1),.lit (.int .i64 v4_2_0),.lit (.int .i64 v4_2_1),.lit (.int .i64 v4_2_2),.lit (.int .u64 v4_2_3),.lit (.int .u64 v4_2_4),.lit (.int .u64 v4_2_5),.lit (.int .i64 v4_2_6),.lit (.int .i64 v4_3),.lit (.int .i64 v4_4)],.lit (.int .u64 v5)] = ob (gG k (v0_0,v0_1,v0_2,v0_3) v1 v2 v3 (v4_0,v4_1,(v4_2_0,v4_2_1,v4_2_2,v4_2_3,v4_2_4,v4_2_5,v4_2_6),v4_3,v4_4) v5) fun r => some ((.tup [.ro (List.map (aQ .u64) r.1),.agg [.lit (.int .i64 r.2.1.1),.ro (List.map aE r.2.1.2.1),.lit (.int .i64 r.2.1.2.2.1.1),.lit (.int .i64 r.2.1.2.2.1.2.1),.lit (.int .i64 r.2.1.2.2.1.2.2.1),.lit (.int .u64 r.2.1.2.2.1.2.2.2.1),.lit (.int .u64 r.2.1.2.2.1.2.2.2.2.1),.lit (.int .u64 r.2.1.2.2.1.2.2.2.2.2.1),.lit (.int .i64 r.2.1.2.2.1.2.2.2.2.2.2),.lit (.int .i64 r.2.1.2.2.2.1),.lit (.int .i64 r.2.1.2.2.2.2)],.ro (List.map aE r.2.2)]),[]) := by
  rw [aN]
  unfold gG oI
  simp (maxSteps := 2000000) -implicitDefEqProofs only [aff,ad7,ac7,Xu,aa3,W4,abZ,UO,HR,oU,abW,VA,IO,pT,aaN,XX,aaj,VX,aah,U1,HD,Jx,oQ,rz,ab6,Wy,acW,U9,aay,UR,adb,YQ,ab1,XY,aal,Za,aa5,Zf,ac5,VK,G7,rE,aaP,Zc,JR,JC,rm,pV,adK,XZ,ado,UW,adl,Wq,adH,U0,aax,VO,↓syP,syA,syD,simprocAttr,syE,ah,ag,af,syW,xQ,dn,uP,mV,eJ,kQ,fD,iu,wV,oa,mW,Bp,ol,FX,wL,uE]
  all_goals simp -implicitDefEqProofs only [List.map_nil]
end Go.Ab
