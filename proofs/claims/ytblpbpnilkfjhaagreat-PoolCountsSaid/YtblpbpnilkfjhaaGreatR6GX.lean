import Derived.Test.YtblpbpnilkfjhaaGreatR6Run
import Derived.Test.YtblpbpnilkfjhaaGreatR6Facts
import Derived.Test.YtblpbpnilkfjhaaGreatR6Man
import Derived.Test.YtblpbpnilkfjhaaGreatR6BY
import Derived.Test.YtblpbpnilkfjhaaGreatR6BX
import Derived.Test.YtblpbpnilkfjhaaGreatR6B3
import Derived.Test.YtblpbpnilkfjhaaGreatR6B4
import Derived.Test.YtblpbpnilkfjhaaGreatR6B5
import Derived.Test.YtblpbpnilkfjhaaGreatR6BW
set_option linter.unusedVariables false
set_option linter.unusedSimpArgs false
set_option maxRecDepth 100000
set_option linter.unusedVariables false
set_option linter.unusedSimpArgs false
namespace Go.Ab
open Go.Proofs
def bl (k:Nat) (v0:(List (Int×List Int)))  : Nat→Int→Option Bool
 | 0,_=>none
 | n+1,s3=>
 bif decide (s3<(↑v0.length:Int)) then
 bif decide (s3≤(40:Int)) then
 ob (idx v0 s3) fun x6=>
 bif decide ((40:Int)<(↑x6.2.length:Int)) then
 some (false)
 else
 bl k v0  n (IntKind.i64.wrap (s3+(1:Int)))
 else
 some (decide ((↑v0.length:Int)≤(40:Int)))
 else
 some (decide ((↑v0.length:Int)≤(40:Int)))
theorem iW (k:Nat) (v0:List (Int×List Int)):∀ (n:Nat) (s3:Int),rt none (itX (xX (xS k) 21 0 k false) o8 (0) (au (xX (xS k) 21 0 k false) (aC (xS k).P Tryz.f21) FM) n ⟨[.ro (List.map ao v0),uu,.lit (.bool false),.lit (.int .i64 s3),.junk,.junk,.junk,.junk,.junk,.junk,.junk,.junk,.junk,.junk,.junk,.junk,.junk,.junk,.junk,.junk,.junk,uu,uu,uu],[]⟩)=ob (bl k v0  n s3) fun r=>some ((.lit (.bool r)),[]):=by
 intro n
 induction n with
 | zero=>intros;rfl
 | succ n ih=>
  intro s3
  rw [bl]
  simp (maxSteps:=2000000) -implicitDefEqProofs only [ae6,acT,acG,Ir,I7,od,ol,↓syP,syA,syD,simprocAttr,syE,ah,ag,af,syW,xQ,PJ,ih]
  all_goals simp -implicitDefEqProofs only [List.map_nil]
def cZ (k:Nat) (v0:(List (Int×List Int))):Option Bool:=
 bl k v0 k 0
theorem dQ (k:Nat) (v0:List (Int×List Int)):xC (k+1) none 21 [.ro (List.map ao v0)]=ob (cZ k v0) fun r=>some ((.lit (.bool r)),[]):=by
 rw [aK]
 unfold cZ
 simp (maxSteps:=2000000) -implicitDefEqProofs only [ae6,acT,acG,Ir,I7,od,ol,↓syP,syA,syD,simprocAttr,syE,ah,ag,af,syW,xQ,iW k v0]
 all_goals simp -implicitDefEqProofs only [List.map_nil]
def eJ (v0:(Int×List Int)):Option Bool:=
 bif decide (v0.1<0) then
 some true
 else
 some (decide (20<v0.1))
theorem u4 (k:Nat) (v0_0:Int) (v0_1:List Int):xC (k+1) none 99 [.agg [.lit (.int .i64 v0_0),.ro (List.map (aI .i64) v0_1)]]=ob (eJ (v0_0,v0_1)) fun r=>some ((.lit (.bool r)),[]):=by
 rw [aK]
 unfold eJ
 simp (maxSteps:=2000000) -implicitDefEqProofs only [aaV,Ww,C5,ko,↓syP,syA,syD,simprocAttr,syE,ah,ag,af,syW,xQ]
 all_goals simp -implicitDefEqProofs only [List.map_nil]
def aB (k:Nat) (v0:(List (Int×List Int)))  : Nat→Int→Option Int
 | 0,_=>none
 | n+1,s12=>
 bif decide (s12<(↑v0.length:Int)) then
 ob (idx v0 s12) fun x17=>
 ob (eJ (x17.1,x17.2)) fun x18=>
 bif x18 then
 some (s12)
 else
 aB k v0  n (IntKind.i64.wrap (s12+(1:Int)))
 else
 some ((-1:Int))
theorem dq (k:Nat) (v0:List (Int×List Int)):∀ (n:Nat) (s12:Int) ⦃j11:V⦄,rt none (itX (xX (xS (k+8)) 147 0 (k+8) false) xj (0) (au (xX (xS (k+8)) 147 0 (k+8) false) (aC (xS (k+8)).P Tryz.f147) Af) n ⟨[.ro (List.map ao v0),.fn (Fn.func (99:FuncId)) [] [],uu,uu,.lit (.int .i64 (0:Int)),j11,.ro (List.map ao v0),.lit (.int .i64 (↑v0.length:Int)),.lit (.int .i64 s12),.junk,.junk,.junk,.junk,.junk,.junk,.junk,.junk,.junk,.junk],[]⟩)=ob (aB k v0  n s12) fun r=>some ((.lit (.int .i64 r)),[]):=by
 intro n
 induction n with
 | zero=>intros;rfl
 | succ n ih=>
  intro s12 j11
  rw [aB]
  simp (maxSteps:=2000000) -implicitDefEqProofs only [Hs,DG,Dk,nb,eT,↓syP,syA,syD,simprocAttr,syE,ah,ag,af,syW,xQ,u4,I5,ih]
  all_goals simp -implicitDefEqProofs only [List.map_nil]
def aY (k:Nat) (v0:(List (Int×List Int))):Option Int:=
 aB k v0 (k+8) 0
theorem eh (k:Nat) (v0:List (Int×List Int)):xC (k+9) none 147 [.ro (List.map ao v0),.fn (Fn.func (99:FuncId)) [] []]=ob (aY k v0) fun r=>some ((.lit (.int .i64 r)),[]):=by
 rw [aK]
 unfold aY
 simp (maxSteps:=2000000) -implicitDefEqProofs only [Hs,DG,Dk,nb,eT,↓syP,syA,syD,simprocAttr,syE,ah,ag,af,syW,xQ,dq k v0]
 all_goals simp -implicitDefEqProofs only [List.map_nil]
def aJ (k:Nat) (v0:(List (Int×List Int))):Option Bool:=
 ob (aY (k+8) v0) fun x20=>
 some (decide (0≤x20))
theorem bd (k:Nat) (v0:List (Int×List Int)):xC (k+18) none 98 [.ro (List.map ao v0),.fn (Fn.func (99:FuncId)) [] []]=ob (aJ k v0) fun r=>some ((.lit (.bool r)),[]):=by
 rw [aK]
 unfold aJ
 simp (maxSteps:=2000000) -implicitDefEqProofs only [aa2,aaj,Hs,DG,Dk,nb,eT,↓syP,syA,syD,simprocAttr,syE,ah,ag,af,syW,xQ,eh]
 all_goals simp -implicitDefEqProofs only [List.map_nil]
def cL (k:Nat) (v0:(List (Int×List Int))) (o0:Int→List Bool→Option Bool):Nat→List Int→Int→Int→List Bool→Int→Option Bool
 | 0,_,_,_,_,_=>none
 | n+1,s29,s30,s38,s39,s48=>
 bif decide (s38<s30) then
 ob (idx s29 s38) fun x62=>
 bif decide (x62≤s48) then
 some (false)
 else
 bif decide ((↑v0.length:Int)≤x62) then
 some (false)
 else
 bif decide ((0:Int)≤x62∧x62.toNat<v0.length) then
 ob (s39[x62.toNat]?) fun x63=>
 bif x63 then
 some (false)
 else
 bif decide ((0:Int)≤x62∧x62.toNat<v0.length) then
 ob (s39[x62.toNat]?) fun x64=>
 cL k v0 o0 n (s29) (s30) (IntKind.i64.wrap (s38+(1:Int))) (s39.set x62.toNat true) (s48)
 else
 none
 else
 none
 else
 o0 (IntKind.i64.wrap (s48+(1:Int))) (s39)
theorem nn (k:Nat) (v0:List (Int×List Int)) (n23:Nat) (o0:Int→List Bool→Option Bool) (ho0:∀ (s42:Int) (s51:List Bool) ⦃s24:Bool⦄ ⦃j40 j41 j50:V⦄,rt none (bq (itX (xX (xS (k+17)) 148 0 (k+17) false) iq (7) (au (xX (xS (k+17)) 148 0 (k+17) false) (aC (xS (k+17)).P Tryz.f148) kX) n23 ⟨[.yld 6,.ptr 5 0 0 0,uu,j40,j41,uu,j50,.ro (List.map ao v0),.lit (.int .i64 (↑v0.length:Int)),.lit (.int .i64 s42),.junk,.junk,.junk,.junk,.junk,.junk,.junk,.junk,.junk,.junk,.junk,.junk,.junk,.junk,.junk,.junk,.junk,.junk],[.box [.ro (List.map ao v0)],.box [.lit (.bool false)],.rows 1 (List.map lX s51) 0 true,.rows 0 [] 0 true,.box [.own 2 0 v0.length],.box [.ro (List.map ao v0)],(.loop ⟨LoopState.ready,none,56,[.ro (List.map ao v0),.ptr 0 0 0 0,.ptr 1 0 0 0,.ptr 4 0 0 0,uu,uu,.ro (List.map ao v0),.lit (.int .i64 (↑v0.length:Int)),.lit (.bool (decide ((30:Int)<(↑v0.length:Int)))),.lit (.bool false),.ro (List.map ao v0),.lit (.bool s24),.lit (.bool s24),.ro (List.map ao v0),.lit (.int .i64 (↑v0.length:Int)),.own 2 0 v0.length,.ro (List.map ao v0),.fn (Fn.func (148:FuncId)) [] [.ptr 5 0 0 0],uu,uu,uu,uu,uu,uu,uu,uu,uu,uu,uu,uu,uu,uu,uu,uu,uu,uu,uu,uu],[(18:Tmp),(19:Tmp)],Cg,CT⟩)]⟩) (rfK (au (xX (xS (k+18)) 56 0 (k+18) false) (aC (xS (k+18)).P Tryz.f56) w9) [.ro (List.map ao v0),.ptr 0 0 0 0,.ptr 1 0 0 0,.ptr 4 0 0 0,uu,uu,.ro (List.map ao v0),.lit (.int .i64 (↑v0.length:Int)),.lit (.bool (decide ((30:Int)<(↑v0.length:Int)))),.lit (.bool false),.ro (List.map ao v0),.lit (.bool s24),.lit (.bool s24),.ro (List.map ao v0),.lit (.int .i64 (↑v0.length:Int)),.own 2 0 v0.length,.ro (List.map ao v0),.fn (Fn.func (148:FuncId)) [] [.ptr 5 0 0 0],uu,uu,uu,uu,uu,uu,uu,uu,uu,uu,uu,uu,uu,uu,uu,uu,uu,uu,uu,uu] (6)))=ob (o0 s42 s51) fun r=>some ((.lit (.bool r)),[])):∀ (n:Nat) (s29:List Int) (s30:Int) (s38:Int) (s39:List Bool) (s48:Int) ⦃s28:Int⦄ ⦃s31:Bool⦄ ⦃s49:Bool⦄ ⦃j37:V⦄,rt none (bq (itX (xX (xS (k+17)) 148 0 (k+17) false) uq (9) (au (xX (xS (k+17)) 148 0 (k+17) false) (bK (xX (xS (k+17)) 148 0 (k+17) false) iq 7 (au (xX (xS (k+17)) 148 0 (k+17) false) (aC (xS (k+17)).P Tryz.f148) kX) n23) ul) n ⟨[.yld 6,.ptr 5 0 0 0,uu,.lit (.int .i64 s48),.ptr 8 0 0 0,uu,j37,.ro (List.map ao v0),.lit (.int .i64 (↑v0.length:Int)),.lit (.int .i64 s48),.lit (.bool s49),.lit (.int .i64 s48),.rp [.lit (.int .i64 s28),.ro (List.map (aI IntKind.i64) s29)],.agg [.lit (.int .i64 s28),.ro (List.map (aI IntKind.i64) s29)],.ptr 8 0 0 1,.ro (List.map (aI IntKind.i64) s29),.lit (.int .i64 s30),.lit (.int .i64 s38),.junk,.junk,.junk,.junk,.junk,.junk,.junk,.junk,.junk,.junk],[.box [.ro (List.map ao v0)],.box [.lit (.bool false)],.rows 1 (List.map lX s39) 0 true,.rows 0 [] 0 true,.box [.own 2 0 v0.length],.box [.ro (List.map ao v0)],(.loop ⟨LoopState.ready,none,56,[.ro (List.map ao v0),.ptr 0 0 0 0,.ptr 1 0 0 0,.ptr 4 0 0 0,uu,uu,.ro (List.map ao v0),.lit (.int .i64 (↑v0.length:Int)),.lit (.bool (decide ((30:Int)<(↑v0.length:Int)))),.lit (.bool false),.ro (List.map ao v0),.lit (.bool s31),.lit (.bool s31),.ro (List.map ao v0),.lit (.int .i64 (↑v0.length:Int)),.own 2 0 v0.length,.ro (List.map ao v0),.fn (Fn.func (148:FuncId)) [] [.ptr 5 0 0 0],uu,uu,uu,uu,uu,uu,uu,uu,uu,uu,uu,uu,uu,uu,uu,uu,uu,uu,uu,uu],[(18:Tmp),(19:Tmp)],Cg,CT⟩),.rows 0 [] 0 true,.box [.lit (.int .i64 s28),.ro (List.map (aI IntKind.i64) s29)]]⟩) (rfK (au (xX (xS (k+18)) 56 0 (k+18) false) (aC (xS (k+18)).P Tryz.f56) w9) [.ro (List.map ao v0),.ptr 0 0 0 0,.ptr 1 0 0 0,.ptr 4 0 0 0,uu,uu,.ro (List.map ao v0),.lit (.int .i64 (↑v0.length:Int)),.lit (.bool (decide ((30:Int)<(↑v0.length:Int)))),.lit (.bool false),.ro (List.map ao v0),.lit (.bool s31),.lit (.bool s31),.ro (List.map ao v0),.lit (.int .i64 (↑v0.length:Int)),.own 2 0 v0.length,.ro (List.map ao v0),.fn (Fn.func (148:FuncId)) [] [.ptr 5 0 0 0],uu,uu,uu,uu,uu,uu,uu,uu,uu,uu,uu,uu,uu,uu,uu,uu,uu,uu,uu,uu] (6)))=ob (cL k v0 o0 n s29 s30 s38 s39 s48) fun r=>some ((.lit (.bool r)),[]):=by
 intro n
 induction n with
 | zero=>intros;rfl
 | succ n ih=>
  intro s29 s30 s38 s39 s48 s28 s31 s49 j37
  rw [cL]
  simp (maxSteps:=2000000) -implicitDefEqProofs only [acX,aa1,aaQ,EW,F1,dT,dO,FU,FV,mv,mh,mu,pM,aa2,aaj,aaV,Ww,C5,ko,Hu,Eo,aK (g:=100),Hs,DG,Dk,nb,eT,HF,DH,Ds,mM,mK,eV,eP,↓syP,syA,syD,simprocAttr,syE,ah,ag,af,syW,xQ,bd,Ep,ih,ho0]
  all_goals simp -implicitDefEqProofs only [List.map_nil]
def bN (k:Nat) (v0:(List (Int×List Int)))  : Nat→Int→List Bool→Option Bool
 | 0,_,_=>none
 | n+1,s42,s51=>
 bif decide (s42<(↑v0.length:Int)) then
 ob (idx v0 s42) fun x58=>
 cL k v0 (fun s42 s51=>bN k v0  n s42 s51) (k+17) (x58.2) ((↑x58.2.length:Int)) ((0:Int)) (s51) (s42)
 else
 some (true)
theorem nH (k:Nat) (v0:List (Int×List Int)):∀ (n:Nat) (s42:Int) (s51:List Bool) ⦃s24:Bool⦄ ⦃j40 j41 j50:V⦄,rt none (bq (itX (xX (xS (k+17)) 148 0 (k+17) false) iq (7) (au (xX (xS (k+17)) 148 0 (k+17) false) (aC (xS (k+17)).P Tryz.f148) kX) n ⟨[.yld 6,.ptr 5 0 0 0,uu,j40,j41,uu,j50,.ro (List.map ao v0),.lit (.int .i64 (↑v0.length:Int)),.lit (.int .i64 s42),.junk,.junk,.junk,.junk,.junk,.junk,.junk,.junk,.junk,.junk,.junk,.junk,.junk,.junk,.junk,.junk,.junk,.junk],[.box [.ro (List.map ao v0)],.box [.lit (.bool false)],.rows 1 (List.map lX s51) 0 true,.rows 0 [] 0 true,.box [.own 2 0 v0.length],.box [.ro (List.map ao v0)],(.loop ⟨LoopState.ready,none,56,[.ro (List.map ao v0),.ptr 0 0 0 0,.ptr 1 0 0 0,.ptr 4 0 0 0,uu,uu,.ro (List.map ao v0),.lit (.int .i64 (↑v0.length:Int)),.lit (.bool (decide ((30:Int)<(↑v0.length:Int)))),.lit (.bool false),.ro (List.map ao v0),.lit (.bool s24),.lit (.bool s24),.ro (List.map ao v0),.lit (.int .i64 (↑v0.length:Int)),.own 2 0 v0.length,.ro (List.map ao v0),.fn (Fn.func (148:FuncId)) [] [.ptr 5 0 0 0],uu,uu,uu,uu,uu,uu,uu,uu,uu,uu,uu,uu,uu,uu,uu,uu,uu,uu,uu,uu],[(18:Tmp),(19:Tmp)],Cg,CT⟩)]⟩) (rfK (au (xX (xS (k+18)) 56 0 (k+18) false) (aC (xS (k+18)).P Tryz.f56) w9) [.ro (List.map ao v0),.ptr 0 0 0 0,.ptr 1 0 0 0,.ptr 4 0 0 0,uu,uu,.ro (List.map ao v0),.lit (.int .i64 (↑v0.length:Int)),.lit (.bool (decide ((30:Int)<(↑v0.length:Int)))),.lit (.bool false),.ro (List.map ao v0),.lit (.bool s24),.lit (.bool s24),.ro (List.map ao v0),.lit (.int .i64 (↑v0.length:Int)),.own 2 0 v0.length,.ro (List.map ao v0),.fn (Fn.func (148:FuncId)) [] [.ptr 5 0 0 0],uu,uu,uu,uu,uu,uu,uu,uu,uu,uu,uu,uu,uu,uu,uu,uu,uu,uu,uu,uu] (6)))=ob (bN k v0  n s42 s51) fun r=>some ((.lit (.bool r)),[]):=by
 intro n
 induction n with
 | zero=>intros;rfl
 | succ n ih=>
  intro s42 s51 s24 j40 j41 j50
  rw [bN]
  simp (maxSteps:=2000000) -implicitDefEqProofs only [acX,aa1,aaQ,EW,F1,dT,dO,FU,FV,mv,mh,mu,pM,aa2,aaj,aaV,Ww,C5,ko,Hu,Eo,aK (g:=100),Hs,DG,Dk,nb,eT,HF,DH,Ds,mM,mK,eV,eP,↓syP,syA,syD,simprocAttr,syE,ah,ag,af,syW,xQ,bd,DN,ih,nn k v0 _ (fun s42 s51=>bN k v0  n s42 s51) ih]
  all_goals simp -implicitDefEqProofs only [List.map_nil]
def cG (k:Nat) (v0:(List (Int×List Int))):Option Bool:=
 bif decide (30<(↑v0.length:Int)) then
 some false
 else
 ob (aJ k v0) fun x65=>
 bif x65 then
 some false
 else
 bif decide (0≤(↑v0.length:Int)∧(↑v0.length:Int)≤9223372036854775807∧(↑v0.length:Int)*1≤70368744177664) then
 bN k v0 (k+17) 0 (List.replicate v0.length false)
 else
 none
theorem cF (k:Nat) (v0:List (Int×List Int)):xC (k+19) none 56 [.ro (List.map ao v0)]=ob (cG k v0) fun r=>some ((.lit (.bool r)),[]):=by
 rw [aK]
 unfold cG
 simp (maxSteps:=2000000) -implicitDefEqProofs only [acX,aa1,aaQ,EW,F1,dT,dO,FU,FV,mv,mh,mu,pM,aa2,aaj,aaV,Ww,C5,ko,Hu,Eo,aK (g:=100),Hs,DG,Dk,nb,eT,HF,DH,Ds,mM,mK,eV,eP,↓syP,syA,syD,simprocAttr,syE,ah,ag,af,syW,xQ,bd,nH k v0]
 all_goals simp -implicitDefEqProofs only [List.map_nil]
def bJ (k:Nat) (v0:(List (Int×List Int))) (v1:Int) (o0:Int→Option Int):Nat→List Int→Int→Int→Int→Option Int
 | 0,_,_,_,_=>none
 | n+1,s114,s115,s121,s128=>
 bif decide (s121<s115) then
 ob (idx s114 s121) fun x137=>
 bif x137==v1 then
 some (s128)
 else
 bJ k v0 v1 o0 n (s114) (s115) (IntKind.i64.wrap (s121+(1:Int))) (s128)
 else
 o0 (IntKind.i64.wrap (s128+(1:Int)))
theorem mf (k:Nat) (v0:List (Int×List Int)) (v1:Int) (n108:Nat) (o0:Int→Option Int) (ho0:∀ (s124:Int) ⦃s109:Bool⦄ ⦃j122 j123 j130:V⦄,rt none (bq (itX (xX (xS (k+18)) 148 0 (k+18) false) iq (4) (au (xX (xS (k+18)) 148 0 (k+18) false) (aC (xS (k+18)).P Tryz.f148) kX) n108 ⟨[.yld 3,.ptr 2 0 0 0,uu,j122,j123,uu,j130,.ro (List.map ao v0),.lit (.int .i64 (↑v0.length:Int)),.lit (.int .i64 s124),.junk,.junk,.junk,.junk,.junk,.junk,.junk,.junk,.junk,.junk,.junk,.junk,.junk,.junk,.junk,.junk,.junk,.junk],[.box [.lit (.int .i64 v1)],.box [.lit (.int .i64 (0:Int))],.box [.ro (List.map ao v0)],(.loop ⟨LoopState.ready,none,101,[.ro (List.map ao v0),.lit (.int .i64 v1),uu,.ptr 0 0 0 0,.ptr 1 0 0 0,uu,uu,.ro (List.map ao v0),.lit (.bool s109),.ro (List.map ao v0),.fn (Fn.func (148:FuncId)) [] [.ptr 2 0 0 0],uu,uu,uu,uu,uu,uu],[(11:Tmp),(12:Tmp)],ui,uc⟩)]⟩) (rfK (au (xX (xS (k+19)) 101 0 (k+19) false) (aC (xS (k+19)).P Tryz.f101) oa) [.ro (List.map ao v0),.lit (.int .i64 v1),uu,.ptr 0 0 0 0,.ptr 1 0 0 0,uu,uu,.ro (List.map ao v0),.lit (.bool s109),.ro (List.map ao v0),.fn (Fn.func (148:FuncId)) [] [.ptr 2 0 0 0],uu,uu,uu,uu,uu,uu] (3)))=ob (o0 s124) fun r=>some ((.lit (.int .i64 r)),[])):∀ (n:Nat) (s114:List Int) (s115:Int) (s121:Int) (s128:Int) ⦃s113:Int⦄ ⦃s116:Bool⦄ ⦃s129:Bool⦄ ⦃j120:V⦄,rt none (bq (itX (xX (xS (k+18)) 148 0 (k+18) false) uq (6) (au (xX (xS (k+18)) 148 0 (k+18) false) (bK (xX (xS (k+18)) 148 0 (k+18) false) iq 4 (au (xX (xS (k+18)) 148 0 (k+18) false) (aC (xS (k+18)).P Tryz.f148) kX) n108) ul) n ⟨[.yld 3,.ptr 2 0 0 0,uu,.lit (.int .i64 s128),.ptr 5 0 0 0,uu,j120,.ro (List.map ao v0),.lit (.int .i64 (↑v0.length:Int)),.lit (.int .i64 s128),.lit (.bool s129),.lit (.int .i64 s128),.rp [.lit (.int .i64 s113),.ro (List.map (aI IntKind.i64) s114)],.agg [.lit (.int .i64 s113),.ro (List.map (aI IntKind.i64) s114)],.ptr 5 0 0 1,.ro (List.map (aI IntKind.i64) s114),.lit (.int .i64 s115),.lit (.int .i64 s121),.junk,.junk,.junk,.junk,.junk,.junk,.junk,.junk,.junk,.junk],[.box [.lit (.int .i64 v1)],.box [.lit (.int .i64 (0:Int))],.box [.ro (List.map ao v0)],(.loop ⟨LoopState.ready,none,101,[.ro (List.map ao v0),.lit (.int .i64 v1),uu,.ptr 0 0 0 0,.ptr 1 0 0 0,uu,uu,.ro (List.map ao v0),.lit (.bool s116),.ro (List.map ao v0),.fn (Fn.func (148:FuncId)) [] [.ptr 2 0 0 0],uu,uu,uu,uu,uu,uu],[(11:Tmp),(12:Tmp)],ui,uc⟩),.rows 0 [] 0 true,.box [.lit (.int .i64 s113),.ro (List.map (aI IntKind.i64) s114)]]⟩) (rfK (au (xX (xS (k+19)) 101 0 (k+19) false) (aC (xS (k+19)).P Tryz.f101) oa) [.ro (List.map ao v0),.lit (.int .i64 v1),uu,.ptr 0 0 0 0,.ptr 1 0 0 0,uu,uu,.ro (List.map ao v0),.lit (.bool s116),.ro (List.map ao v0),.fn (Fn.func (148:FuncId)) [] [.ptr 2 0 0 0],uu,uu,uu,uu,uu,uu] (3)))=ob (bJ k v0 v1 o0 n s114 s115 s121 s128) fun r=>some ((.lit (.int .i64 r)),[]):=by
 intro n
 induction n with
 | zero=>intros;rfl
 | succ n ih=>
  intro s114 s115 s121 s128 s113 s116 s129 j120
  rw [bJ]
  simp (maxSteps:=2000000) -implicitDefEqProofs only [Hu,Eo,aK (g:=100),RC,Me,Mc,xi,dw,dz,kY,n8,HF,DH,Ds,mM,mK,eV,eP,↓syP,syA,syD,simprocAttr,syE,ah,ag,af,syW,xQ,cF,Ep,ih,ho0]
  all_goals simp -implicitDefEqProofs only [List.map_nil]
def bw (k:Nat) (v0:(List (Int×List Int))) (v1:Int)  : Nat→Int→Option Int
 | 0,_=>none
 | n+1,s124=>
 bif decide (s124<(↑v0.length:Int)) then
 ob (idx v0 s124) fun x135=>
 bJ k v0 v1 (fun s124=>bw k v0 v1  n s124) (k+18) (x135.2) ((↑x135.2.length:Int)) ((0:Int)) (s124)
 else
 some ((-1:Int))
theorem md (k:Nat) (v0:List (Int×List Int)) (v1:Int):∀ (n:Nat) (s124:Int) ⦃s109:Bool⦄ ⦃j122 j123 j130:V⦄,rt none (bq (itX (xX (xS (k+18)) 148 0 (k+18) false) iq (4) (au (xX (xS (k+18)) 148 0 (k+18) false) (aC (xS (k+18)).P Tryz.f148) kX) n ⟨[.yld 3,.ptr 2 0 0 0,uu,j122,j123,uu,j130,.ro (List.map ao v0),.lit (.int .i64 (↑v0.length:Int)),.lit (.int .i64 s124),.junk,.junk,.junk,.junk,.junk,.junk,.junk,.junk,.junk,.junk,.junk,.junk,.junk,.junk,.junk,.junk,.junk,.junk],[.box [.lit (.int .i64 v1)],.box [.lit (.int .i64 (0:Int))],.box [.ro (List.map ao v0)],(.loop ⟨LoopState.ready,none,101,[.ro (List.map ao v0),.lit (.int .i64 v1),uu,.ptr 0 0 0 0,.ptr 1 0 0 0,uu,uu,.ro (List.map ao v0),.lit (.bool s109),.ro (List.map ao v0),.fn (Fn.func (148:FuncId)) [] [.ptr 2 0 0 0],uu,uu,uu,uu,uu,uu],[(11:Tmp),(12:Tmp)],ui,uc⟩)]⟩) (rfK (au (xX (xS (k+19)) 101 0 (k+19) false) (aC (xS (k+19)).P Tryz.f101) oa) [.ro (List.map ao v0),.lit (.int .i64 v1),uu,.ptr 0 0 0 0,.ptr 1 0 0 0,uu,uu,.ro (List.map ao v0),.lit (.bool s109),.ro (List.map ao v0),.fn (Fn.func (148:FuncId)) [] [.ptr 2 0 0 0],uu,uu,uu,uu,uu,uu] (3)))=ob (bw k v0 v1  n s124) fun r=>some ((.lit (.int .i64 r)),[]):=by
 intro n
 induction n with
 | zero=>intros;rfl
 | succ n ih=>
  intro s124 s109 j122 j123 j130
  rw [bw]
  simp (maxSteps:=2000000) -implicitDefEqProofs only [Hu,Eo,aK (g:=100),RC,Me,Mc,xi,dw,dz,kY,n8,HF,DH,Ds,mM,mK,eV,eP,↓syP,syA,syD,simprocAttr,syE,ah,ag,af,syW,xQ,cF,DN,ih,mf k v0 v1 _ (fun s124=>bw k v0 v1  n s124) ih]
  all_goals simp -implicitDefEqProofs only [List.map_nil]
def d9 (k:Nat) (v0:(List (Int×List Int))) (v1:Int):Option Int:=
 ob (cG k v0) fun x138=>
 bif x138 then
 bw k v0 v1 (k+18) 0
 else
 some ((-1))
theorem un (k:Nat) (v0:List (Int×List Int)) (v1:Int):xC (k+20) none 101 [.ro (List.map ao v0),.lit (.int .i64 v1)]=ob (d9 k v0 v1) fun r=>some ((.lit (.int .i64 r)),[]):=by
 rw [aK]
 unfold d9
 simp (maxSteps:=2000000) -implicitDefEqProofs only [Hu,Eo,aK (g:=100),RC,Me,Mc,xi,dw,dz,kY,n8,HF,DH,Ds,mM,mK,eV,eP,↓syP,syA,syD,simprocAttr,syE,ah,ag,af,syW,xQ,cF,md k v0 v1]
 all_goals simp -implicitDefEqProofs only [List.map_nil]
end Go.Ab
set_option maxRecDepth 100000
set_option linter.unusedVariables false
set_option linter.unusedSimpArgs false
namespace Go.Ab
open Go.Proofs
def dP (v0:Int) (v1:Int) (v2:Int):Option Bool:=
 bif decide (v1≤v0) then
 some (decide (v0≤v2))
 else
 some false
theorem kW (k:Nat) (v0 v1 v2:Int):xC (k+1) none 93 [.lit (.int .i64 v0),.lit (.int .i64 v1),.lit (.int .i64 v2)]=ob (dP v0 v1 v2) fun r=>some ((.lit (.bool r)),[]):=by
 rw [aK]
 unfold dP
 simp (maxSteps:=2000000) -implicitDefEqProofs only [afA,ae5,PQ,wM,↓syP,syA,syD,simprocAttr,syE,ah,ag,af,syW,xQ]
 all_goals simp -implicitDefEqProofs only [List.map_nil]
def bL (v0:(Int×Int×Int×Int)):Option Bool:=
 ob (dP v0.1 1 8) fun x5=>
 bif x5 then
 ob (dP v0.2.1 1 16) fun x6=>
 bif x6 then
 bif uA IntKind.i64 v0.2.1 (IntKind.i64.wrap (v0.2.1 - 1))==0 then
 ob (dP v0.2.2.1 1 16) fun x7=>
 bif x7 then
 ob (dP v0.2.2.2 0 4) fun x8=>
 some x8
 else
 some false
 else
 some false
 else
 some false
 else
 some false
theorem bU (k:Nat) (v0_0 v0_1 v0_2 v0_3:Int):xC (k+2) none 50 [.agg [.lit (.int .i64 v0_0),.lit (.int .i64 v0_1),.lit (.int .i64 v0_2),.lit (.int .i64 v0_3)]]=ob (bL (v0_0,v0_1,v0_2,v0_3)) fun r=>some ((.lit (.bool r)),[]):=by
 rw [aK]
 unfold bL
 simp (maxSteps:=2000000) -implicitDefEqProofs only [af2,aff,QH,PW,Qm,QR,wO,↓syP,syA,syD,simprocAttr,syE,ah,ag,af,syW,xQ,kW]
 all_goals simp -implicitDefEqProofs only [List.map_nil]
def eC (v0:(Int×Int×Int×Int)) (v1:Int):Option Int:=
 some (IntKind.i64.wrap (IntKind.i64.wrap (6+IntKind.i64.wrap (2*v0.2.2.1))+IntKind.i64.wrap (v1*IntKind.i64.wrap (3+v0.2.1))))
theorem kd (k:Nat) (v0_0 v0_1 v0_2 v0_3 v1:Int):xC (k+1) none 72 [.agg [.lit (.int .i64 v0_0),.lit (.int .i64 v0_1),.lit (.int .i64 v0_2),.lit (.int .i64 v0_3)],.lit (.int .i64 v1)]=ob (eC (v0_0,v0_1,v0_2,v0_3) v1) fun r=>some ((.lit (.int .i64 r)),[]):=by
 rw [aK]
 unfold eC
 simp (maxSteps:=2000000) -implicitDefEqProofs only [af8,aeY,↓syP,syA,syD,simprocAttr,syE,ah,ag,af,syW,xQ]
 all_goals simp -implicitDefEqProofs only [List.map_nil]
def dm (v0:(Int×Int×Int×Int)):Option Int:=
 ob (bL v0) fun x16=>
 bif !x16 then
 some 0
 else
 ob (eC v0 v0.1) fun x17=>
 some x17
theorem fM (k:Nat) (v0_0 v0_1 v0_2 v0_3:Int):xC (k+3) none 103 [.agg [.lit (.int .i64 v0_0),.lit (.int .i64 v0_1),.lit (.int .i64 v0_2),.lit (.int .i64 v0_3)]]=ob (dm (v0_0,v0_1,v0_2,v0_3)) fun r=>some ((.lit (.int .i64 r)),[]):=by
 rw [aK]
 unfold dm
 simp (maxSteps:=2000000) -implicitDefEqProofs only [abr,X1,↓syP,syA,syD,simprocAttr,syE,ah,ag,af,syW,xQ,bU,kd]
 all_goals simp -implicitDefEqProofs only [List.map_nil]
def fW (v0:(List Int)) (v1:Int):Option Bool:=
 bif decide (0≤v1) then
 some (decide (v1<(↑v0.length:Int)))
 else
 some false
theorem nK (k:Nat) (v0:List Int) (v1:Int):xC (k+1) none 66 [.ro (List.map (aI .u64) v0),.lit (.int .i64 v1)]=ob (fW v0 v1) fun r=>some ((.lit (.bool r)),[]):=by
 rw [aK]
 unfold fW
 simp (maxSteps:=2000000) -implicitDefEqProofs only [age,aft,Q5,wI,↓syP,syA,syD,simprocAttr,syE,ah,ag,af,syW,xQ]
 all_goals simp -implicitDefEqProofs only [List.map_nil]
def aD (v0:(List Int)) (v1:Int):Option Int:=
 ob (fW v0 v1) fun x22=>
 bif !x22 then
 some 0
 else
 ob (idx v0 v1) fun x23=>
 some x23
theorem cq (k:Nat) (v0:List Int) (v1:Int):xC (k+2) none 27 [.ro (List.map (aI .u64) v0),.lit (.int .i64 v1)]=ob (aD v0 v1) fun r=>some ((.lit (.int .u64 r)),[]):=by
 rw [aK]
 unfold aD
 simp (maxSteps:=2000000) -implicitDefEqProofs only [afE,afl,↓syP,syA,syD,simprocAttr,syE,ah,ag,af,syW,xQ,nK]
 all_goals simp -implicitDefEqProofs only [List.map_nil]
def bo (v0:(List Int)) (v1:Int) (v2:Int):Option (List Int):=
 ob (aL 8 v0) fun x31=>
 ob (fW v0 v1) fun x32=>
 bif !x32 then
 some x31
 else
 ob (idx v0 v1) fun x33=>
 bif decide (0≤v1∧v1.toNat<x31.length) then
 ob (x31[v1.toNat]?) fun x34=>
 ob (idx v0 v1) fun x35=>
 some (x31.set v1.toNat v2)
 else
 none
theorem d8 (k:Nat) (v0:List Int) (v1 v2:Int):xC (k+11) none 88 [.ro (List.map (aI .u64) v0),.lit (.int .i64 v1),.lit (.int .u64 v2)]=ob (bo v0 v1 v2) fun r=>some ((.ro (List.map (aI .u64) r)),[]):=by
 rw [aK]
 unfold bo
 simp (maxSteps:=2000000) -implicitDefEqProofs only [agc,afr,Sq,Oo,acw,Xj,↓syP,syA,syD,simprocAttr,syE,ah,ag,af,syW,xQ,nK]
 all_goals simp -implicitDefEqProofs only [List.map_nil]
def cQ (v0:(List Int)) (v1:Int) (v2:Int):Option ((List Int)×Int):=
 ob (aL 8 v0) fun x46=>
 ob (fW v0 v1) fun x47=>
 bif !x47 then
 some (x46,0)
 else
 ob (idx v0 v1) fun x48=>
 bif decide (0≤v1∧v1.toNat<x46.length) then
 ob (x46[v1.toNat]?) fun x49=>
 ob (idx v0 v1) fun x50=>
 some ((x46.set v1.toNat (IntKind.u64.wrap (x48+v2))),x50)
 else
 none
theorem wc (k:Nat) (v0:List Int) (v1 v2:Int):xC (k+11) none 138 [.ro (List.map (aI .u64) v0),.lit (.int .i64 v1),.lit (.int .u64 v2)]=ob (cQ v0 v1 v2) fun r=>some ((.tup [.ro (List.map (aI .u64) r.1),.lit (.int .u64 r.2)]),[]):=by
 rw [aK]
 unfold cQ
 simp (maxSteps:=2000000) -implicitDefEqProofs only [aeG,V0,Sq,Oo,acQ,X9,↓syP,syA,syD,simprocAttr,syE,ah,ag,af,syW,xQ,nK]
 all_goals simp -implicitDefEqProofs only [List.map_nil]
def cR (v0 : (List Int)) (v1 : Int) (v2 : Int) (v3 : Int) : Option ((List Int) × Bool) :=
 ob (aL 8 v0) fun x63 =>
 ob (fW v0 v1) fun x64 =>
 bif !x64 then
 some (x63,false)
 else
 ob (idx v0 v1) fun x65 =>
 bif x65 != v2 then
 bif decide (0 ≤ v1 ∧ v1.toNat < x63.length) then
 ob (x63[v1.toNat]?) fun x66 =>
 ob (idx v0 v1) fun x67 =>
 some ((x63.set v1.toNat x65),false)
 else
 none
 else
 bif decide (0 ≤ v1 ∧ v1.toNat < x63.length) then
 ob (x63[v1.toNat]?) fun x68 =>
 ob (idx v0 v1) fun x69 =>
 some ((x63.set v1.toNat v3),true)
 else
 none
theorem gR (k:Nat) (v0:List Int) (v1 v2 v3:Int):xC (k+11) none 191 [.ro (List.map (aI .u64) v0),.lit (.int .i64 v1),.lit (.int .u64 v2),.lit (.int .u64 v3)]=ob (cR v0 v1 v2 v3) fun r=>some ((.tup [.ro (List.map (aI .u64) r.1),.lit (.bool r.2)]),[]):=by
 rw [aK]
 unfold cR
 simp (maxSteps:=2000000) -implicitDefEqProofs only [Sq,Oo,ac7,aaC,ab7,XP,↓syP,syA,syD,simprocAttr,syE,ah,ag,af,syW,xQ,nK]
 all_goals simp -implicitDefEqProofs only [List.map_nil]
def aF (v0:Int) (v1:Int) (v2:Int):Option (Int×Int×Int×Int×Int×Int×Int):=
 some (v0,0,v1,v2,0,0,0)
theorem lh (k:Nat) (v0 v1 v2:Int):xC (k+1) none 104 [.lit (.int .i64 v0),.lit (.int .i64 v1),.lit (.int .u64 v2)]=ob (aF v0 v1 v2) fun r=>some ((.agg [.lit (.int .i64 r.1),.lit (.int .i64 r.2.1),.lit (.int .i64 r.2.2.1),.lit (.int .u64 r.2.2.2.1),.lit (.int .u64 r.2.2.2.2.1),.lit (.int .u64 r.2.2.2.2.2.1),.lit (.int .i64 r.2.2.2.2.2.2)]),[]):=by
 rw [aK]
 unfold aF
 simp (maxSteps:=2000000) -implicitDefEqProofs only [abi,Z2,↓syP,syA,syD,simprocAttr,syE,ah,ag,af,syW,xQ]
 all_goals simp -implicitDefEqProofs only [List.map_nil]
def aG (v0:(Int×Int×Int×Int×Int×Int×Int)):Option Bool:=
 some (v0.2.2.2.2.2.2 !=0)
theorem eo (k:Nat) (v0_0 v0_1 v0_2 v0_3 v0_4 v0_5 v0_6:Int):xC (k+1) none 110 [.agg [.lit (.int .i64 v0_0),.lit (.int .i64 v0_1),.lit (.int .i64 v0_2),.lit (.int .u64 v0_3),.lit (.int .u64 v0_4),.lit (.int .u64 v0_5),.lit (.int .i64 v0_6)]]=ob (aG (v0_0,v0_1,v0_2,v0_3,v0_4,v0_5,v0_6)) fun r=>some ((.lit (.bool r)),[]):=by
 rw [aK]
 unfold aG
 simp (maxSteps:=2000000) -implicitDefEqProofs only [aeK,Y9,↓syP,syA,syD,simprocAttr,syE,ah,ag,af,syW,xQ]
 all_goals simp -implicitDefEqProofs only [List.map_nil]
def aV (v0:(Int×Int×Int×Int×Int×Int×Int)) (v1:Int) (v2:Int):Option (Int×Int×Int×Int×Int×Int×Int):=
 some (v0.1,0,v0.2.2.1,v2,0,0,v1)
theorem eS (k:Nat) (v0_0 v0_1 v0_2 v0_3 v0_4 v0_5 v0_6 v1 v2:Int):xC (k+1) none 193 [.agg [.lit (.int .i64 v0_0),.lit (.int .i64 v0_1),.lit (.int .i64 v0_2),.lit (.int .u64 v0_3),.lit (.int .u64 v0_4),.lit (.int .u64 v0_5),.lit (.int .i64 v0_6)],.lit (.int .i64 v1),.lit (.int .u64 v2)]=ob (aV (v0_0,v0_1,v0_2,v0_3,v0_4,v0_5,v0_6) v1 v2) fun r=>some ((.agg [.lit (.int .i64 r.1),.lit (.int .i64 r.2.1),.lit (.int .i64 r.2.2.1),.lit (.int .u64 r.2.2.2.1),.lit (.int .u64 r.2.2.2.2.1),.lit (.int .u64 r.2.2.2.2.2.1),.lit (.int .i64 r.2.2.2.2.2.2)]),[]):=by
 rw [aK]
 unfold aV
 simp (maxSteps:=2000000) -implicitDefEqProofs only [ab0,YG,↓syP,syA,syD,simprocAttr,syE,ah,ag,af,syW,xQ]
 all_goals simp -implicitDefEqProofs only [List.map_nil]
def kf (v0:Int) (v1:Int):Option Int:=
 bif decide (v1<0) then
 some v0
 else
 bif decide (16≤v1) then
 some v0
 else
 bif decide (0≤v1) then
 some (orI IntKind.u64 v0 (Dm IntKind.u64 1 v1))
 else
 none
theorem Hy (k:Nat) (v0 v1:Int):xC (k+1) none 214 [.lit (.int .u64 v0),.lit (.int .i64 v1)]=ob (kf v0 v1) fun r=>some ((.lit (.int .u64 r)),[]):=by
 rw [aK]
 unfold kf
 simp (maxSteps:=2000000) -implicitDefEqProofs only [acR,ZE,KB,uD,↓syP,syA,syD,simprocAttr,syE,ah,ag,af,syW,xQ]
 all_goals simp -implicitDefEqProofs only [List.map_nil]
def du (v0:Int):Option Int:=
 some (QG IntKind.u64 v0 16)
theorem mc (k:Nat) (v0:Int):xC (k+1) none 213 [.lit (.int .u64 v0)]=ob (du v0) fun r=>some ((.lit (.int .u64 r)),[]):=by
 rw [aK]
 unfold du
 simp (maxSteps:=2000000) -implicitDefEqProofs only [abS,WM,↓syP,syA,syD,simprocAttr,syE,ah,ag,af,syW,xQ]
 all_goals simp -implicitDefEqProofs only [List.map_nil]
def eB (v0:(Int×Int×Int×Int)) (v1:Int):Option Int:=
 ob (bL v0) fun x80=>
 bif !x80 then
 some ((-1))
 else
 ob (dP v1 0 (IntKind.i64.wrap (v0.1 - 1))) fun x81=>
 bif !x81 then
 some ((-1))
 else
 ob (eC v0 v1) fun x82=>
 some (IntKind.i64.wrap (x82+2))
theorem iP (k:Nat) (v0_0 v0_1 v0_2 v0_3 v1:Int):xC (k+12) none 32 [.agg [.lit (.int .i64 v0_0),.lit (.int .i64 v0_1),.lit (.int .i64 v0_2),.lit (.int .i64 v0_3)],.lit (.int .i64 v1)]=ob (eB (v0_0,v0_1,v0_2,v0_3) v1) fun r=>some ((.lit (.int .i64 r)),[]):=by
 rw [aK]
 unfold eB
 simp (maxSteps:=2000000) -implicitDefEqProofs only [afD,aeX,VD,Vw,rX,fE,afJ,afw,↓syP,syA,syD,simprocAttr,syE,ah,ag,af,syW,xQ,kW,bU,kd]
 all_goals simp -implicitDefEqProofs only [List.map_nil]
def cK (v0:Int):Option Int:=
 some (uA IntKind.u64 v0 65535)
theorem mG (k:Nat) (v0:Int):xC (k+1) none 192 [.lit (.int .u64 v0)]=ob (cK v0) fun r=>some ((.lit (.int .u64 r)),[]):=by
 rw [aK]
 unfold cK
 simp (maxSteps:=2000000) -implicitDefEqProofs only [adX,Wu,↓syP,syA,syD,simprocAttr,syE,ah,ag,af,syW,xQ]
 all_goals simp -implicitDefEqProofs only [List.map_nil]
def gb (v0:(Int×Int×Int×Int)) (v1:Int):Option Int:=
 ob (bL v0) fun x89=>
 bif !x89 then
 some ((-1))
 else
 ob (dP v1 0 (IntKind.i64.wrap (v0.1 - 1))) fun x90=>
 bif !x90 then
 some ((-1))
 else
 ob (eC v0 v1) fun x91=>
 some x91
theorem lH (k:Nat) (v0_0 v0_1 v0_2 v0_3 v1:Int):xC (k+12) none 107 [.agg [.lit (.int .i64 v0_0),.lit (.int .i64 v0_1),.lit (.int .i64 v0_2),.lit (.int .i64 v0_3)],.lit (.int .i64 v1)]=ob (gb (v0_0,v0_1,v0_2,v0_3) v1) fun r=>some ((.lit (.int .i64 r)),[]):=by
 rw [aK]
 unfold gb
 simp (maxSteps:=2000000) -implicitDefEqProofs only [VD,Vw,rX,fE,adO,Y1,abF,We,↓syP,syA,syD,simprocAttr,syE,ah,ag,af,syW,xQ,kW,bU,kd]
 all_goals simp -implicitDefEqProofs only [List.map_nil]
def cV (v0:(Int×Int×Int×Int)) (v1:Int):Option Int:=
 ob (bL v0) fun x98=>
 bif !x98 then
 some ((-1))
 else
 ob (dP v1 0 (IntKind.i64.wrap (v0.1 - 1))) fun x99=>
 bif !x99 then
 some ((-1))
 else
 ob (eC v0 v1) fun x100=>
 some (IntKind.i64.wrap (x100+1))
theorem f6 (k:Nat) (v0_0 v0_1 v0_2 v0_3 v1:Int):xC (k+12) none 108 [.agg [.lit (.int .i64 v0_0),.lit (.int .i64 v0_1),.lit (.int .i64 v0_2),.lit (.int .i64 v0_3)],.lit (.int .i64 v1)]=ob (cV (v0_0,v0_1,v0_2,v0_3) v1) fun r=>some ((.lit (.int .i64 r)),[]):=by
 rw [aK]
 unfold cV
 simp (maxSteps:=2000000) -implicitDefEqProofs only [VD,Vw,rX,fE,aef,aaf,adf,VX,↓syP,syA,syD,simprocAttr,syE,ah,ag,af,syW,xQ,kW,bU,kd]
 all_goals simp -implicitDefEqProofs only [List.map_nil]
def fg (v0:(Int×Int×Int×Int)) (v1:Int) (v2:Int):Option Int:=
 ob (bL v0) fun x107=>
 bif !x107 then
 some ((-1))
 else
 ob (dP v1 0 (IntKind.i64.wrap (v0.1 - 1))) fun x108=>
 bif !x108 then
 some ((-1))
 else
 ob (eC v0 v1) fun x109=>
 some (IntKind.i64.wrap (IntKind.i64.wrap (x109+3)+IntKind.i64.wrap (uA IntKind.u64 v2 (IntKind.u64.wrap (IntKind.i64.wrap (v0.2.1 - 1))))))
theorem oH (k:Nat) (v0_0 v0_1 v0_2 v0_3 v1 v2:Int):xC (k+12) none 109 [.agg [.lit (.int .i64 v0_0),.lit (.int .i64 v0_1),.lit (.int .i64 v0_2),.lit (.int .i64 v0_3)],.lit (.int .i64 v1),.lit (.int .u64 v2)]=ob (fg (v0_0,v0_1,v0_2,v0_3) v1 v2) fun r=>some ((.lit (.int .i64 r)),[]):=by
 rw [aK]
 unfold fg
 simp (maxSteps:=2000000) -implicitDefEqProofs only [VD,Vw,rX,fE,aca,XA,acm,Xb,↓syP,syA,syD,simprocAttr,syE,ah,ag,af,syW,xQ,kW,bU,kd]
 all_goals simp -implicitDefEqProofs only [List.map_nil]
def er (v0:Int) (v1:Int):Option Int:=
 some (IntKind.i64.wrap (IntKind.u64.wrap (v0 - v1)))
theorem iY (k:Nat) (v0 v1:Int):xC (k+1) none 106 [.lit (.int .u64 v0),.lit (.int .u64 v1)]=ob (er v0 v1) fun r=>some ((.lit (.int .i64 r)),[]):=by
 rw [aK]
 unfold er
 simp (maxSteps:=2000000) -implicitDefEqProofs only [abn,Wk,↓syP,syA,syD,simprocAttr,syE,ah,ag,af,syW,xQ]
 all_goals simp -implicitDefEqProofs only [List.map_nil]
def eb (k:Nat) (v0:(Int×Int×Int×Int))  : Nat→Int→List Int→Int→Nat→Option (List Int)
 | 0,_,_,_,_=>none
 | n+1,s115,s118,s119,s121=>
 bif decide (s119<s115) then
 ck (s121==1||s121==0) (
 bif room (s118++[(0:Int)]).length 8 then
 eb k v0  n (s115) (s118++[(0:Int)]) (IntKind.i64.wrap (s119+(1:Int))) (1)
 else
 none)
 else
 some (s118)
theorem lV (k:Nat) (v0_0 v0_1 v0_2 v0_3:Int):∀ (n:Nat) (s115:Int) (s118:List Int) (s119:Int) (s121:Nat) ⦃s117:Nat⦄,rt none (itX (xX (xS (k+3)) 59 0 (k+3) false) E0 (3) (au (xX (xS (k+3)) 59 0 (k+3) false) (aC (xS (k+3)).P Tryz.f59) Gf) n ⟨[.agg [.lit (.int .i64 v0_0),.lit (.int .i64 v0_1),.lit (.int .i64 v0_2),.lit (.int .i64 v0_3)],.ptr 0 0 0 0,.own 1 0 0,.own 2 s117 s118.length,.agg [.lit (.int .i64 v0_0),.lit (.int .i64 v0_1),.lit (.int .i64 v0_2),.lit (.int .i64 v0_3)],.lit (.int .i64 s115),.lit (.int .i64 s119),.junk,.junk,.junk,.junk,.junk,uu],[.box [.lit (.int .i64 v0_0),.lit (.int .i64 v0_1),.lit (.int .i64 v0_2),.lit (.int .i64 v0_3)],.rows 0 [] 0 true,.rows s121 (List.map (aI IntKind.u64) s118) s117 true]⟩)=ob (eb k (v0_0,v0_1,v0_2,v0_3)  n s115 s118 s119 s121) fun r=>some ((.ro (List.map (aI .u64) r)),[]):=by
 intro n
 induction n with
 | zero=>intros;rfl
 | succ n ih=>
  intro s115 s118 s119 s121 s117
  rw [eb]
  simp (maxSteps:=2000000) -implicitDefEqProofs only [afg,aci,acv,JT,oT,↓syP,syA,syD,simprocAttr,syE,ah,ag,af,syW,xQ,fM,PZ,ih]
  all_goals simp -implicitDefEqProofs only [List.map_nil]
def iX (k:Nat) (v0:(Int×Int×Int×Int)):Option (List Int):=
 ob (dm v0) fun x123=>
 eb k v0 (k+3) x123 ([]) 0 0
theorem nt (k:Nat) (v0_0 v0_1 v0_2 v0_3:Int):xC (k+4) none 59 [.agg [.lit (.int .i64 v0_0),.lit (.int .i64 v0_1),.lit (.int .i64 v0_2),.lit (.int .i64 v0_3)]]=ob (iX k (v0_0,v0_1,v0_2,v0_3)) fun r=>some ((.ro (List.map (aI .u64) r)),[]):=by
 rw [aK]
 unfold iX
 have hl0:=fun (x124:Int)=>lV k v0_0 v0_1 v0_2 v0_3 (k+3) (x124) ([]) ((0:Int)) (0)
 try simp -implicitDefEqProofs only [List.map_nil,List.length_nil] at hl0
 simp (maxSteps:=2000000) -implicitDefEqProofs only [afg,aci,acv,JT,oT,↓syP,syA,syD,simprocAttr,syE,ah,ag,af,syW,xQ,fM,lV k v0_0 v0_1 v0_2 v0_3,hl0]
 all_goals simp -implicitDefEqProofs only [List.map_nil]
def cY (v0:Int) (v1:Int):Option Bool:=
 bif decide (0≤v0) then
 some (decide (v0<v1))
 else
 some false
theorem oZ (k:Nat) (v0 v1:Int):xC (k+1) none 81 [.lit (.int .i64 v0),.lit (.int .i64 v1)]=ob (cY v0 v1) fun r=>some ((.lit (.bool r)),[]):=by
 rw [aK]
 unfold cY
 simp (maxSteps:=2000000) -implicitDefEqProofs only [afT,afh,PV,u7,↓syP,syA,syD,simprocAttr,syE,ah,ag,af,syW,xQ]
 all_goals simp -implicitDefEqProofs only [List.map_nil]
def eF (v0 : Int) (v1 : Int) (v2 : Int) : Option Int :=
 bif decide (v2 < 2) then
 some ((-1))
 else
 ob (cY v1 v2) fun x126 =>
 bif !x126 then
 some ((-1))
 else
 bif IntKind.u64.wrap (IntKind.u64.wrap v2 - 1) != 0 then
 bif IntKind.u64.wrap v2 != 0 then
 some (IntKind.i64.wrap ((IntKind.u64.wrap (IntKind.u64.wrap (IntKind.u64.wrap v1 + 1) + v0.tmod (IntKind.u64.wrap (IntKind.u64.wrap v2 - 1)))).tmod (IntKind.u64.wrap v2)))
 else
 none
 else
 none
theorem xn (k:Nat) (v0 v1 v2:Int):xC (k+2) none 161 [.lit (.int .u64 v0),.lit (.int .i64 v1),.lit (.int .i64 v2)]=ob (eF v0 v1 v2) fun r=>some ((.lit (.int .i64 r)),[]):=by
 rw [aK]
 unfold eF
 simp (maxSteps:=2000000) -implicitDefEqProofs only [abR,YX,Lm,ri,↓syP,syA,syD,simprocAttr,syE,ah,ag,af,syW,xQ,oZ]
 all_goals simp -implicitDefEqProofs only [List.map_nil]
def en (v0:(Int×Int×Int×Int)) (v1:(List Int)) (v2:(Int×Int×Int×Int×Int×Int×Int)) (v3:Int) (v4:Int):Option Bool:=
 ob (bL v0) fun x132=>
 bif x132 then
 ob (dm v0) fun x133=>
 bif (↑v1.length:Int)==x133 then
 ob (aG v2) fun x134=>
 bif !x134 then
 bif decide (0≤v2.2.2.1) then
 bif decide (v2.2.2.1<v0.1) then
 bif v2.1==v3 then
 bif decide (0≤v2.2.1) then
 some (decide (v2.2.1<v4))
 else
 some false
 else
 some false
 else
 some false
 else
 some false
 else
 some false
 else
 some false
 else
 some false
theorem gY (k:Nat) (v0_0 v0_1 v0_2 v0_3:Int) (v1:List Int) (v2_0 v2_1 v2_2 v2_3 v2_4 v2_5 v2_6 v3 v4:Int):xC (k+4) none 188 [.agg [.lit (.int .i64 v0_0),.lit (.int .i64 v0_1),.lit (.int .i64 v0_2),.lit (.int .i64 v0_3)],.ro (List.map (aI .u64) v1),.agg [.lit (.int .i64 v2_0),.lit (.int .i64 v2_1),.lit (.int .i64 v2_2),.lit (.int .u64 v2_3),.lit (.int .u64 v2_4),.lit (.int .u64 v2_5),.lit (.int .i64 v2_6)],.lit (.int .i64 v3),.lit (.int .i64 v4)]=ob (en (v0_0,v0_1,v0_2,v0_3) v1 (v2_0,v2_1,v2_2,v2_3,v2_4,v2_5,v2_6) v3 v4) fun r=>some ((.lit (.bool r)),[]):=by
 rw [aK]
 unfold en
 simp (maxSteps:=2000000) -implicitDefEqProofs only [abz,WU,Kw,J6,J0,Jy,Li,Lf,Kc,pW,↓syP,syA,syD,simprocAttr,syE,ah,ag,af,syW,xQ,bU,fM,eo]
 all_goals simp -implicitDefEqProofs only [List.map_nil]
def gU (v0 : (Int × Int × Int × Int)) (v1 : (List Int)) (v2 : (Int × Int × Int × Int × Int × Int × Int)) : Option ((List Int) × (Int × Int × Int × Int × Int × Int × Int)) :=
 ob (aL 8 v1) fun x152 =>
 ob (en v0 v1 v2 5 5) fun x153 =>
 bif x153 then
 bif decide (0 ≤ v2.2.1 ∧ v2.2.1.toNat < 5) then
 bif v2.2.1.toNat == 0 then
 ob (aD x152 2) fun x154 =>
 some (x152,(v2.1,1,v2.2.2.1,v2.2.2.2.1,x154,v2.2.2.2.2.2))
 else
 bif v2.2.1.toNat == 1 then
 ob (aD x152 2) fun x155 =>
 ob (du x155) fun x156 =>
 ob (du v2.2.2.2.2.1) fun x157 =>
 bif x156 != x157 then
 ob (aV (v2.1,2,v2.2.2.1,v2.2.2.2.1,v2.2.2.2.2.1,x155,v2.2.2.2.2.2.2) 4 0) fun x158 =>
 some (x152,x158)
 else
 some (x152,(v2.1,2,v2.2.2.1,v2.2.2.2.1,v2.2.2.2.2.1,x155,v2.2.2.2.2.2.2))
 else
 bif v2.2.1.toNat == 2 then
 ob (kf v2.2.2.2.2.2.1 v2.2.2.1) fun x159 =>
 ob (cR x152 2 v2.2.2.2.2.2.1 x159) fun x160 =>
 bif x160.2 then
 some (x160.1,(v2.1,3,v2.2.2))
 else
 some (x160.1,(v2.1,1,v2.2.2))
 else
 bif v2.2.1.toNat == 3 then
 ob (eB v0 v2.2.2.1) fun x161 =>
 ob (aD x152 x161) fun x162 =>
 bif x162 != 0 then
 some (x152,(v2.1,4,v2.2.2.1,v2.2.2.2.1,v2.2.2.2.2.1,x162,v2.2.2.2.2.2.2))
 else
 some (x152,(v2.1,v2.2.1,v2.2.2.1,v2.2.2.2.1,v2.2.2.2.2.1,x162,v2.2.2.2.2.2.2))
 else
 bif v2.2.1.toNat == 4 then
 ob (eB v0 v2.2.2.1) fun x163 =>
 ob (bo x152 x163 0) fun x164 =>
 ob (aV v2 1 0) fun x165 =>
 some (x164,x165)
 else
 none
 else
 none
 else
 some (x152,v2)
theorem Do (k:Nat) (v0_0 v0_1 v0_2 v0_3:Int) (v1:List Int) (v2_0 v2_1 v2_2 v2_3 v2_4 v2_5 v2_6:Int):xC (k+14) none 165 [.agg [.lit (.int .i64 v0_0),.lit (.int .i64 v0_1),.lit (.int .i64 v0_2),.lit (.int .i64 v0_3)],.ro (List.map (aI .u64) v1),.agg [.lit (.int .i64 v2_0),.lit (.int .i64 v2_1),.lit (.int .i64 v2_2),.lit (.int .u64 v2_3),.lit (.int .u64 v2_4),.lit (.int .u64 v2_5),.lit (.int .i64 v2_6)]]=ob (gU (v0_0,v0_1,v0_2,v0_3) v1 (v2_0,v2_1,v2_2,v2_3,v2_4,v2_5,v2_6)) fun r=>some ((.tup [.ro (List.map (aI .u64) r.1),.agg [.lit (.int .i64 r.2.1),.lit (.int .i64 r.2.2.1),.lit (.int .i64 r.2.2.2.1),.lit (.int .u64 r.2.2.2.2.1),.lit (.int .u64 r.2.2.2.2.2.1),.lit (.int .u64 r.2.2.2.2.2.2.1),.lit (.int .i64 r.2.2.2.2.2.2.2)]]),[]):=by
 rw [aK]
 unfold gU
 simp (maxSteps:=2000000) -implicitDefEqProofs only [adB,XF,Js,uj,aep,Zy,ade,Z4,abl,YZ,aeR,aaB,adw,V2,↓syP,syA,syD,simprocAttr,syE,ah,ag,af,syW,xQ,cq,d8,gR,eS,Hy,mc,iP,gY]
 all_goals simp -implicitDefEqProofs only [List.map_nil]
end Go.Ab
set_option maxRecDepth 100000
set_option linter.unusedVariables false
set_option linter.unusedSimpArgs false
namespace Go.Ab
open Go.Proofs
def ig (v0:(Int×Int×Int×Int)) (v1:(List Int)) (v2:(Int×Int×Int×Int×Int×Int×Int)):Option Bool:=
 bif v2.1==6 then
 ob (bL v0) fun x8=>
 bif x8 then
 ob (dm v0) fun x9=>
 bif (↑v1.length:Int)==x9 then
 ob (aG v2) fun x10=>
 bif !x10 then
 bif decide (0≤v2.2.1) then
 some (decide (v2.2.1≤2))
 else
 some false
 else
 some false
 else
 some false
 else
 some false
 else
 bif v2.1==7 then
 ob (bL v0) fun x11=>
 bif x11 then
 ob (dm v0) fun x12=>
 bif (↑v1.length:Int)==x12 then
 ob (aG v2) fun x13=>
 bif !x13 then
 bif decide (0≤v2.2.1) then
 some (decide (v2.2.1≤2))
 else
 some false
 else
 some false
 else
 some false
 else
 some false
 else
 some false
theorem DA (k:Nat) (v0_0 v0_1 v0_2 v0_3:Int) (v1:List Int) (v2_0 v2_1 v2_2 v2_3 v2_4 v2_5 v2_6:Int):xC (k+15) none 189 [.agg [.lit (.int .i64 v0_0),.lit (.int .i64 v0_1),.lit (.int .i64 v0_2),.lit (.int .i64 v0_3)],.ro (List.map (aI .u64) v1),.agg [.lit (.int .i64 v2_0),.lit (.int .i64 v2_1),.lit (.int .i64 v2_2),.lit (.int .u64 v2_3),.lit (.int .u64 v2_4),.lit (.int .u64 v2_5),.lit (.int .i64 v2_6)]]=ob (ig (v0_0,v0_1,v0_2,v0_3) v1 (v2_0,v2_1,v2_2,v2_3,v2_4,v2_5,v2_6)) fun r=>some ((.lit (.bool r)),[]):=by
 rw [aK]
 unfold ig
 simp (maxSteps:=2000000) -implicitDefEqProofs only [acY,W4,K9,JQ,JZ,IY,Jb,uB,Xs,Vc,aK (g:=190),Tn,Mm,RR,Mu,↓syP,syA,syD,simprocAttr,syE,ah,ag,af,syW,xQ,bU,fM,eo]
 all_goals simp -implicitDefEqProofs only [List.map_nil]
def fS (v0:Int) (v1:Int):Option Int:=
 some (orI IntKind.u64 (Dm IntKind.u64 v0 16) (uA IntKind.u64 v1 65535))
theorem uJ (k:Nat) (v0 v1:Int):xC (k+1) none 233 [.lit (.int .u64 v0),.lit (.int .u64 v1)]=ob (fS v0 v1) fun r=>some ((.lit (.int .u64 r)),[]):=by
 rw [aK]
 unfold fS
 simp (maxSteps:=2000000) -implicitDefEqProofs only [ab4,ZY,↓syP,syA,syD,simprocAttr,syE,ah,ag,af,syW,xQ]
 all_goals simp -implicitDefEqProofs only [List.map_nil]
def co (k:Nat) (v0:Int)  : Nat→Int→Option Int
 | 0,_=>none
 | n+1,s27=>
 bif decide (s27<(16:Int)) then
 bif decide ((0:Int)≤s27) then
 bif uA IntKind.u64 (QG IntKind.u64 v0 s27) (1:Int)==(1:Int) then
 some (s27)
 else
 co k v0  n (IntKind.i64.wrap (s27+(1:Int)))
 else
 none
 else
 some ((-1:Int))
theorem mU (k:Nat) (v0:Int):∀ (n:Nat) (s27:Int) ⦃j26:V⦄,rt none (bq (itX (xX (xS (k+9)) 234 0 (k+9) false) lS (3) (au (xX (xS (k+9)) 234 0 (k+9) false) (aC (xS (k+9)).P Tryz.f234) Ax) n ⟨[.yld 2,.ptr 1 0 0 0,uu,j26,.lit (.int .i64 s27),.junk,.junk,.junk,.junk,.junk,.junk,.junk,.junk,.junk,.junk,.junk,.junk,.junk,.junk],[.box [.lit (.int .i64 (0:Int))],.box [.lit (.int .u64 v0)],(.loop ⟨LoopState.ready,none,195,[.lit (.int .u64 v0),uu,.ptr 0 0 0 0,uu,.lit (.int .u64 v0),.fn (Fn.func (234:FuncId)) [] [.ptr 1 0 0 0],uu,uu],[(6:Tmp)],ED,Es⟩)]⟩) (rfK (au (xX (xS (k+10)) 195 0 (k+10) false) (aC (xS (k+10)).P Tryz.f195) AR) [.lit (.int .u64 v0),uu,.ptr 0 0 0 0,uu,.lit (.int .u64 v0),.fn (Fn.func (234:FuncId)) [] [.ptr 1 0 0 0],uu,uu] (2)))=ob (co k v0  n s27) fun r=>some ((.lit (.int .i64 r)),[]):=by
 intro n
 induction n with
 | zero=>intros;rfl
 | succ n ih=>
  intro s27 j26
  rw [co]
  simp (maxSteps:=2000000) -implicitDefEqProofs only [WG,Rx,Tc,EN,ii,gV,na,wY,ZI,SH,aK (g:=220),Wo,TE,Vf,D0,DV,mZ,mN,↓syP,syA,syD,simprocAttr,syE,ah,ag,af,syW,xQ,K4,ih]
  all_goals simp -implicitDefEqProofs only [List.map_nil]
def fq (k:Nat) (v0:Int):Option Int:=
 co k v0 (k+9) 0
theorem nM (k:Nat) (v0:Int):xC (k+11) none 195 [.lit (.int .u64 v0)]=ob (fq k v0) fun r=>some ((.lit (.int .i64 r)),[]):=by
 rw [aK]
 unfold fq
 simp (maxSteps:=2000000) -implicitDefEqProofs only [WG,Rx,Tc,EN,ii,gV,na,wY,ZI,SH,aK (g:=220),Wo,TE,Vf,D0,DV,mZ,mN,↓syP,syA,syD,simprocAttr,syE,ah,ag,af,syW,xQ,mU k v0]
 all_goals simp -implicitDefEqProofs only [List.map_nil]
def ip (k:Nat) (v0:Int):Option (Int×Int):=
 ob (cK v0) fun x32=>
 ob (du v0) fun x33=>
 ob (fS (IntKind.u64.wrap (x33+1)) (uA IntKind.u64 x32 (IntKind.u64.wrap (x32 - 1)))) fun x34=>
 ob (fq k x32) fun x35=>
 some (x34,x35)
theorem Ew (k:Nat) (v0:Int):xC (k+12) none 216 [.lit (.int .u64 v0)]=ob (ip k v0) fun r=>some ((.tup [.lit (.int .u64 r.1),.lit (.int .i64 r.2)]),[]):=by
 rw [aK]
 unfold ip
 simp (maxSteps:=2000000) -implicitDefEqProofs only [ac8,YN,↓syP,syA,syD,simprocAttr,syE,ah,ag,af,syW,xQ,mc,mG,uJ,nM]
 all_goals simp -implicitDefEqProofs only [List.map_nil]
def eI (k:Nat) (v0:Int):Option (Int×Int):=
 ob (ip k v0) fun x41=>
 some (x41.1,(IntKind.u64.wrap (bif decide (x41.2<0) then 0 else x41.2)))
theorem uV (k:Nat) (v0:Int):xC (k+13) none 215 [.lit (.int .u64 v0)]=ob (eI k v0) fun r=>some ((.tup [.lit (.int .u64 r.1),.lit (.int .u64 r.2)]),[]):=by
 rw [aK]
 unfold eI
 simp (maxSteps:=2000000) -implicitDefEqProofs only [Tn,Mm,↓syP,syA,syD,simprocAttr,syE,ah,ag,af,syW,xQ,Ew]
 all_goals simp -implicitDefEqProofs only [List.map_nil]
def gT (v0:Int):Option Int:=
 ob (du v0) fun x45=>
 ob (fS (IntKind.u64.wrap (x45+1)) 0) fun x46=>
 some x46
theorem EI (k:Nat) (v0:Int):xC (k+2) none 218 [.lit (.int .u64 v0)]=ob (gT v0) fun r=>some ((.lit (.int .u64 r)),[]):=by
 rw [aK]
 unfold gT
 simp (maxSteps:=2000000) -implicitDefEqProofs only [ac9,aap,↓syP,syA,syD,simprocAttr,syE,ah,ag,af,syW,xQ,mc,uJ]
 all_goals simp -implicitDefEqProofs only [List.map_nil]
def eL (v0:Int):Option (Int×Int):=
 ob (gT v0) fun x51=>
 ob (cK v0) fun x52=>
 some (x51,x52)
theorem u3 (k:Nat) (v0:Int):xC (k+3) none 217 [.lit (.int .u64 v0)]=ob (eL v0) fun r=>some ((.tup [.lit (.int .u64 r.1),.lit (.int .u64 r.2)]),[]):=by
 rw [aK]
 unfold eL
 simp (maxSteps:=2000000) -implicitDefEqProofs only [RR,Mu,↓syP,syA,syD,simprocAttr,syE,ah,ag,af,syW,xQ,mG,EI]
 all_goals simp -implicitDefEqProofs only [List.map_nil]
def dL (k:Nat) (v0:(Int×Int×Int×Int)) (v1:(List Int)) (v2:(List Int))  : Nat→List Int→Int→Option (List Int)
 | 0,_,_=>none
 | n+1,s59,s61=>
 bif decide (s61<(↑v2.length:Int)) then
 ob (idx v2 s61) fun x68=>
 ob (eB (v0.1,v0.2.1,v0.2.2.1,v0.2.2.2) x68) fun x69=>
 ob (bo s59 x69 (1:Int)) fun x70=>
 dL k v0 v1 v2  n (x70) (IntKind.i64.wrap (s61+(1:Int)))
 else
 some (s59)
theorem ov (k:Nat) (v0_0 v0_1 v0_2 v0_3:Int) (v1 v2:List Int):∀ (n:Nat) (s59:List Int) (s61:Int) ⦃j60:V⦄,rt none (itX (xX (xS (k+12)) 194 0 (k+12) false) xf (2) (au (xX (xS (k+12)) 194 0 (k+12) false) (aC (xS (k+12)).P Tryz.f194) xW) n ⟨[.agg [.lit (.int .i64 v0_0),.lit (.int .i64 v0_1),.lit (.int .i64 v0_2),.lit (.int .i64 v0_3)],.ro (List.map (aI IntKind.u64) s59),.ro (List.map (aI IntKind.i64) v2),.ptr 0 0 0 0,uu,uu,.own 1 0 0,uu,j60,.ro (List.map (aI IntKind.i64) v2),.lit (.int .i64 (↑v2.length:Int)),.lit (.int .i64 s61),.junk,.junk,.junk,.junk,.junk,.junk,.junk,.junk,.junk,uu],[.box [.lit (.int .i64 v0_0),.lit (.int .i64 v0_1),.lit (.int .i64 v0_2),.lit (.int .i64 v0_3)],.rows 0 [] 0 true]⟩)=ob (dL k (v0_0,v0_1,v0_2,v0_3) v1 v2  n s59 s61) fun r=>some ((.ro (List.map (aI .u64) r)),[]):=by
 intro n
 induction n with
 | zero=>intros;rfl
 | succ n ih=>
  intro s59 s61 j60
  rw [dL]
  simp (maxSteps:=2000000) -implicitDefEqProofs only [Wi,UU,RK,D4,mR,↓syP,syA,syD,simprocAttr,syE,ah,ag,af,syW,xQ,d8,iP,H8,ih]
  all_goals simp -implicitDefEqProofs only [List.map_nil]
def eX (k:Nat) (v0:(Int×Int×Int×Int)) (v1:(List Int)) (v2:(List Int)):Option (List Int):=
 dL k v0 v1 v2 (k+12) v1 0
theorem Dg (k:Nat) (v0_0 v0_1 v0_2 v0_3:Int) (v1 v2:List Int):xC (k+13) none 194 [.agg [.lit (.int .i64 v0_0),.lit (.int .i64 v0_1),.lit (.int .i64 v0_2),.lit (.int .i64 v0_3)],.ro (List.map (aI .u64) v1),.ro (List.map (aI .i64) v2)]=ob (eX k (v0_0,v0_1,v0_2,v0_3) v1 v2) fun r=>some ((.ro (List.map (aI .u64) r)),[]):=by
 rw [aK]
 unfold eX
 simp (maxSteps:=2000000) -implicitDefEqProofs only [Wi,UU,RK,D4,mR,↓syP,syA,syD,simprocAttr,syE,ah,ag,af,syW,xQ,ov k v0_0 v0_1 v0_2 v0_3 v1 v2]
 all_goals simp -implicitDefEqProofs only [List.map_nil]
def fJ (k:Nat) (v0:(Int×Int×Int×Int)) (v1:(List Int)) (v2:(Int×Int×Int×Int×Int×Int×Int)):Option ((List Int)×(Int×Int×Int×Int×Int×Int×Int)):=
 ob (aL 8 v1) fun x93=>
 ob (ig v0 v1 v2) fun x94=>
 bif !x94 then
 some (x93,v2)
 else
 bif v2.2.1==0 then
 ob (aD x93 2) fun x95=>
 some (x93,(v2.1,1,v2.2.2.1,v2.2.2.2.1,x95,v2.2.2.2.2.2))
 else
 bif v2.2.1==1 then
 bif v2.1==6 then
 ob (eI (k+2) v2.2.2.2.2.1) fun x96=>
 ob (cR x93 2 v2.2.2.2.2.1 x96.1) fun x97=>
 bif !x97.2 then
 some (x97.1,(v2.1,0,v2.2.2))
 else
 ob (cK v2.2.2.2.2.1) fun x98=>
 bif x98==0 then
 ob (aV (v2.1,0,v2.2.2) 3 0) fun x99=>
 some (x97.1,x99)
 else
 some (x97.1,(v2.1,2,v2.2.2.1,v2.2.2.2.1,v2.2.2.2.2.1,x96.2,v2.2.2.2.2.2.2))
 else
 bif v2.1==7 then
 ob (eL v2.2.2.2.2.1) fun x100=>
 ob (cR x93 2 v2.2.2.2.2.1 x100.1) fun x101=>
 bif !x101.2 then
 some (x101.1,(v2.1,0,v2.2.2))
 else
 ob (cK v2.2.2.2.2.1) fun x102=>
 bif x102==0 then
 ob (aV (v2.1,0,v2.2.2) 3 0) fun x103=>
 some (x101.1,x103)
 else
 some (x101.1,(v2.1,2,v2.2.2.1,v2.2.2.2.1,v2.2.2.2.2.1,x100.2,v2.2.2.2.2.2.2))
 else
 none
 else
 bif v2.1==6 then
 bif decide (v2.2.2.2.2.2.1<8) then
 ob (eX (k+2) v0 x93 [IntKind.i64.wrap v2.2.2.2.2.2.1]) fun x104=>
 ob (aV v2 1 v2.2.2.2.2.2.1) fun x105=>
 some (x104,x105)
 else
 ob (eX (k+2) v0 x93 [(-1)]) fun x106=>
 ob (aV v2 1 v2.2.2.2.2.2.1) fun x107=>
 some (x106,x107)
 else
 ob (fq (k+4) v2.2.2.2.2.2.1) fun x108=>
 ob (eX (k+2) v0 x93 [x108]) fun x109=>
 ob (cK v2.2.2.2.2.2.1) fun x110=>
 bif uA IntKind.u64 x110 (IntKind.u64.wrap (x110 - 1))==0 then
 ob (cK v2.2.2.2.2.1) fun x111=>
 ob (aV (v2.1,v2.2.1,v2.2.2.1,v2.2.2.2.1,v2.2.2.2.2.1,x110,v2.2.2.2.2.2.2) 1 x111) fun x112=>
 some (x109,x112)
 else
 bif x110==0 then
 ob (cK v2.2.2.2.2.1) fun x113=>
 ob (aV (v2.1,v2.2.1,v2.2.2.1,v2.2.2.2.1,v2.2.2.2.2.1,x110,v2.2.2.2.2.2.2) 1 x113) fun x114=>
 some (x109,x114)
 else
 some (x109,(v2.1,v2.2.1,v2.2.2.1,v2.2.2.2.1,v2.2.2.2.2.1,(uA IntKind.u64 x110 (IntKind.u64.wrap (x110 - 1))),v2.2.2.2.2.2.2))
theorem EA (k:Nat) (v0_0 v0_1 v0_2 v0_3:Int) (v1:List Int) (v2_0 v2_1 v2_2 v2_3 v2_4 v2_5 v2_6:Int):xC (k+16) none 166 [.agg [.lit (.int .i64 v0_0),.lit (.int .i64 v0_1),.lit (.int .i64 v0_2),.lit (.int .i64 v0_3)],.ro (List.map (aI .u64) v1),.agg [.lit (.int .i64 v2_0),.lit (.int .i64 v2_1),.lit (.int .i64 v2_2),.lit (.int .u64 v2_3),.lit (.int .u64 v2_4),.lit (.int .u64 v2_5),.lit (.int .i64 v2_6)]]=ob (fJ k (v0_0,v0_1,v0_2,v0_3) v1 (v2_0,v2_1,v2_2,v2_3,v2_4,v2_5,v2_6)) fun r=>some ((.tup [.ro (List.map (aI .u64) r.1),.agg [.lit (.int .i64 r.2.1),.lit (.int .i64 r.2.2.1),.lit (.int .i64 r.2.2.2.1),.lit (.int .u64 r.2.2.2.2.1),.lit (.int .u64 r.2.2.2.2.2.1),.lit (.int .u64 r.2.2.2.2.2.2.1),.lit (.int .i64 r.2.2.2.2.2.2.2)]]),[]):=by
 rw [aK]
 unfold fJ
 simp (maxSteps:=2000000) -implicitDefEqProofs only [adD,aaq,Ij,JB,Jd,rh,rW,pN,Xs,Vc,aK (g:=190),Tn,Mm,RR,Mu,↓syP,syA,syD,simprocAttr,syE,ah,ag,af,syW,xQ,cq,gR,eS,mG,DA,nM,uV,u3,Dg]
 all_goals simp -implicitDefEqProofs only [List.map_nil]
end Go.Ab
set_option maxRecDepth 100000
set_option linter.unusedVariables false
set_option linter.unusedSimpArgs false
namespace Go.Ab
open Go.Proofs
def ix (v0:(Int×Int×Int×Int)) (v1:(List Int)) (v2:(Int×Int×Int×Int×Int×Int×Int)):Option ((List Int)×(Int×Int×Int×Int×Int×Int×Int)):=
 ob (aL 8 v1) fun x14=>
 ob (en v0 v1 v2 0 4) fun x15=>
 bif x15 then
 bif v2.2.1==0 then
 ob (cV v0 v2.2.2.1) fun x16=>
 ob (aD x14 x16) fun x17=>
 some (x14,(v2.1,1,v2.2.2.1,v2.2.2.2.1,x17,v2.2.2.2.2.2))
 else
 bif v2.2.1==1 then
 ob (gb v0 v2.2.2.1) fun x18=>
 ob (aD x14 x18) fun x19=>
 bif decide (IntKind.u64.wrap v0.2.1≤IntKind.u64.wrap (v2.2.2.2.2.1 - x19)) then
 ob (aV (v2.1,2,v2.2.2.1,v2.2.2.2.1,v2.2.2.2.2.1,x19,v2.2.2.2.2.2.2) 2 v2.2.2.2.1) fun x20=>
 some (x14,x20)
 else
 some (x14,(v2.1,2,v2.2.2.1,v2.2.2.2.1,v2.2.2.2.2.1,x19,v2.2.2.2.2.2.2))
 else
 bif v2.2.1==2 then
 ob (fg v0 v2.2.2.1 v2.2.2.2.2.1) fun x21=>
 ob (bo x14 x21 v2.2.2.2.1) fun x22=>
 some (x22,(v2.1,3,v2.2.2))
 else
 bif v2.2.1==3 then
 ob (cV v0 v2.2.2.1) fun x23=>
 ob (bo x14 x23 (IntKind.u64.wrap (v2.2.2.2.2.1+1))) fun x24=>
 ob (aV v2 1 v2.2.2.2.1) fun x25=>
 some (x24,x25)
 else
 none
 else
 some (x14,v2)
theorem Dz (k:Nat) (v0_0 v0_1 v0_2 v0_3:Int) (v1:List Int) (v2_0 v2_1 v2_2 v2_3 v2_4 v2_5 v2_6:Int):xC (k+24) none 207 [.agg [.lit (.int .i64 v0_0),.lit (.int .i64 v0_1),.lit (.int .i64 v0_2),.lit (.int .i64 v0_3)],.ro (List.map (aI .u64) v1),.agg [.lit (.int .i64 v2_0),.lit (.int .i64 v2_1),.lit (.int .i64 v2_2),.lit (.int .u64 v2_3),.lit (.int .u64 v2_4),.lit (.int .u64 v2_5),.lit (.int .i64 v2_6)]]=ob (ix (v0_0,v0_1,v0_2,v0_3) v1 (v2_0,v2_1,v2_2,v2_3,v2_4,v2_5,v2_6)) fun r=>some ((.tup [.ro (List.map (aI .u64) r.1),.agg [.lit (.int .i64 r.2.1),.lit (.int .i64 r.2.2.1),.lit (.int .i64 r.2.2.2.1),.lit (.int .u64 r.2.2.2.2.1),.lit (.int .u64 r.2.2.2.2.2.1),.lit (.int .u64 r.2.2.2.2.2.2.1),.lit (.int .i64 r.2.2.2.2.2.2.2)]]),[]):=by
 rw [aK]
 unfold ix
 simp (maxSteps:=2000000) -implicitDefEqProofs only [ad6,W5,Kv,rn,abZ,WO,acl,YV,aeM,YW,ael,Ws,↓syP,syA,syD,simprocAttr,syE,ah,ag,af,syW,xQ,cq,d8,eS,lH,f6,oH,gY]
 all_goals simp -implicitDefEqProofs only [List.map_nil]
def ky (v0:(Int×Int×Int×Int)) (v1:(List Int)) (v2:(Int×Int×Int×Int×Int×Int×Int)):Option ((List Int)×(Int×Int×Int×Int×Int×Int×Int)):=
 ob (aL 8 v1) fun x54=>
 ob (en v0 v1 v2 1 7) fun x55=>
 bif !x55 then
 some (x54,v2)
 else
 ob (gb v0 v2.2.2.1) fun x56=>
 ob (cV v0 v2.2.2.1) fun x57=>
 bif v2.2.1==0 then
 ob (aD x54 x57) fun x58=>
 some (x54,(v2.1,(IntKind.i64.wrap (v2.2.1+1)),v2.2.2.1,v2.2.2.2.1,(IntKind.u64.wrap (x58 - 1)),v2.2.2.2.2.2))
 else
 bif v2.2.1==1 then
 ob (bo x54 x57 v2.2.2.2.2.1) fun x59=>
 some (x59,(v2.1,(IntKind.i64.wrap (v2.2.1+1)),v2.2.2))
 else
 bif v2.2.1==2 then
 ob (aD x54 x56) fun x60=>
 ob (er v2.2.2.2.2.1 x60) fun x61=>
 bif decide (x61<0) then
 some (x54,(v2.1,6,v2.2.2.1,v2.2.2.2.1,v2.2.2.2.2.1,x60,v2.2.2.2.2.2.2))
 else
 some (x54,(v2.1,(IntKind.i64.wrap (v2.2.1+1)),v2.2.2.1,v2.2.2.2.1,v2.2.2.2.2.1,x60,v2.2.2.2.2.2.2))
 else
 bif v2.2.1==3 then
 ob (fg v0 v2.2.2.1 v2.2.2.2.2.1) fun x62=>
 ob (aD x54 x62) fun x63=>
 bif v2.2.2.2.2.1 !=v2.2.2.2.2.2.1 then
 ob (aV (v2.1,v2.2.1,v2.2.2.1,x63,v2.2.2.2.2) 1 x63) fun x64=>
 some (x54,x64)
 else
 some (x54,(v2.1,(IntKind.i64.wrap (v2.2.1+1)),v2.2.2.1,x63,v2.2.2.2.2))
 else
 bif v2.2.1==4 then
 ob (cR x54 x56 v2.2.2.2.2.2.1 (IntKind.u64.wrap (v2.2.2.2.2.2.1+1))) fun x65=>
 bif !x65.2 then
 some (x65.1,(v2.1,6,v2.2.2))
 else
 some (x65.1,(v2.1,(IntKind.i64.wrap (v2.2.1+1)),v2.2.2))
 else
 bif v2.2.1==5 then
 ob (bo x54 x57 (IntKind.u64.wrap (v2.2.2.2.2.1+1))) fun x66=>
 ob (aV v2 1 v2.2.2.2.1) fun x67=>
 some (x66,x67)
 else
 ob (bo x54 x57 (IntKind.u64.wrap (v2.2.2.2.2.1+1))) fun x68=>
 ob (aV v2 3 0) fun x69=>
 some (x68,x69)
theorem GF (k:Nat) (v0_0 v0_1 v0_2 v0_3:Int) (v1:List Int) (v2_0 v2_1 v2_2 v2_3 v2_4 v2_5 v2_6:Int):xC (k+24) none 208 [.agg [.lit (.int .i64 v0_0),.lit (.int .i64 v0_1),.lit (.int .i64 v0_2),.lit (.int .i64 v0_3)],.ro (List.map (aI .u64) v1),.agg [.lit (.int .i64 v2_0),.lit (.int .i64 v2_1),.lit (.int .i64 v2_2),.lit (.int .u64 v2_3),.lit (.int .u64 v2_4),.lit (.int .u64 v2_5),.lit (.int .i64 v2_6)]]=ob (ky (v0_0,v0_1,v0_2,v0_3) v1 (v2_0,v2_1,v2_2,v2_3,v2_4,v2_5,v2_6)) fun r=>some ((.tup [.ro (List.map (aI .u64) r.1),.agg [.lit (.int .i64 r.2.1),.lit (.int .i64 r.2.2.1),.lit (.int .i64 r.2.2.2.1),.lit (.int .u64 r.2.2.2.2.1),.lit (.int .u64 r.2.2.2.2.2.1),.lit (.int .u64 r.2.2.2.2.2.2.1),.lit (.int .i64 r.2.2.2.2.2.2.2)]]),[]):=by
 rw [aK]
 unfold ky
 simp (maxSteps:=2000000) -implicitDefEqProofs only [ack,XC,ab8,ZU,↓syP,syA,syD,simprocAttr,syE,ah,ag,af,syW,xQ,cq,d8,gR,eS,lH,f6,oH,iY,gY]
 all_goals simp -implicitDefEqProofs only [List.map_nil]
def ap (k : Nat) (v0 : (Int × Int × Int × Int)) (v1 : (List Int)) (v2 : (Int × Int × Int × Int × Int × Int × Int))  : Nat → List Int → Int → Int → Int → Option ((List Int) × (Int × Int × Int × Int × Int × Int × Int))
 | 0,_,_,_,_ => none
 | n + 1,s91,s94,s95,s117 =>
 bif decide (s117 < (4 : Int)) then
 bif decide ((0 : Int) ≤ s117 ∧ s117.toNat < (4 : Nat)) then
 bif s117.toNat == (0 : Nat) then
 bif s117 != v2.2.1 then
 ap k v0 v1 v2  n (s91) (s94) (s95) (IntKind.i64.wrap (s117 + (1 : Int)))
 else
 ob (aD s91 s94) fun x152 =>
 ob (aG (v2.1,v2.2.1,v2.2.2.1,v2.2.2.2.1,v2.2.2.2.2.1,x152,v2.2.2.2.2.2.2)) fun x153 =>
 bif !x153 then
 some ((s91),((v2.1),(IntKind.i64.wrap (v2.2.1 + (1 : Int))),(v2.2.2.1),(v2.2.2.2.1),(v2.2.2.2.2.1),(x152),(v2.2.2.2.2.2.2)))
 else
 some ((s91),((v2.1),(v2.2.1),(v2.2.2.1),(v2.2.2.2.1),(v2.2.2.2.2.1),(x152),(v2.2.2.2.2.2.2)))
 else
 bif s117.toNat == (1 : Nat) then
 bif s117 != v2.2.1 then
 ap k v0 v1 v2  n (s91) (s94) (s95) (IntKind.i64.wrap (s117 + (1 : Int)))
 else
 ob (aD s91 s95) fun x154 =>
 ob (er x154 v2.2.2.2.2.2.1) fun x155 =>
 bif decide (x155 ≤ (0 : Int)) then
 ob (aV (v2.1,v2.2.1,v2.2.2.1,v2.2.2.2.1,x154,v2.2.2.2.2.2.1,v2.2.2.2.2.2.2) (3 : Int) (0 : Int)) fun x156 =>
 ob (aG (x156.1,x156.2.1,x156.2.2.1,x156.2.2.2.1,x156.2.2.2.2.1,x156.2.2.2.2.2.1,x156.2.2.2.2.2.2)) fun x157 =>
 bif !x157 then
 some ((s91),((x156.1),(IntKind.i64.wrap (x156.2.1 + (1 : Int))),(x156.2.2.1),(x156.2.2.2.1),(x156.2.2.2.2.1),(x156.2.2.2.2.2.1),(x156.2.2.2.2.2.2)))
 else
 some ((s91),((x156.1),(x156.2.1),(x156.2.2.1),(x156.2.2.2.1),(x156.2.2.2.2.1),(x156.2.2.2.2.2.1),(x156.2.2.2.2.2.2)))
 else
 ob (aG (v2.1,v2.2.1,v2.2.2.1,v2.2.2.2.1,x154,v2.2.2.2.2.2.1,v2.2.2.2.2.2.2)) fun x158 =>
 bif !x158 then
 some ((s91),((v2.1),(IntKind.i64.wrap (v2.2.1 + (1 : Int))),(v2.2.2.1),(v2.2.2.2.1),(x154),(v2.2.2.2.2.2.1),(v2.2.2.2.2.2.2)))
 else
 some ((s91),((v2.1),(v2.2.1),(v2.2.2.1),(v2.2.2.2.1),(x154),(v2.2.2.2.2.2.1),(v2.2.2.2.2.2.2)))
 else
 bif s117.toNat == (2 : Nat) then
 bif s117 != v2.2.1 then
 ap k v0 v1 v2  n (s91) (s94) (s95) (IntKind.i64.wrap (s117 + (1 : Int)))
 else
 ob (fg (v0.1,v0.2.1,v0.2.2.1,v0.2.2.2) v2.2.2.1 v2.2.2.2.2.2.1) fun x159 =>
 ob (aD s91 x159) fun x160 =>
 ob (aG (v2.1,v2.2.1,v2.2.2.1,x160,v2.2.2.2.2.1,v2.2.2.2.2.2.1,v2.2.2.2.2.2.2)) fun x161 =>
 bif !x161 then
 some ((s91),((v2.1),(IntKind.i64.wrap (v2.2.1 + (1 : Int))),(v2.2.2.1),(x160),(v2.2.2.2.2.1),(v2.2.2.2.2.2.1),(v2.2.2.2.2.2.2)))
 else
 some ((s91),((v2.1),(v2.2.1),(v2.2.2.1),(x160),(v2.2.2.2.2.1),(v2.2.2.2.2.2.1),(v2.2.2.2.2.2.2)))
 else
 bif s117.toNat == (3 : Nat) then
 bif s117 != v2.2.1 then
 ap k v0 v1 v2  n (s91) (s94) (s95) (IntKind.i64.wrap (s117 + (1 : Int)))
 else
 ob (cR s91 s94 v2.2.2.2.2.2.1 (IntKind.u64.wrap (v2.2.2.2.2.2.1 + (1 : Int)))) fun x162 =>
 bif x162.2 then
 ob (aV (v2.1,v2.2.1,v2.2.2.1,v2.2.2.2.1,v2.2.2.2.2.1,v2.2.2.2.2.2.1,v2.2.2.2.2.2.2) (1 : Int) v2.2.2.2.1) fun x163 =>
 ob (aG (x163.1,x163.2.1,x163.2.2.1,x163.2.2.2.1,x163.2.2.2.2.1,x163.2.2.2.2.2.1,x163.2.2.2.2.2.2)) fun x164 =>
 bif !x164 then
 some ((x162.1),((x163.1),(IntKind.i64.wrap (x163.2.1 + (1 : Int))),(x163.2.2.1),(x163.2.2.2.1),(x163.2.2.2.2.1),(x163.2.2.2.2.2.1),(x163.2.2.2.2.2.2)))
 else
 some ((x162.1),((x163.1),(x163.2.1),(x163.2.2.1),(x163.2.2.2.1),(x163.2.2.2.2.1),(x163.2.2.2.2.2.1),(x163.2.2.2.2.2.2)))
 else
 ob (aV (v2.1,v2.2.1,v2.2.2.1,v2.2.2.2.1,v2.2.2.2.2.1,v2.2.2.2.2.2.1,v2.2.2.2.2.2.2) (4 : Int) (0 : Int)) fun x165 =>
 ob (aG (x165.1,x165.2.1,x165.2.2.1,x165.2.2.2.1,x165.2.2.2.2.1,x165.2.2.2.2.2.1,x165.2.2.2.2.2.2)) fun x166 =>
 bif !x166 then
 some ((x162.1),((x165.1),(IntKind.i64.wrap (x165.2.1 + (1 : Int))),(x165.2.2.1),(x165.2.2.2.1),(x165.2.2.2.2.1),(x165.2.2.2.2.2.1),(x165.2.2.2.2.2.2)))
 else
 some ((x162.1),((x165.1),(x165.2.1),(x165.2.2.1),(x165.2.2.2.1),(x165.2.2.2.2.1),(x165.2.2.2.2.2.1),(x165.2.2.2.2.2.2)))
 else
 none
 else
 none
 else
 some ((s91),((v2.1),(v2.2.1),(v2.2.2.1),(v2.2.2.2.1),(v2.2.2.2.2.1),(v2.2.2.2.2.2.1),(v2.2.2.2.2.2.2)))
theorem nI (k:Nat) (v0_0 v0_1 v0_2 v0_3:Int) (v1:List Int) (v2_0 v2_1 v2_2 v2_3 v2_4 v2_5 v2_6:Int):∀ (n:Nat) (s91:List Int) (s94:Int) (s95:Int) (s117:Int) ⦃s92:Bool⦄ ⦃s93:Bool⦄ ⦃j115 j116:V⦄,rt none (itX (xX (xS (k+23)) 209 0 (k+23) false) AI (9) (au (xX (xS (k+23)) 209 0 (k+23) false) (aC (xS (k+23)).P Tryz.f209) xx) n ⟨[.agg [.lit (.int .i64 v0_0),.lit (.int .i64 v0_1),.lit (.int .i64 v0_2),.lit (.int .i64 v0_3)],.ro (List.map (aI IntKind.u64) v1),.agg [.lit (.int .i64 v2_0),.lit (.int .i64 v2_1),.lit (.int .i64 v2_2),.lit (.int .u64 v2_3),.lit (.int .u64 v2_4),.lit (.int .u64 v2_5),.lit (.int .i64 v2_6)],.ptr 0 0 0 0,uu,.ptr 1 0 0 0,.own 2 0 0,.ptr 3 0 0 0,.ptr 5 0 0 0,.ptr 6 0 0 0,.ptr 7 0 0 0,.own 8 0 4,j115,j116,.ro (List.map (aI IntKind.u64) v1),.ro (List.map (aI IntKind.u64) s91),.agg [.lit (.int .i64 v0_0),.lit (.int .i64 v0_1),.lit (.int .i64 v0_2),.lit (.int .i64 v0_3)],.ro (List.map (aI IntKind.u64) v1),.agg [.lit (.int .i64 v2_0),.lit (.int .i64 v2_1),.lit (.int .i64 v2_2),.lit (.int .u64 v2_3),.lit (.int .u64 v2_4),.lit (.int .u64 v2_5),.lit (.int .i64 v2_6)],.lit (.bool s92),.lit (.bool s93),uu,uu,.agg [.lit (.int .i64 v0_0),.lit (.int .i64 v0_1),.lit (.int .i64 v0_2),.lit (.int .i64 v0_3)],.ptr 1 0 0 2,.lit (.int .i64 v2_2),.lit (.int .i64 s94),.agg [.lit (.int .i64 v0_0),.lit (.int .i64 v0_1),.lit (.int .i64 v0_2),.lit (.int .i64 v0_3)],.ptr 1 0 0 2,.lit (.int .i64 v2_2),.lit (.int .i64 s95),.fn (Fn.func (229:FuncId)) [] [.ptr 5 0 0 0,.ptr 6 0 0 0,.ptr 1 0 0 0],.fn (Fn.func (230:FuncId)) [] [.ptr 5 0 0 0,.ptr 7 0 0 0,.ptr 1 0 0 0],.fn (Fn.func (231:FuncId)) [] [.ptr 5 0 0 0,.ptr 0 0 0 0,.ptr 1 0 0 0],.fn (Fn.func (232:FuncId)) [] [.ptr 5 0 0 0,.ptr 6 0 0 0,.ptr 1 0 0 0],.own 8 0 4,.own 8 0 4,.lit (.int .i64 (4:Int)),.lit (.int .i64 s117),.junk,.junk,.junk,.junk,.junk,.junk,.junk,.junk,.junk,.junk,.junk,.junk,.junk,.junk,.junk,.junk,.junk,.junk,uu,uu],[.box [.lit (.int .i64 v0_0),.lit (.int .i64 v0_1),.lit (.int .i64 v0_2),.lit (.int .i64 v0_3)],.box [.lit (.int .i64 v2_0),.lit (.int .i64 v2_1),.lit (.int .i64 v2_2),.lit (.int .u64 v2_3),.lit (.int .u64 v2_4),.lit (.int .u64 v2_5),.lit (.int .i64 v2_6)],.rows 0 [] 0 true,.box [.lit (.int .i64 (0:Int)),.lit (.int .i64 (0:Int)),.lit (.int .i64 (0:Int)),.lit (.int .u64 (0:Int)),.lit (.int .u64 (0:Int)),.lit (.int .u64 (0:Int)),.lit (.int .i64 (0:Int))],.rows 0 [] 0 true,.box [.ro (List.map (aI IntKind.u64) s91)],.box [.lit (.int .i64 s94)],.box [.lit (.int .i64 s95)],.rows 1 [[.fn (Fn.func (229:FuncId)) [] [.ptr 5 0 0 0,.ptr 6 0 0 0,.ptr 1 0 0 0]],[.fn (Fn.func (230:FuncId)) [] [.ptr 5 0 0 0,.ptr 7 0 0 0,.ptr 1 0 0 0]],[.fn (Fn.func (231:FuncId)) [] [.ptr 5 0 0 0,.ptr 0 0 0 0,.ptr 1 0 0 0]],[.fn (Fn.func (232:FuncId)) [] [.ptr 5 0 0 0,.ptr 6 0 0 0,.ptr 1 0 0 0]]] 0 true]⟩)=ob (ap k (v0_0,v0_1,v0_2,v0_3) v1 (v2_0,v2_1,v2_2,v2_3,v2_4,v2_5,v2_6)  n s91 s94 s95 s117) fun r=>some ((.tup [.ro (List.map (aI .u64) r.1),.agg [.lit (.int .i64 r.2.1),.lit (.int .i64 r.2.2.1),.lit (.int .i64 r.2.2.2.1),.lit (.int .u64 r.2.2.2.2.1),.lit (.int .u64 r.2.2.2.2.2.1),.lit (.int .u64 r.2.2.2.2.2.2.1),.lit (.int .i64 r.2.2.2.2.2.2.2)]]),[]):=by
 intro n
 induction n with
 | zero=>intros;rfl
 | succ n ih=>
  intro s91 s94 s95 s117 s92 s93 j115 j116
  rw [ap]
  simp (maxSteps:=2000000) -implicitDefEqProofs only [Xd,U8,UE,Er,mJ,VR,Uq,Yz,Sn,YI,TH,Xt,TC,↓syP,syA,syD,simprocAttr,syE,ah,ag,af,syW,xQ,cq,gR,eo,eS,lH,f6,oH,iY,gY,Il,ih]
  all_goals simp -implicitDefEqProofs only [List.map_nil]
def f7 (k:Nat) (v0:(Int×Int×Int×Int)) (v1:(List Int)) (v2:(Int×Int×Int×Int×Int×Int×Int)):Option ((List Int)×(Int×Int×Int×Int×Int×Int×Int)):=
 ob (aL 8 v1) fun x167=>
 ob (en v0 v1 v2 2 4) fun x168=>
 bif !x168 then
 some (x167,v2)
 else
 ob (gb v0 v2.2.2.1) fun x169=>
 ob (cV v0 v2.2.2.1) fun x170=>
 ap k v0 v1 v2 (k+23) x167 x169 x170 0
theorem Bq (k:Nat) (v0_0 v0_1 v0_2 v0_3:Int) (v1:List Int) (v2_0 v2_1 v2_2 v2_3 v2_4 v2_5 v2_6:Int):xC (k+24) none 209 [.agg [.lit (.int .i64 v0_0),.lit (.int .i64 v0_1),.lit (.int .i64 v0_2),.lit (.int .i64 v0_3)],.ro (List.map (aI .u64) v1),.agg [.lit (.int .i64 v2_0),.lit (.int .i64 v2_1),.lit (.int .i64 v2_2),.lit (.int .u64 v2_3),.lit (.int .u64 v2_4),.lit (.int .u64 v2_5),.lit (.int .i64 v2_6)]]=ob (f7 k (v0_0,v0_1,v0_2,v0_3) v1 (v2_0,v2_1,v2_2,v2_3,v2_4,v2_5,v2_6)) fun r=>some ((.tup [.ro (List.map (aI .u64) r.1),.agg [.lit (.int .i64 r.2.1),.lit (.int .i64 r.2.2.1),.lit (.int .i64 r.2.2.2.1),.lit (.int .u64 r.2.2.2.2.1),.lit (.int .u64 r.2.2.2.2.2.1),.lit (.int .u64 r.2.2.2.2.2.2.1),.lit (.int .i64 r.2.2.2.2.2.2.2)]]),[]):=by
 rw [aK]
 unfold f7
 simp (maxSteps:=2000000) -implicitDefEqProofs only [Xd,U8,UE,Er,mJ,VR,Uq,Yz,Sn,YI,TH,Xt,TC,↓syP,syA,syD,simprocAttr,syE,ah,ag,af,syW,xQ,lH,f6,gY,nI k v0_0 v0_1 v0_2 v0_3 v1 v2_0 v2_1 v2_2 v2_3 v2_4 v2_5 v2_6]
 all_goals simp -implicitDefEqProofs only [List.map_nil]
def ep (k:Nat) (v0:(Int×Int×Int×Int)) (v1:(List Int)) (v2:(Int×Int×Int×Int×Int×Int×Int)):Option ((List Int)×(Int×Int×Int×Int×Int×Int×Int)):=
 bif v2.1==0 then
 ob (ix v0 v1 v2) fun x179=>
 some x179
 else
 bif v2.1==1 then
 ob (ky v0 v1 v2) fun x180=>
 some x180
 else
 bif v2.1==2 then
 ob (f7 (k+1) v0 v1 v2) fun x181=>
 some x181
 else
 ob (aL 8 v1) fun x182=>
 some (x182,v2)
theorem C3 (k:Nat) (v0_0 v0_1 v0_2 v0_3:Int) (v1:List Int) (v2_0 v2_1 v2_2 v2_3 v2_4 v2_5 v2_6:Int):xC (k+26) none 180 [.agg [.lit (.int .i64 v0_0),.lit (.int .i64 v0_1),.lit (.int .i64 v0_2),.lit (.int .i64 v0_3)],.ro (List.map (aI .u64) v1),.agg [.lit (.int .i64 v2_0),.lit (.int .i64 v2_1),.lit (.int .i64 v2_2),.lit (.int .u64 v2_3),.lit (.int .u64 v2_4),.lit (.int .u64 v2_5),.lit (.int .i64 v2_6)]]=ob (ep k (v0_0,v0_1,v0_2,v0_3) v1 (v2_0,v2_1,v2_2,v2_3,v2_4,v2_5,v2_6)) fun r=>some ((.tup [.ro (List.map (aI .u64) r.1),.agg [.lit (.int .i64 r.2.1),.lit (.int .i64 r.2.2.1),.lit (.int .i64 r.2.2.2.1),.lit (.int .u64 r.2.2.2.2.1),.lit (.int .u64 r.2.2.2.2.2.1),.lit (.int .u64 r.2.2.2.2.2.2.1),.lit (.int .i64 r.2.2.2.2.2.2.2)]]),[]):=by
 rw [aK]
 unfold ep
 simp (maxSteps:=2000000) -implicitDefEqProofs only [abJ,ZS,↓syP,syA,syD,simprocAttr,syE,ah,ag,af,syW,xQ,Dz,GF,Bq]
 all_goals simp -implicitDefEqProofs only [List.map_nil]
end Go.Ab
set_option maxRecDepth 100000
set_option linter.unusedVariables false
set_option linter.unusedSimpArgs false
namespace Go.Ab
open Go.Proofs
def ff (v0:Int) (v1:Int):Option Bool:=
 bif decide (0≤v0) then
 some (decide (v0≤v1))
 else
 some false
theorem wh (k:Nat) (v0 v1:Int):xC (k+1) none 172 [.lit (.int .i64 v0),.lit (.int .i64 v1)]=ob (ff v0 v1) fun r=>some ((.lit (.bool r)),[]):=by
 rw [aK]
 unfold ff
 simp (maxSteps:=2000000) -implicitDefEqProofs only [abw,ZN,JC,rm,↓syP,syA,syD,simprocAttr,syE,ah,ag,af,syW,xQ]
 all_goals simp -implicitDefEqProofs only [List.map_nil]
def bD (k:Nat)   : Nat→List (Int×Int×Int)→Int→List (Int×List Int)→Int→Option Int
 | 0,_,_,_,_=>none
 | n+1,s3,s4,s5,s13=>
 bif decide (s13<s4) then
 ob (idx s3 s13) fun x31=>
 ob (ff x31.1 (IntKind.i64.wrap ((↑s5.length:Int) - (1:Int)))) fun x32=>
 bif !x32 then
 some (s13)
 else
 ob (idx s5 x31.1) fun x33=>
 ob (ff x31.2.1 x33.1) fun x34=>
 bif !x34 then
 some (s13)
 else
 ob (ff x31.2.2 (↑x33.2.length:Int)) fun x35=>
 bif !x35 then
 some (s13)
 else
 bif decide (x31.2.1<x33.1) then
 bif decide ((0:Int)<x31.2.2) then
 some (s13)
 else
 bD k   n (s3) (s4) (s5) (IntKind.i64.wrap (s13+(1:Int)))
 else
 bD k   n (s3) (s4) (s5) (IntKind.i64.wrap (s13+(1:Int)))
 else
 some ((-1:Int))
theorem mA (k:Nat)  : ∀ (n:Nat) (s3:List (Int×Int×Int)) (s4:Int) (s5:List (Int×List Int)) (s13:Int) ⦃j12:V⦄,itX (xX (xS (k+17)) 206 0 (k+17) false) Aw (1) (au (xX (xS (k+17)) 206 0 (k+17) false) (aC (xS (k+17)).P Tryz.f206) Aj) n ⟨[.ro (List.map aM s3),.fn (Fn.func (171:FuncId)) [] [.ptr 0 0 0 0],uu,uu,.lit (.int .i64 (0:Int)),j12,.ro (List.map aM s3),.lit (.int .i64 s4),.lit (.int .i64 s13),.junk,.junk,.junk,.junk,.junk,.junk,.junk,.junk,.junk,.junk],[.box [.ro (List.map ao s5)]]⟩=ob (bD k   n s3 s4 s5 s13) fun r=>some ((.lit (.int .i64 r),[.box [.ro (List.map ao s5)]])):=by
 intro n
 induction n with
 | zero=>intros;rfl
 | succ n ih=>
  intro s3 s4 s5 s13 j12
  rw [bD]
  simp (maxSteps:=2000000) -implicitDefEqProofs only [ZR,Vt,Db,nf,ZB,RF,Ya,Ul,DQ,Ei,Eb,D7,DU,EM,mL,Y5,UV,Ts,D2,mY,↓syP,syA,syD,simprocAttr,syE,ah,ag,af,syW,xQ,wh,Ik,ih]
  all_goals simp -implicitDefEqProofs only [List.map_nil]
def eW (k:Nat) (v0:(List (Int×List Int))) (v1:(List (Int×Int×Int))):Option Bool:=
 ob (cG k v0) fun x38=>
 bif x38 then
 ob (bD k (k+17) v1 (↑v1.length:Int) v0 0) fun x39=>
 some (!decide (0≤x39))
 else
 some false
theorem mH (k:Nat) (v0:List (Int×List Int)) (v1:List (Int×Int×Int)):xC (k+20) none 146 [.ro (List.map ao v0),.ro (List.map aM v1)]=ob (eW k v0 v1) fun r=>some ((.lit (.bool r)),[]):=by
 rw [aK]
 unfold eW
 simp (maxSteps:=2000000) -implicitDefEqProofs only [ZR,Vt,Db,nf,ZB,RF,Ya,Ul,DQ,Ei,Eb,D7,DU,EM,mL,Y5,UV,Ts,D2,mY,↓syP,syA,syD,simprocAttr,syE,ah,ag,af,syW,xQ,cF,mA]
 all_goals simp -implicitDefEqProofs only [List.map_nil]
def dv (k:Nat) (v0:(List (Int×List Int))) (v1:(List (Int×Int×Int))):Option (Int×Int):=
 bif (↑v1.length:Int)==0 then
 some (0,0)
 else
 ob (eW k v0 v1) fun x60=>
 bif !x60 then
 some (0,0)
 else
 ob (idx v1 (IntKind.i64.wrap ((↑v1.length:Int) - 1))) fun x61=>
 ob (idx v0 x61.1) fun x62=>
 bif decide (x61.2.1<x62.1) then
 some (1,x61.1)
 else
 bif decide (x61.2.2<(↑x62.2.length:Int)) then
 ob (idx x62.2 x61.2.2) fun x63=>
 some (2,x63)
 else
 some (3,x61.1)
theorem o6 (k:Nat) (v0:List (Int×List Int)) (v1:List (Int×Int×Int)):xC (k+21) none 162 [.ro (List.map ao v0),.ro (List.map aM v1)]=ob (dv k v0 v1) fun r=>some ((.agg [.lit (.int .i64 r.1),.lit (.int .i64 r.2)]),[]):=by
 rw [aK]
 unfold dv
 simp (maxSteps:=2000000) -implicitDefEqProofs only [abQ,Xr,Lv,pY,↓syP,syA,syD,simprocAttr,syE,ah,ag,af,syW,xQ,mH]
 all_goals simp -implicitDefEqProofs only [List.map_nil]
def fc (k:Nat) (v0:(List (Int×List Int))) (v1:(List (Int×Int×Int))):Option (List (Int×Int×Int)):=
 ob (aL 24 v1) fun x74=>
 ob (dv k v0 v1) fun x75=>
 bif x75.1==1 then
 bif decide (0≤IntKind.i64.wrap ((↑x74.length:Int) - 1)∧(IntKind.i64.wrap ((↑x74.length:Int) - 1)).toNat<x74.length) then
 ob (x74[(IntKind.i64.wrap ((↑x74.length:Int) - 1)).toNat]?) fun x76=>
 bif decide (0≤IntKind.i64.wrap ((↑x74.length:Int) - 1)∧(IntKind.i64.wrap ((↑x74.length:Int) - 1)).toNat<x74.length) then
 ob (x74[(IntKind.i64.wrap ((↑x74.length:Int) - 1)).toNat]?) fun x77=>
 some (x74.set (IntKind.i64.wrap ((↑x74.length:Int) - 1)).toNat (x77.1,IntKind.i64.wrap (x76.2.1+1),x77.2.2))
 else
 none
 else
 none
 else
 bif x75.1==2 then
 bif decide (0≤IntKind.i64.wrap ((↑x74.length:Int) - 1)∧(IntKind.i64.wrap ((↑x74.length:Int) - 1)).toNat<x74.length) then
 ob (x74[(IntKind.i64.wrap ((↑x74.length:Int) - 1)).toNat]?) fun x78=>
 bif decide (0≤IntKind.i64.wrap ((↑x74.length:Int) - 1)∧(IntKind.i64.wrap ((↑x74.length:Int) - 1)).toNat<x74.length) then
 ob (x74[(IntKind.i64.wrap ((↑x74.length:Int) - 1)).toNat]?) fun x79=>
 some (x74.set (IntKind.i64.wrap ((↑x74.length:Int) - 1)).toNat (x79.1,x79.2.1,IntKind.i64.wrap (x78.2.2+1)))
 else
 none
 else
 none
 else
 bif x75.1==3 then
 ck (decide (0≤IntKind.i64.wrap ((↑x74.length:Int) - 1)∧(IntKind.i64.wrap ((↑x74.length:Int) - 1)).toNat≤x74.length)) (
 ck (decide ((IntKind.i64.wrap ((↑x74.length:Int) - 1)).toNat≤x74.length)) (
 some (List.take (IntKind.i64.wrap ((↑x74.length:Int) - 1)).toNat x74)))
 else
 some x74
theorem Hz (k:Nat) (v0:List (Int×List Int)) (v1:List (Int×Int×Int)):xC (k+22) none 163 [.ro (List.map ao v0),.ro (List.map aM v1)]=ob (fc k v0 v1) fun r=>some ((.ro (List.map aM r)),[]):=by
 rw [aK]
 unfold fc
 simp (maxSteps:=2000000) -implicitDefEqProofs only [aek,Xm,aew,Xx,aK (g:=182),ad2,Xy,adi,YL,abc,Z7,↓syP,syA,syD,simprocAttr,syE,ah,ag,af,syW,xQ,o6]
 all_goals simp -implicitDefEqProofs only [List.map_nil]
def cW (k:Nat) (v0:(List (Int×List Int))) (v1:(List (Int×Int×Int))) (v2:Int):Option (List (Int×Int×Int)):=
 ob (aL 24 v1) fun x89=>
 ob (eW k v0 v1) fun x90=>
 bif !x90 then
 some x89
 else
 ob (ff v2 (IntKind.i64.wrap ((↑v0.length:Int) - 1))) fun x91=>
 bif !x91 then
 some x89
 else
 bif room (x89++[(v2,0,0)]).length 24 then
 some (x89++[(v2,0,0)])
 else
 none
theorem Am (k:Nat) (v0:List (Int×List Int)) (v1:List (Int×Int×Int)) (v2:Int):xC (k+21) none 181 [.ro (List.map ao v0),.ro (List.map aM v1),.lit (.int .i64 v2)]=ob (cW k v0 v1 v2) fun r=>some ((.ro (List.map aM r)),[]):=by
 rw [aK]
 unfold cW
 simp (maxSteps:=2000000) -implicitDefEqProofs only [acU,Wd,KT,rR,↓syP,syA,syD,simprocAttr,syE,ah,ag,af,syW,xQ,wh,mH]
 all_goals simp -implicitDefEqProofs only [List.map_nil]
end Go.Ab
set_option maxRecDepth 100000
set_option linter.unusedVariables false
set_option linter.unusedSimpArgs false
namespace Go.Ab
open Go.Proofs
def bO (k:Nat) (v0:(Int×Int×Int×Int)) (v1:(List Int)) (v2:(Int×Int×Int×Int×Int×Int×Int)):Option ((List Int)×(Int×Int×Int×Int×Int×Int×Int)):=
 bif v2.1==5 then
 ob (gU v0 v1 v2) fun x6=>
 some x6
 else
 bif v2.1==6 then
 bif v2.1==6 then
 ob (fJ k v0 v1 v2) fun x7=>
 some x7
 else
 ob (aL 8 v1) fun x8=>
 some (x8,v2)
 else
 bif v2.1==7 then
 ob (fJ k v0 v1 v2) fun x9=>
 some x9
 else
 ob (aL 8 v1) fun x10=>
 some (x10,v2)
theorem pb (k:Nat) (v0_0 v0_1 v0_2 v0_3:Int) (v1:List Int) (v2_0 v2_1 v2_2 v2_3 v2_4 v2_5 v2_6:Int):xC (k+17) none 134 [.agg [.lit (.int .i64 v0_0),.lit (.int .i64 v0_1),.lit (.int .i64 v0_2),.lit (.int .i64 v0_3)],.ro (List.map (aI .u64) v1),.agg [.lit (.int .i64 v2_0),.lit (.int .i64 v2_1),.lit (.int .i64 v2_2),.lit (.int .u64 v2_3),.lit (.int .u64 v2_4),.lit (.int .u64 v2_5),.lit (.int .i64 v2_6)]]=ob (bO k (v0_0,v0_1,v0_2,v0_3) v1 (v2_0,v2_1,v2_2,v2_3,v2_4,v2_5,v2_6)) fun r=>some ((.tup [.ro (List.map (aI .u64) r.1),.agg [.lit (.int .i64 r.2.1),.lit (.int .i64 r.2.2.1),.lit (.int .i64 r.2.2.2.1),.lit (.int .u64 r.2.2.2.2.1),.lit (.int .u64 r.2.2.2.2.2.1),.lit (.int .u64 r.2.2.2.2.2.2.1),.lit (.int .i64 r.2.2.2.2.2.2.2)]]),[]):=by
 rw [aK]
 unfold bO
 simp (maxSteps:=2000000) -implicitDefEqProofs only [acM,WE,JD,rD,↓syP,syA,syD,simprocAttr,syE,ah,ag,af,syW,xQ,Do,EA]
 all_goals simp -implicitDefEqProofs only [List.map_nil]
def my (v0:(Int×Int×Int×Int)) (v1:(List Int)):Option Bool:=
 ob (bL v0) fun x20=>
 bif x20 then
 ob (dm v0) fun x21=>
 some ((↑v1.length:Int)==x21)
 else
 some false
theorem HE (k:Nat) (v0_0 v0_1 v0_2 v0_3:Int) (v1:List Int):xC (k+4) none 105 [.agg [.lit (.int .i64 v0_0),.lit (.int .i64 v0_1),.lit (.int .i64 v0_2),.lit (.int .i64 v0_3)],.ro (List.map (aI .u64) v1)]=ob (my (v0_0,v0_1,v0_2,v0_3) v1) fun r=>some ((.lit (.bool r)),[]):=by
 rw [aK]
 unfold my
 simp (maxSteps:=2000000) -implicitDefEqProofs only [adl,Xc,JI,rU,↓syP,syA,syD,simprocAttr,syE,ah,ag,af,syW,xQ,bU,fM]
 all_goals simp -implicitDefEqProofs only [List.map_nil]
def gN (v0:(Int×Int×Int×Int)) (v1:(List Int)) (v2:(Int×Int×Int×Int×Int×Int×Int)) (v3:Int):Option Bool:=
 ob (my v0 v1) fun x26=>
 bif x26 then
 ob (aG v2) fun x27=>
 bif !x27 then
 bif v2.1==v3 then
 bif decide (0≤v2.2.1) then
 some (decide (v2.2.1<5))
 else
 some false
 else
 some false
 else
 some false
 else
 some false
theorem wC (k:Nat) (v0_0 v0_1 v0_2 v0_3:Int) (v1:List Int) (v2_0 v2_1 v2_2 v2_3 v2_4 v2_5 v2_6 v3:Int):xC (k+5) none 196 [.agg [.lit (.int .i64 v0_0),.lit (.int .i64 v0_1),.lit (.int .i64 v0_2),.lit (.int .i64 v0_3)],.ro (List.map (aI .u64) v1),.agg [.lit (.int .i64 v2_0),.lit (.int .i64 v2_1),.lit (.int .i64 v2_2),.lit (.int .u64 v2_3),.lit (.int .u64 v2_4),.lit (.int .u64 v2_5),.lit (.int .i64 v2_6)],.lit (.int .i64 v3)]=ob (gN (v0_0,v0_1,v0_2,v0_3) v1 (v2_0,v2_1,v2_2,v2_3,v2_4,v2_5,v2_6) v3) fun r=>some ((.lit (.bool r)),[]):=by
 rw [aK]
 unfold gN
 simp (maxSteps:=2000000) -implicitDefEqProofs only [aeu,YT,Lr,JW,KN,JF,rG,↓syP,syA,syD,simprocAttr,syE,ah,ag,af,syW,xQ,eo,HE]
 all_goals simp -implicitDefEqProofs only [List.map_nil]
def ga (v0:(Int×Int×Int×Int)) (v1:Int):Option Int:=
 ob (bL v0) fun x36=>
 bif !x36 then
 some ((-1))
 else
 ob (dP 0 0 (IntKind.i64.wrap (v0.1 - 1))) fun x37=>
 bif !x37 then
 some ((-1))
 else
 bif IntKind.u64.wrap v0.2.2.1 !=0 then
 some (IntKind.i64.wrap (6+IntKind.i64.wrap (v1.tmod (IntKind.u64.wrap v0.2.2.1))))
 else
 none
theorem Cl (k:Nat) (v0_0 v0_1 v0_2 v0_3 v1:Int):xC (k+12) none 203 [.agg [.lit (.int .i64 v0_0),.lit (.int .i64 v0_1),.lit (.int .i64 v0_2),.lit (.int .i64 v0_3)],.lit (.int .u64 v1)]=ob (ga (v0_0,v0_1,v0_2,v0_3) v1) fun r=>some ((.lit (.int .i64 r)),[]):=by
 rw [aK]
 unfold ga
 simp (maxSteps:=2000000) -implicitDefEqProofs only [VD,Vw,rX,fE,ac5,VW,acL,VS,↓syP,syA,syD,simprocAttr,syE,ah,ag,af,syW,xQ,kW,bU]
 all_goals simp -implicitDefEqProofs only [List.map_nil]
def iV (v0:(Int×Int×Int×Int)) (v1:Int):Option Int:=
 ob (bL v0) fun x42=>
 bif !x42 then
 some ((-1))
 else
 ob (dP 0 0 (IntKind.i64.wrap (v0.1 - 1))) fun x43=>
 bif !x43 then
 some ((-1))
 else
 bif IntKind.u64.wrap v0.2.2.1 !=0 then
 some (IntKind.i64.wrap (IntKind.i64.wrap (6+v0.2.2.1)+IntKind.i64.wrap (v1.tmod (IntKind.u64.wrap v0.2.2.1))))
 else
 none
theorem BO (k:Nat) (v0_0 v0_1 v0_2 v0_3 v1:Int):xC (k+12) none 205 [.agg [.lit (.int .i64 v0_0),.lit (.int .i64 v0_1),.lit (.int .i64 v0_2),.lit (.int .i64 v0_3)],.lit (.int .u64 v1)]=ob (iV (v0_0,v0_1,v0_2,v0_3) v1) fun r=>some ((.lit (.int .i64 r)),[]):=by
 rw [aK]
 unfold iV
 simp (maxSteps:=2000000) -implicitDefEqProofs only [VD,Vw,rX,fE,ab5,Xq,acd,Wh,↓syP,syA,syD,simprocAttr,syE,ah,ag,af,syW,xQ,kW,bU]
 all_goals simp -implicitDefEqProofs only [List.map_nil]
def iT (v0:(Int×Int×Int×Int)) (v1:(List Int)) (v2:(Int×Int×Int×Int×Int×Int×Int)):Option ((List Int)×(Int×Int×Int×Int×Int×Int×Int)):=
 ob (aL 8 v1) fun x59=>
 ob (gN v0 v1 v2 3) fun x60=>
 bif !x60 then
 some (x59,v2)
 else
 bif decide (0≤v2.2.1∧v2.2.1.toNat<5) then
 bif v2.2.1.toNat==0 then
 ob (aD x59 5) fun x61=>
 some (x59,(v2.1,1,v2.2.2.1,v2.2.2.2.1,x61,v2.2.2.2.2.2))
 else
 bif v2.2.1.toNat==1 then
 ob (ga v0 v2.2.2.2.2.1) fun x62=>
 ob (aD x59 x62) fun x63=>
 bif IntKind.u64.wrap v0.2.2.1 !=0 then
 bif x63==IntKind.u64.wrap (IntKind.u64.wrap (v2.2.2.2.2.1.tdiv (IntKind.u64.wrap v0.2.2.1))*2) then
 some (x59,(v2.1,2,v2.2.2.1,v2.2.2.2.1,v2.2.2.2.2.1,x63,v2.2.2.2.2.2.2))
 else
 bif IntKind.u64.wrap v0.2.2.1 !=0 then
 ob (er x63 (IntKind.u64.wrap (IntKind.u64.wrap (v2.2.2.2.2.1.tdiv (IntKind.u64.wrap v0.2.2.1))*2))) fun x64=>
 bif decide (x64<0) then
 ob (aV (v2.1,v2.2.1,v2.2.2.1,v2.2.2.2.1,v2.2.2.2.2.1,x63,v2.2.2.2.2.2.2) 2 v2.2.2.2.1) fun x65=>
 some (x59,(x65.1,0,x65.2.2))
 else
 some (x59,(v2.1,0,v2.2.2.1,v2.2.2.2.1,v2.2.2.2.2.1,x63,v2.2.2.2.2.2.2))
 else
 none
 else
 none
 else
 bif v2.2.1.toNat==2 then
 ob (cR x59 5 v2.2.2.2.2.1 (IntKind.u64.wrap (v2.2.2.2.2.1+1))) fun x66=>
 bif x66.2 then
 some (x66.1,(v2.1,3,v2.2.2))
 else
 some (x66.1,(v2.1,0,v2.2.2))
 else
 bif v2.2.1.toNat==3 then
 ob (iV v0 v2.2.2.2.2.1) fun x67=>
 ob (bo x59 x67 v2.2.2.2.1) fun x68=>
 some (x68,(v2.1,4,v2.2.2))
 else
 bif v2.2.1.toNat==4 then
 ob (ga v0 v2.2.2.2.2.1) fun x69=>
 bif IntKind.u64.wrap v0.2.2.1 !=0 then
 ob (bo x59 x69 (IntKind.u64.wrap (IntKind.u64.wrap (IntKind.u64.wrap (v2.2.2.2.2.1.tdiv (IntKind.u64.wrap v0.2.2.1))*2)+1))) fun x70=>
 ob (aV v2 1 v2.2.2.2.1) fun x71=>
 some (x70,(x71.1,0,x71.2.2))
 else
 none
 else
 none
 else
 none
theorem G1 (k:Nat) (v0_0 v0_1 v0_2 v0_3:Int) (v1:List Int) (v2_0 v2_1 v2_2 v2_3 v2_4 v2_5 v2_6:Int):xC (k+24) none 167 [.agg [.lit (.int .i64 v0_0),.lit (.int .i64 v0_1),.lit (.int .i64 v0_2),.lit (.int .i64 v0_3)],.ro (List.map (aI .u64) v1),.agg [.lit (.int .i64 v2_0),.lit (.int .i64 v2_1),.lit (.int .i64 v2_2),.lit (.int .u64 v2_3),.lit (.int .u64 v2_4),.lit (.int .u64 v2_5),.lit (.int .i64 v2_6)]]=ob (iT (v0_0,v0_1,v0_2,v0_3) v1 (v2_0,v2_1,v2_2,v2_3,v2_4,v2_5,v2_6)) fun r=>some ((.tup [.ro (List.map (aI .u64) r.1),.agg [.lit (.int .i64 r.2.1),.lit (.int .i64 r.2.2.1),.lit (.int .i64 r.2.2.2.1),.lit (.int .u64 r.2.2.2.2.1),.lit (.int .u64 r.2.2.2.2.2.1),.lit (.int .u64 r.2.2.2.2.2.2.1),.lit (.int .i64 r.2.2.2.2.2.2.2)]]),[]):=by
 rw [aK]
 unfold iT
 simp (maxSteps:=2000000) -implicitDefEqProofs only [adU,Zu,adJ,VQ,aeS,Xo,acy,VO,abf,XO,aev,WI,adj,Wa,aey,ZZ,↓syP,syA,syD,simprocAttr,syE,ah,ag,af,syW,xQ,cq,d8,gR,eS,iY,wC,Cl,BO]
 all_goals simp -implicitDefEqProofs only [List.map_nil]
def gI (v0:(Int×Int×Int×Int)) (v1:Int):Option Int:=
 bif IntKind.u64.wrap v0.2.2.1 !=0 then
 some (IntKind.u64.wrap (IntKind.u64.wrap (IntKind.u64.wrap (v1.tdiv (IntKind.u64.wrap v0.2.2.1))*2)+1))
 else
 none
theorem GK (k:Nat) (v0_0 v0_1 v0_2 v0_3 v1:Int):xC (k+1) none 204 [.agg [.lit (.int .i64 v0_0),.lit (.int .i64 v0_1),.lit (.int .i64 v0_2),.lit (.int .i64 v0_3)],.lit (.int .u64 v1)]=ob (gI (v0_0,v0_1,v0_2,v0_3) v1) fun r=>some ((.lit (.int .u64 r)),[]):=by
 rw [aK]
 unfold gI
 simp (maxSteps:=2000000) -implicitDefEqProofs only [ad0,V5,↓syP,syA,syD,simprocAttr,syE,ah,ag,af,syW,xQ]
 all_goals simp -implicitDefEqProofs only [List.map_nil]
def i5 (v0:(Int×Int×Int×Int)) (v1:(List Int)) (v2:(Int×Int×Int×Int×Int×Int×Int)):Option ((List Int)×(Int×Int×Int×Int×Int×Int×Int)):=
 ob (aL 8 v1) fun x109=>
 ob (gN v0 v1 v2 4) fun x110=>
 bif !x110 then
 some (x109,v2)
 else
 bif v2.2.1==0 then
 ob (aD x109 4) fun x111=>
 some (x109,(v2.1,1,v2.2.2.1,v2.2.2.2.1,x111,v2.2.2.2.2.2))
 else
 bif v2.2.1==1 then
 ob (ga v0 v2.2.2.2.2.1) fun x112=>
 ob (aD x109 x112) fun x113=>
 ob (gI v0 v2.2.2.2.2.1) fun x114=>
 ob (er x113 x114) fun x115=>
 bif x115==0 then
 some (x109,(v2.1,2,v2.2.2.1,v2.2.2.2.1,v2.2.2.2.2.1,x113,v2.2.2.2.2.2.2))
 else
 bif decide (x115<0) then
 ob (aV (v2.1,0,v2.2.2.1,v2.2.2.2.1,v2.2.2.2.2.1,x113,v2.2.2.2.2.2.2) 3 0) fun x116=>
 some (x109,x116)
 else
 some (x109,(v2.1,0,v2.2.2.1,v2.2.2.2.1,v2.2.2.2.2.1,x113,v2.2.2.2.2.2.2))
 else
 bif v2.2.1==2 then
 ob (cR x109 4 v2.2.2.2.2.1 (IntKind.u64.wrap (v2.2.2.2.2.1+1))) fun x117=>
 bif x117.2 then
 some (x117.1,(v2.1,3,v2.2.2))
 else
 some (x117.1,(v2.1,0,v2.2.2))
 else
 bif v2.2.1==3 then
 ob (iV v0 v2.2.2.2.2.1) fun x118=>
 ob (aD x109 x118) fun x119=>
 some (x109,(v2.1,4,v2.2.2.1,x119,v2.2.2.2.2))
 else
 ob (ga v0 v2.2.2.2.2.1) fun x120=>
 ob (gI v0 v2.2.2.2.2.1) fun x121=>
 ob (bo x109 x120 (IntKind.u64.wrap (x121+1))) fun x122=>
 ob (aV v2 1 v2.2.2.2.1) fun x123=>
 some (x122,x123)
theorem Gt (k:Nat) (v0_0 v0_1 v0_2 v0_3:Int) (v1:List Int) (v2_0 v2_1 v2_2 v2_3 v2_4 v2_5 v2_6:Int):xC (k+13) none 168 [.agg [.lit (.int .i64 v0_0),.lit (.int .i64 v0_1),.lit (.int .i64 v0_2),.lit (.int .i64 v0_3)],.ro (List.map (aI .u64) v1),.agg [.lit (.int .i64 v2_0),.lit (.int .i64 v2_1),.lit (.int .i64 v2_2),.lit (.int .u64 v2_3),.lit (.int .u64 v2_4),.lit (.int .u64 v2_5),.lit (.int .i64 v2_6)]]=ob (i5 (v0_0,v0_1,v0_2,v0_3) v1 (v2_0,v2_1,v2_2,v2_3,v2_4,v2_5,v2_6)) fun r=>some ((.tup [.ro (List.map (aI .u64) r.1),.agg [.lit (.int .i64 r.2.1),.lit (.int .i64 r.2.2.1),.lit (.int .i64 r.2.2.2.1),.lit (.int .u64 r.2.2.2.2.1),.lit (.int .u64 r.2.2.2.2.2.1),.lit (.int .u64 r.2.2.2.2.2.2.1),.lit (.int .i64 r.2.2.2.2.2.2.2)]]),[]):=by
 rw [aK]
 unfold i5
 simp (maxSteps:=2000000) -implicitDefEqProofs only [aeU,Za,IR,pR,↓syP,syA,syD,simprocAttr,syE,ah,ag,af,syW,xQ,cq,d8,gR,eS,iY,wC,Cl,BO,GK]
 all_goals simp -implicitDefEqProofs only [List.map_nil]
def bf (v0:(Int×Int×Int×Int)) (v1:(List Int)) (v2:(Int×Int×Int×Int×Int×Int×Int)):Option ((List Int)×(Int×Int×Int×Int×Int×Int×Int)):=
 bif v2.1==3 then
 ob (iT v0 v1 v2) fun x142=>
 some x142
 else
 bif v2.1==4 then
 ob (i5 v0 v1 v2) fun x143=>
 some x143
 else
 ob (aL 8 v1) fun x144=>
 some (x144,v2)
theorem nB (k:Nat) (v0_0 v0_1 v0_2 v0_3:Int) (v1:List Int) (v2_0 v2_1 v2_2 v2_3 v2_4 v2_5 v2_6:Int):xC (k+26) none 135 [.agg [.lit (.int .i64 v0_0),.lit (.int .i64 v0_1),.lit (.int .i64 v0_2),.lit (.int .i64 v0_3)],.ro (List.map (aI .u64) v1),.agg [.lit (.int .i64 v2_0),.lit (.int .i64 v2_1),.lit (.int .i64 v2_2),.lit (.int .u64 v2_3),.lit (.int .u64 v2_4),.lit (.int .u64 v2_5),.lit (.int .i64 v2_6)]]=ob (bf (v0_0,v0_1,v0_2,v0_3) v1 (v2_0,v2_1,v2_2,v2_3,v2_4,v2_5,v2_6)) fun r=>some ((.tup [.ro (List.map (aI .u64) r.1),.agg [.lit (.int .i64 r.2.1),.lit (.int .i64 r.2.2.1),.lit (.int .i64 r.2.2.2.1),.lit (.int .u64 r.2.2.2.2.1),.lit (.int .u64 r.2.2.2.2.2.1),.lit (.int .u64 r.2.2.2.2.2.2.1),.lit (.int .i64 r.2.2.2.2.2.2.2)]]),[]):=by
 rw [aK]
 unfold bf
 simp (maxSteps:=2000000) -implicitDefEqProofs only [aem,XB,↓syP,syA,syD,simprocAttr,syE,ah,ag,af,syW,xQ,G1,Gt]
 all_goals simp -implicitDefEqProofs only [List.map_nil]
end Go.Ab
set_option maxRecDepth 100000
set_option linter.unusedVariables false
set_option linter.unusedSimpArgs false
namespace Go.Ab
open Go.Proofs
def gS (k:Nat) (v0:(Int×Int×Int×Int)) (v1:(List (Int×List Int))) (v2:(List Int)) (v3:Int) (v4:(Int×List (Int×Int×Int)×(Int×Int×Int×Int×Int×Int×Int)×Int×Int)):Option Bool:=
 ob (bL v0) fun x5=>
 bif x5 then
 ob (dm v0) fun x6=>
 bif (↑v2.length:Int)==x6 then
 ob (cG (k+4) v1) fun x7=>
 bif x7 then
 bif decide (0≤v3) then
 bif decide (v3<v0.1) then
 bif decide (0≤v4.1) then
 bif decide (v4.1<16) then
 ob (eW (k+3) v1 v4.2.1) fun x8=>
 some x8
 else
 some false
 else
 some false
 else
 some false
 else
 some false
 else
 some false
 else
 some false
 else
 some false
theorem xe (k:Nat) (v0_0 v0_1 v0_2 v0_3:Int) (v1:List (Int×List Int)) (v2:List Int) (v3 v4_0:Int) (v4_1:List (Int×Int×Int)) (v4_2_0 v4_2_1 v4_2_2 v4_2_3 v4_2_4 v4_2_5 v4_2_6 v4_3 v4_4:Int):xC (k+24) none 95 [.agg [.lit (.int .i64 v0_0),.lit (.int .i64 v0_1),.lit (.int .i64 v0_2),.lit (.int .i64 v0_3)],.ro (List.map ao v1),.ro (List.map (aI .u64) v2),.lit (.int .i64 v3),.agg [.lit (.int .i64 v4_0),.ro (List.map aM v4_1),.lit (.int .i64 v4_2_0),.lit (.int .i64 v4_2_1),.lit (.int .i64 v4_2_2),.lit (.int .u64 v4_2_3),.lit (.int .u64 v4_2_4),.lit (.int .u64 v4_2_5),.lit (.int .i64 v4_2_6),.lit (.int .i64 v4_3),.lit (.int .i64 v4_4)]]=ob (gS k (v0_0,v0_1,v0_2,v0_3) v1 v2 v3 (v4_0,v4_1,(v4_2_0,v4_2_1,v4_2_2,v4_2_3,v4_2_4,v4_2_5,v4_2_6),v4_3,v4_4)) fun r=>some ((.lit (.bool r)),[]):=by
 rw [aK]
 unfold gS
 simp (maxSteps:=2000000) -implicitDefEqProofs only [afR,afu,P4,Qh,P8,QE,PY,P1,Qq,wv,↓syP,syA,syD,simprocAttr,syE,ah,ag,af,syW,xQ,cF,bU,fM,mH]
 all_goals simp -implicitDefEqProofs only [List.map_nil]
def aU (k:Nat) (v0:(List Int)) (v1:Int)  : Nat→Int→Option Int
 | 0,_=>none
 | n+1,s19=>
 bif decide (s19<(↑v0.length:Int)) then
 ob (idx v0 s19) fun x22=>
 bif v1==x22 then
 some (s19)
 else
 aU k v0 v1  n (IntKind.i64.wrap (s19+(1:Int)))
 else
 some ((-1:Int))
theorem kO (k:Nat) (v0:List Int) (v1:Int):∀ (n:Nat) (s19:Int) ⦃j18:V⦄,rt none (itX (xX (xS k) 61 0 k false) Gd (0) (au (xX (xS k) 61 0 k false) (aC (xS k).P Tryz.f61) E1) n ⟨[.ro (List.map (aI IntKind.i64) v0),.lit (.int .i64 v1),uu,uu,.lit (.int .i64 (0:Int)),j18,.ro (List.map (aI IntKind.i64) v0),.lit (.int .i64 (↑v0.length:Int)),.lit (.int .i64 s19),.junk,.junk,.junk,.junk,.junk,.junk,.junk,.junk,.junk,.junk],[]⟩)=ob (aU k v0 v1  n s19) fun r=>some ((.lit (.int .i64 r)),[]):=by
 intro n
 induction n with
 | zero=>intros;rfl
 | succ n ih=>
  intro s19 j18
  rw [aU]
  simp (maxSteps:=2000000) -implicitDefEqProofs only [afp,aeD,adu,Kg,oL,↓syP,syA,syD,simprocAttr,syE,ah,ag,af,syW,xQ,Qg,ih]
  all_goals simp -implicitDefEqProofs only [List.map_nil]
def bI (k:Nat) (v0:(List Int)) (v1:Int):Option Int:=
 aU k v0 v1 k 0
theorem dV (k:Nat) (v0:List Int) (v1:Int):xC (k+1) none 61 [.ro (List.map (aI .i64) v0),.lit (.int .i64 v1)]=ob (bI k v0 v1) fun r=>some ((.lit (.int .i64 r)),[]):=by
 rw [aK]
 unfold bI
 simp (maxSteps:=2000000) -implicitDefEqProofs only [afp,aeD,adu,Kg,oL,↓syP,syA,syD,simprocAttr,syE,ah,ag,af,syW,xQ,kO k v0 v1]
 all_goals simp -implicitDefEqProofs only [List.map_nil]
def cT (k:Nat) (v0:(List Int)) (v1:Int):Option Bool:=
 ob (bI k v0 v1) fun x24=>
 some (decide (0≤x24))
theorem l8 (k:Nat) (v0:List Int) (v1:Int):xC (k+2) none 68 [.ro (List.map (aI .i64) v0),.lit (.int .i64 v1)]=ob (cT k v0 v1) fun r=>some ((.lit (.bool r)),[]):=by
 rw [aK]
 unfold cT
 simp (maxSteps:=2000000) -implicitDefEqProofs only [af3,afc,↓syP,syA,syD,simprocAttr,syE,ah,ag,af,syW,xQ,dV]
 all_goals simp -implicitDefEqProofs only [List.map_nil]
def fY (k:Nat) (v0:(Int×List (Int×Int×Int)×(Int×Int×Int×Int×Int×Int×Int)×Int×Int)):Option Bool:=
 ob (cT k [2,3,4,5,6] v0.1) fun x27=>
 some x27
theorem lE (k:Nat) (v0_0:Int) (v0_1:List (Int×Int×Int)) (v0_2_0 v0_2_1 v0_2_2 v0_2_3 v0_2_4 v0_2_5 v0_2_6 v0_3 v0_4:Int):xC (k+3) none 30 [.agg [.lit (.int .i64 v0_0),.ro (List.map aM v0_1),.lit (.int .i64 v0_2_0),.lit (.int .i64 v0_2_1),.lit (.int .i64 v0_2_2),.lit (.int .u64 v0_2_3),.lit (.int .u64 v0_2_4),.lit (.int .u64 v0_2_5),.lit (.int .i64 v0_2_6),.lit (.int .i64 v0_3),.lit (.int .i64 v0_4)]]=ob (fY k (v0_0,v0_1,(v0_2_0,v0_2_1,v0_2_2,v0_2_3,v0_2_4,v0_2_5,v0_2_6),v0_3,v0_4)) fun r=>some ((.lit (.bool r)),[]):=by
 rw [aK]
 unfold fY
 simp (maxSteps:=2000000) -implicitDefEqProofs only [af1,ae8,↓syP,syA,syD,simprocAttr,syE,ah,ag,af,syW,xQ,l8]
 all_goals simp -implicitDefEqProofs only [List.map_nil]
def fl (v0:(Int×Int×Int×Int×Int×Int×Int)):Option Bool:=
 bif v0.1==5 then
 ob (aG v0) fun x30=>
 bif !x30 then
 some (v0.2.1==3)
 else
 some false
 else
 some false
theorem Al (k:Nat) (v0_0 v0_1 v0_2 v0_3 v0_4 v0_5 v0_6:Int):xC (k+2) none 69 [.agg [.lit (.int .i64 v0_0),.lit (.int .i64 v0_1),.lit (.int .i64 v0_2),.lit (.int .u64 v0_3),.lit (.int .u64 v0_4),.lit (.int .u64 v0_5),.lit (.int .i64 v0_6)]]=ob (fl (v0_0,v0_1,v0_2,v0_3,v0_4,v0_5,v0_6)) fun r=>some ((.lit (.bool r)),[]):=by
 rw [aK]
 unfold fl
 simp (maxSteps:=2000000) -implicitDefEqProofs only [aga,afq,Qd,QB,xd,↓syP,syA,syD,simprocAttr,syE,ah,ag,af,syW,xQ,eo]
 all_goals simp -implicitDefEqProofs only [List.map_nil]
def ez (v0:(Int×List (Int×Int×Int)×(Int×Int×Int×Int×Int×Int×Int)×Int×Int)):Option Bool:=
 bif v0.1==8 then
 ob (fl v0.2.2.1) fun x33=>
 some x33
 else
 some false
theorem ld (k:Nat) (v0_0:Int) (v0_1:List (Int×Int×Int)) (v0_2_0 v0_2_1 v0_2_2 v0_2_3 v0_2_4 v0_2_5 v0_2_6 v0_3 v0_4:Int):xC (k+3) none 31 [.agg [.lit (.int .i64 v0_0),.ro (List.map aM v0_1),.lit (.int .i64 v0_2_0),.lit (.int .i64 v0_2_1),.lit (.int .i64 v0_2_2),.lit (.int .u64 v0_2_3),.lit (.int .u64 v0_2_4),.lit (.int .u64 v0_2_5),.lit (.int .i64 v0_2_6),.lit (.int .i64 v0_3),.lit (.int .i64 v0_4)]]=ob (ez (v0_0,v0_1,(v0_2_0,v0_2_1,v0_2_2,v0_2_3,v0_2_4,v0_2_5,v0_2_6),v0_3,v0_4)) fun r=>some ((.lit (.bool r)),[]):=by
 rw [aK]
 unfold ez
 simp (maxSteps:=2000000) -implicitDefEqProofs only [afy,ae1,P7,u9,↓syP,syA,syD,simprocAttr,syE,ah,ag,af,syW,xQ,Al]
 all_goals simp -implicitDefEqProofs only [List.map_nil]
def mt (v0:Int):Option (Int×List (Int×Int×Int)×(Int×Int×Int×Int×Int×Int×Int)×Int×Int):=
 ob (aF 1 v0 0) fun x36=>
 some (0,[],x36,0,0)
theorem oE (k:Nat) (v0:Int):xC (k+2) none 60 [.lit (.int .i64 v0)]=ob (mt v0) fun r=>some ((.agg [.lit (.int .i64 r.1),.ro (List.map aM r.2.1),.lit (.int .i64 r.2.2.1.1),.lit (.int .i64 r.2.2.1.2.1),.lit (.int .i64 r.2.2.1.2.2.1),.lit (.int .u64 r.2.2.1.2.2.2.1),.lit (.int .u64 r.2.2.1.2.2.2.2.1),.lit (.int .u64 r.2.2.1.2.2.2.2.2.1),.lit (.int .i64 r.2.2.1.2.2.2.2.2.2),.lit (.int .i64 r.2.2.2.1),.lit (.int .i64 r.2.2.2.2)]),[]):=by
 rw [aK]
 unfold mt
 simp (maxSteps:=2000000) -implicitDefEqProofs only [agh,afo,↓syP,syA,syD,simprocAttr,syE,ah,ag,af,syW,xQ,lh]
 all_goals simp -implicitDefEqProofs only [List.map_nil]
end Go.Ab
set_option maxRecDepth 100000
set_option linter.unusedVariables false
set_option linter.unusedSimpArgs false
namespace Go.Ab
open Go.Proofs
def fb (k:Nat) (v0:(Int×Int×Int×Int)) (v1:(List (Int×List Int))) (v2:(List Int)) (v3:(Int×List Int×Int×Int×Int×Int×Int×Int×Int)):Option Bool:=
 ob (bL v0) fun x6=>
 bif x6 then
 ob (dm v0) fun x7=>
 bif (↑v2.length:Int)==x7 then
 ob (cG (k+4) v1) fun x8=>
 bif x8 then
 bif decide (0≤v3.1) then
 bif decide (v3.1<6) then
 bif decide (0<(↑v3.2.1.length:Int)) then
 ob (idx v3.2.1 0) fun x9=>
 bif decide (0≤x9) then
 ob (idx v3.2.1 0) fun x10=>
 some (decide (x10<(↑v1.length:Int)))
 else
 some false
 else
 some false
 else
 some false
 else
 some false
 else
 some false
 else
 some false
 else
 some false
theorem pf (k:Nat) (v0_0 v0_1 v0_2 v0_3:Int) (v1:List (Int×List Int)) (v2:List Int) (v3_0:Int) (v3_1:List Int) (v3_2_0 v3_2_1 v3_2_2 v3_2_3 v3_2_4 v3_2_5 v3_2_6:Int):xC (k+24) none 85 [.agg [.lit (.int .i64 v0_0),.lit (.int .i64 v0_1),.lit (.int .i64 v0_2),.lit (.int .i64 v0_3)],.ro (List.map ao v1),.ro (List.map (aI .u64) v2),.agg [.lit (.int .i64 v3_0),.ro (List.map (aI .i64) v3_1),.lit (.int .i64 v3_2_0),.lit (.int .i64 v3_2_1),.lit (.int .i64 v3_2_2),.lit (.int .u64 v3_2_3),.lit (.int .u64 v3_2_4),.lit (.int .u64 v3_2_5),.lit (.int .i64 v3_2_6)]]=ob (fb k (v0_0,v0_1,v0_2,v0_3) v1 v2 (v3_0,v3_1,(v3_2_0,v3_2_1,v3_2_2,v3_2_3,v3_2_4,v3_2_5,v3_2_6))) fun r=>some ((.lit (.bool r)),[]):=by
 rw [aK]
 unfold fb
 simp (maxSteps:=2000000) -implicitDefEqProofs only [afU,afj,PN,Qs,QI,Qf,P3,QZ,P5,wP,↓syP,syA,syD,simprocAttr,syE,ah,ag,af,syW,xQ,cF,bU,fM]
 all_goals simp -implicitDefEqProofs only [List.map_nil]
def fu (k : Nat) (v0 : (Int × Int × Int × Int)) (v1 : (List (Int × List Int))) (v2 : (List Int)) (v3 : Int) (v4 : (Int × List Int × Int × Int × Int × Int × Int × Int × Int)) : Option ((List Int) × (Int × List Int × Int × Int × Int × Int × Int × Int × Int) × (List (Int × Int × Int))) :=
 ob (aL 8 v2) fun x38 =>
 ob (aL 8 v4.2.1) fun x39 =>
 ob (fb (k + 15) v0 v1 v2 v4) fun x40 =>
 bif !x40 then
 some (x38,(v4.1,x39,v4.2.2),[])
 else
 ob (idx x39 0) fun x41 =>
 bif v4.1 == 0 then
 ob (aD x38 3) fun x42 =>
 bif x42 != 0 then
 bif room 1 24 then
 bif decide (1 ≤ (↑x39.length : Int)) then
 some (x38,(0,(List.drop (Int.toNat 1) x39),(0,0,0,0,0,0,0)),([(1,x41,v3)]))
 else
 none
 else
 none
 else
 some (x38,(1,x39,v4.2.2),[])
 else
 bif v4.1 == 1 then
 ob (cQ x38 0 1) fun x43 =>
 ob (aF 3 v3 (IntKind.u64.wrap x41)) fun x44 =>
 some (x43.1,(2,x39,x44),[])
 else
 bif v4.1 == 2 then
 bif v4.2.2.1 == 3 then
 ob (bf v0 x38 v4.2.2) fun x45 =>
 ob (aG x45.2) fun x46 =>
 bif !x46 then
 some (x45.1,(v4.1,x39,x45.2),[])
 else
 bif x45.2.2.2.2.2.2.2 != 2 then
 bif room 1 24 then
 some (x45.1,(3,x39,x45.2),([(0,x41,v3)]))
 else
 none
 else
 some (x45.1,(5,x39,x45.2),[])
 else
 bif v4.2.2.1 == 4 then
 ob (bf v0 x38 v4.2.2) fun x47 =>
 ob (aG x47.2) fun x48 =>
 bif !x48 then
 some (x47.1,(v4.1,x39,x47.2),[])
 else
 bif x47.2.2.2.2.2.2.2 != 2 then
 bif room 1 24 then
 some (x47.1,(3,x39,x47.2),([(0,x41,v3)]))
 else
 none
 else
 some (x47.1,(5,x39,x47.2),[])
 else
 ob (bO (k + 20) v0 x38 v4.2.2) fun x49 =>
 ob (aG x49.2) fun x50 =>
 bif !x50 then
 some (x49.1,(v4.1,x39,x49.2),[])
 else
 bif x49.2.2.2.2.2.2.2 != 2 then
 bif room 1 24 then
 some (x49.1,(3,x39,x49.2),([(0,x41,v3)]))
 else
 none
 else
 some (x49.1,(5,x39,x49.2),[])
 else
 bif v4.1 == 3 then
 ob (aD x38 1) fun x51 =>
 bif x51 != 0 then
 bif decide (1 ≤ (↑x39.length : Int)) then
 some (x38,(0,(List.drop (Int.toNat 1) x39),(0,0,0,0,0,0,0)),[])
 else
 none
 else
 ob (aF 6 v3 0) fun x52 =>
 some (x38,(4,x39,x52),[])
 else
 bif v4.1 == 4 then
 bif v4.2.2.1 == 3 then
 ob (bf v0 x38 v4.2.2) fun x53 =>
 ob (aG x53.2) fun x54 =>
 bif x54 then
 bif decide (1 ≤ (↑x39.length : Int)) then
 some (x53.1,(0,(List.drop (Int.toNat 1) x39),(0,0,0,0,0,0,0)),[])
 else
 none
 else
 some (x53.1,(v4.1,x39,x53.2),[])
 else
 bif v4.2.2.1 == 4 then
 ob (bf v0 x38 v4.2.2) fun x55 =>
 ob (aG x55.2) fun x56 =>
 bif x56 then
 bif decide (1 ≤ (↑x39.length : Int)) then
 some (x55.1,(0,(List.drop (Int.toNat 1) x39),(0,0,0,0,0,0,0)),[])
 else
 none
 else
 some (x55.1,(v4.1,x39,x55.2),[])
 else
 ob (bO (k + 20) v0 x38 v4.2.2) fun x57 =>
 ob (aG x57.2) fun x58 =>
 bif x58 then
 bif decide (1 ≤ (↑x39.length : Int)) then
 some (x57.1,(0,(List.drop (Int.toNat 1) x39),(0,0,0,0,0,0,0)),[])
 else
 none
 else
 some (x57.1,(v4.1,x39,x57.2),[])
 else
 bif v4.1 == 5 then
 ob (cQ x38 0 18446744073709551615) fun x59 =>
 bif room 1 24 then
 bif x59.2 == 1 then
 bif room 2 24 then
 bif decide (1 ≤ (↑x39.length : Int)) then
 some (x59.1,(0,(List.drop (Int.toNat 1) x39),(0,0,0,0,0,0,0)),([(1,x41,v3),(5,0,v3)]))
 else
 none
 else
 none
 else
 bif decide (1 ≤ (↑x39.length : Int)) then
 some (x59.1,(0,(List.drop (Int.toNat 1) x39),(0,0,0,0,0,0,0)),([(1,x41,v3)]))
 else
 none
 else
 none
 else
 none
theorem xg (k : Nat) (v0_0 v0_1 v0_2 v0_3 : Int) (v1 : List (Int × List Int)) (v2 : List Int) (v3 v4_0 : Int) (v4_1 : List Int) (v4_2_0 v4_2_1 v4_2_2 v4_2_3 v4_2_4 v4_2_5 v4_2_6 : Int) : xC (k + 40) none 86 [.agg [.lit (.int .i64 v0_0),.lit (.int .i64 v0_1),.lit (.int .i64 v0_2),.lit (.int .i64 v0_3)],.ro (List.map ao v1),.ro (List.map (aI .u64) v2),.lit (.int .i64 v3),.agg [.lit (.int .i64 v4_0),.ro (List.map (aI .i64) v4_1),.lit (.int .i64 v4_2_0),.lit (.int .i64 v4_2_1),.lit (.int .i64 v4_2_2),.lit (.int .u64 v4_2_3),.lit (.int .u64 v4_2_4),.lit (.int .u64 v4_2_5),.lit (.int .i64 v4_2_6)]] = ob (fu k (v0_0,v0_1,v0_2,v0_3) v1 v2 v3 (v4_0,v4_1,(v4_2_0,v4_2_1,v4_2_2,v4_2_3,v4_2_4,v4_2_5,v4_2_6))) fun r => some ((.tup [.ro (List.map (aI .u64) r.1),.agg [.lit (.int .i64 r.2.1.1),.ro (List.map (aI .i64) r.2.1.2.1),.lit (.int .i64 r.2.1.2.2.1),.lit (.int .i64 r.2.1.2.2.2.1),.lit (.int .i64 r.2.1.2.2.2.2.1),.lit (.int .u64 r.2.1.2.2.2.2.2.1),.lit (.int .u64 r.2.1.2.2.2.2.2.2.1),.lit (.int .u64 r.2.1.2.2.2.2.2.2.2.1),.lit (.int .i64 r.2.1.2.2.2.2.2.2.2.2)],.ro (List.map aM r.2.2)]),[]) := by
  rw [aK]
  unfold fu
  simp (maxSteps := 2000000) -implicitDefEqProofs only [agi,afe,aeB,Xn,abP,WA,acP,VU,Ly,Jt,rF,rb,ac6,Yp,ab9,X3,aeE,VT,aeg,Z1,adx,WT,adH,ZO,↓syP,syA,syD,simprocAttr,syE,ah,ag,af,syW,xQ,cq,wc,lh,eo,pb,nB,pf]
  all_goals simp -implicitDefEqProofs only [List.map_nil]
def fX (v0:(List Int)):Option (Int×List Int×Int×Int×Int×Int×Int×Int×Int):=
 ob (aL 8 v0) fun x86=>
 some (0,x86,(0,0,0,0,0,0,0))
theorem lD (k:Nat) (v0:List Int):xC (k+2) none 63 [.ro (List.map (aI .i64) v0)]=ob (fX v0) fun r=>some ((.agg [.lit (.int .i64 r.1),.ro (List.map (aI .i64) r.2.1),.lit (.int .i64 r.2.2.1),.lit (.int .i64 r.2.2.2.1),.lit (.int .i64 r.2.2.2.2.1),.lit (.int .u64 r.2.2.2.2.2.1),.lit (.int .u64 r.2.2.2.2.2.2.1),.lit (.int .u64 r.2.2.2.2.2.2.2.1),.lit (.int .i64 r.2.2.2.2.2.2.2.2)]),[]):=by
 rw [aK]
 unfold fX
 simp (maxSteps:=2000000) -implicitDefEqProofs only [agf,aeZ,↓syP,syA,syD,simprocAttr,syE,ah,ag,af,syW,xQ]
 all_goals simp -implicitDefEqProofs only [List.map_nil]
end Go.Ab
set_option maxRecDepth 100000
set_option linter.unusedVariables false
set_option linter.unusedSimpArgs false
namespace Go.Ab
open Go.Proofs
def uI {β:Type} (k:Nat) (c:Int×Int×Int×Int) (m:List Int) (f:Int×Int×Int×Int×Int×Int×Int) (K:List Int×(Int×Int×Int×Int×Int×Int×Int)→Option β):Option β:=
 (bif f.1==0 then (bif f.1==0 then ob (ep (k+31) c m f) K else (bif f.1==3 then (bif f.1==3 then ob (bf c m f) K else ob (bO (k+40) c m f) K) else (bif f.1==4 then ob (bf c m f) K else ob (bO (k+40) c m f) K))) else (bif f.1==1 then (bif f.1==1 then ob (ep (k+31) c m f) K else (bif f.1==3 then (bif f.1==3 then ob (bf c m f) K else ob (bO (k+40) c m f) K) else (bif f.1==4 then ob (bf c m f) K else ob (bO (k+40) c m f) K))) else (bif f.1==2 then ob (ep (k+31) c m f) K else (bif f.1==3 then (bif f.1==3 then ob (bf c m f) K else ob (bO (k+40) c m f) K) else (bif f.1==4 then ob (bf c m f) K else ob (bO (k+40) c m f) K)))))
def iw (k : Nat) (v0 : (Int × Int × Int × Int)) (v1 : (List (Int × List Int))) (v2 : (List Int)) (v3 : Int) (v4 : (Int × List (Int × Int × Int) × (Int × Int × Int × Int × Int × Int × Int) × Int × Int)) (v5 : Int) : Option ((List Int) × (Int × List (Int × Int × Int) × (Int × Int × Int × Int × Int × Int × Int) × Int × Int) × (List (Int × Int × Int))) :=
 ob (aL 8 v2) fun x470 =>
 ob (aL 24 v4.2.1) fun x471 =>
 ob (gS (k + 35) v0 v1 v2 v3 v4) fun x472 =>
 bif !x472 then
 some (x470,(v4.1,x471,v4.2.2),[])
 else
 bif v4.1 == 0 then
 uI k v0 x470 v4.2.2.1 fun x473 =>
 ob (aG x473.2) fun x474 =>
 bif !x474 then
 some (x473.1,(v4.1,x471,x473.2,v4.2.2.2),[])
 else
 bif x473.2.2.2.2.2.2.2 != 1 then
 some (x473.1,(1,x471,(0,0,0,0,0,0,0),v4.2.2.2),[])
 else
 ob (cW (k + 36) v1 x471 (IntKind.i64.wrap x473.2.2.2.2.1)) fun x475 =>
 bif room 1 24 then
 some (x473.1,(9,x475,(0,0,0,0,0,0,0),v4.2.2.2),([(2,IntKind.i64.wrap x473.2.2.2.2.1,v3)]))
 else
 none
 else
 bif v4.1 == 1 then
 ob (cQ x470 1 1) fun x518 =>
 ob (aF 4 v3 0) fun x519 =>
 some (x518.1,(2,x471,x519,v0.2.2.2,v4.2.2.2.2),[])
 else
 bif v4.1 == 2 then
 ob (eF v5 v3 v0.1) fun x520 =>
 uI k v0 x470 v4.2.2.1 fun x521 =>
 ob (aG x521.2) fun x522 =>
 bif !x522 then
 some (x521.1,(v4.1,x471,x521.2,v4.2.2.2),[])
 else
 bif x521.2.2.2.2.2.2.2 == 1 then
 some (x521.1,(4,x471,x521.2,v4.2.2.2),[])
 else
 bif v4.1 == 2 then
 bif decide (0 ≤ x520) then
 ob (aF 2 x520 0) fun x523 =>
 some (x521.1,(3,x471,x523,v4.2.2.2),[])
 else
 bif decide (v4.2.2.2.1 ≤ 0) then
 ob (aF 5 v3 0) fun x524 =>
 some (x521.1,(5,x471,x524,v4.2.2.2),[])
 else
 ob (aF 4 v3 0) fun x525 =>
 some (x521.1,(2,x471,x525,(IntKind.i64.wrap (v4.2.2.2.1 - 1)),v4.2.2.2.2),[])
 else
 bif decide (v4.2.2.2.1 ≤ 0) then
 ob (aF 5 v3 0) fun x526 =>
 some (x521.1,(5,x471,x526,v4.2.2.2),[])
 else
 ob (aF 4 v3 0) fun x527 =>
 some (x521.1,(2,x471,x527,(IntKind.i64.wrap (v4.2.2.2.1 - 1)),v4.2.2.2.2),[])
 else
 bif v4.1 == 3 then
 ob (eF v5 v3 v0.1) fun x626 =>
 uI k v0 x470 v4.2.2.1 fun x627 =>
 ob (aG x627.2) fun x628 =>
 bif !x628 then
 some (x627.1,(v4.1,x471,x627.2,v4.2.2.2),[])
 else
 bif x627.2.2.2.2.2.2.2 == 1 then
 some (x627.1,(4,x471,x627.2,v4.2.2.2),[])
 else
 bif v4.1 == 2 then
 bif decide (0 ≤ x626) then
 ob (aF 2 x626 0) fun x629 =>
 some (x627.1,(3,x471,x629,v4.2.2.2),[])
 else
 bif decide (v4.2.2.2.1 ≤ 0) then
 ob (aF 5 v3 0) fun x630 =>
 some (x627.1,(5,x471,x630,v4.2.2.2),[])
 else
 ob (aF 4 v3 0) fun x631 =>
 some (x627.1,(2,x471,x631,(IntKind.i64.wrap (v4.2.2.2.1 - 1)),v4.2.2.2.2),[])
 else
 bif decide (v4.2.2.2.1 ≤ 0) then
 ob (aF 5 v3 0) fun x632 =>
 some (x627.1,(5,x471,x632,v4.2.2.2),[])
 else
 ob (aF 4 v3 0) fun x633 =>
 some (x627.1,(2,x471,x633,(IntKind.i64.wrap (v4.2.2.2.1 - 1)),v4.2.2.2.2),[])
 else
 bif v4.1 == 4 then
 ob (cQ x470 1 18446744073709551615) fun x732 =>
 bif x732.2 == 1 then
 ob (aF 6 v3 0) fun x733 =>
 ob (cW (k + 36) v1 x471 (IntKind.i64.wrap v4.2.2.1.2.2.2.1)) fun x734 =>
 bif room 1 24 then
 some (x732.1,(14,x734,x733,v4.2.2.2),([(2,IntKind.i64.wrap v4.2.2.1.2.2.2.1,v3)]))
 else
 none
 else
 ob (cW (k + 36) v1 x471 (IntKind.i64.wrap v4.2.2.1.2.2.2.1)) fun x735 =>
 bif room 1 24 then
 some (x732.1,(9,x735,(0,0,0,0,0,0,0),v4.2.2.2),([(2,IntKind.i64.wrap v4.2.2.1.2.2.2.1,v3)]))
 else
 none
 else
 bif v4.1 == 5 then
 uI k v0 x470 v4.2.2.1 fun x736 =>
 ob (aG x736.2) fun x737 =>
 some (x736.1,(6,x471,x736.2,v4.2.2.2),[])
 else
 bif v4.1 == 6 then
 ob (cQ x470 1 18446744073709551615) fun x766 =>
 some (x766.1,(7,x471,v4.2.2.1,v4.2.2.2.1,0),[])
 else
 bif v4.1 == 7 then
 bif decide (v4.2.2.2.2 < 0) then
 some (x470,(8,x471,(v4.2.2.1.1,v4.2.2.1.2.1,v4.2.2.1.2.2.1,0,v4.2.2.1.2.2.2.2),v4.2.2.2.1,0),[])
 else
 bif decide (IntKind.i64.wrap (2 + IntKind.i64.wrap (2 * v0.1)) ≤ v4.2.2.2.2) then
 some (x470,(8,x471,(v4.2.2.1.1,v4.2.2.1.2.1,v4.2.2.1.2.2.1,0,v4.2.2.1.2.2.2.2),v4.2.2.2.1,0),[])
 else
 bif v4.2.2.2.2 == 0 then
 ob (aD x470 4) fun x767 =>
 bif IntKind.i64.wrap (v4.2.2.2.2 + 1) == IntKind.i64.wrap (2 + IntKind.i64.wrap (2 * v0.1)) then
 some (x470,(8,x471,(v4.2.2.1.1,v4.2.2.1.2.1,v4.2.2.1.2.2.1,0,v4.2.2.1.2.2.2.2),v4.2.2.2.1,0),[])
 else
 some (x470,(v4.1,x471,(v4.2.2.1.1,v4.2.2.1.2.1,v4.2.2.1.2.2.1,x767,v4.2.2.1.2.2.2.2),v4.2.2.2.1,(IntKind.i64.wrap (v4.2.2.2.2 + 1))),[])
 else
 bif v4.2.2.2.2 == 1 then
 ob (aD x470 5) fun x768 =>
 bif x768 != v4.2.2.1.2.2.2.1 then
 some (x470,(1,x471,(0,0,0,0,0,0,0),v4.2.2.2),[])
 else
 bif IntKind.i64.wrap (v4.2.2.2.2 + 1) == IntKind.i64.wrap (2 + IntKind.i64.wrap (2 * v0.1)) then
 some (x470,(8,x471,(v4.2.2.1.1,v4.2.2.1.2.1,v4.2.2.1.2.2.1,0,v4.2.2.1.2.2.2.2),v4.2.2.2.1,0),[])
 else
 some (x470,(v4.1,x471,v4.2.2.1,v4.2.2.2.1,(IntKind.i64.wrap (v4.2.2.2.2 + 1))),[])
 else
 bif v4.2.2.2.2.tmod 2 == 0 then
 ob (gb v0 (IntKind.i64.wrap ((IntKind.i64.wrap (v4.2.2.2.2 - 2)).tdiv 2))) fun x769 =>
 ob (aD x470 x769) fun x770 =>
 bif IntKind.i64.wrap (v4.2.2.2.2 + 1) == IntKind.i64.wrap (2 + IntKind.i64.wrap (2 * v0.1)) then
 some (x470,(8,x471,(v4.2.2.1.1,v4.2.2.1.2.1,v4.2.2.1.2.2.1,0,v4.2.2.1.2.2.2.2),v4.2.2.2.1,0),[])
 else
 some (x470,(v4.1,x471,(v4.2.2.1.1,v4.2.2.1.2.1,v4.2.2.1.2.2.1,x770,v4.2.2.1.2.2.2.2),v4.2.2.2.1,(IntKind.i64.wrap (v4.2.2.2.2 + 1))),[])
 else
 ob (cV v0 (IntKind.i64.wrap ((IntKind.i64.wrap (v4.2.2.2.2 - 2)).tdiv 2))) fun x771 =>
 ob (aD x470 x771) fun x772 =>
 ob (er x772 v4.2.2.1.2.2.2.1) fun x773 =>
 bif decide (0 < x773) then
 some (x470,(1,x471,(0,0,0,0,0,0,0),v4.2.2.2),[])
 else
 bif IntKind.i64.wrap (v4.2.2.2.2 + 1) == IntKind.i64.wrap (2 + IntKind.i64.wrap (2 * v0.1)) then
 some (x470,(8,x471,(v4.2.2.1.1,v4.2.2.1.2.1,v4.2.2.1.2.2.1,0,v4.2.2.1.2.2.2.2),v4.2.2.2.1,0),[])
 else
 some (x470,(v4.1,x471,v4.2.2.1,v4.2.2.2.1,(IntKind.i64.wrap (v4.2.2.2.2 + 1))),[])
 else
 bif v4.1 == 8 then
 uI k v0 x470 v4.2.2.1 fun x774 =>
 ob (aG x774.2) fun x775 =>
 bif x775 then
 some (x774.1,(1,x471,(0,0,0,0,0,0,0),v4.2.2.2),[])
 else
 some (x774.1,(v4.1,x471,x774.2,v4.2.2.2),[])
 else
 bif v4.1 == 9 then
 ob (dv (k + 37) v1 x471) fun x804 =>
 bif x804.1 == 1 then
 ob (fc (k + 36) v1 x471) fun x805 =>
 some (x470,(v4.1,x805,v4.2.2),[])
 else
 bif x804.1 == 2 then
 some (x470,(10,x471,v4.2.2),[])
 else
 bif x804.1 == 3 then
 some (x470,(15,x471,v4.2.2),[])
 else
 ob (aF 1 v3 0) fun x806 =>
 some (x470,(0,x471,x806,v4.2.2.2),[])
 else
 bif v4.1 == 10 then
 ob (dv (k + 37) v1 x471) fun x807 =>
 bif x807.1 != 2 then
 some (x470,(9,x471,(0,0,0,0,0,0,0),v4.2.2.2),[])
 else
 ob (cQ x470 0 1) fun x808 =>
 bif room 1 24 then
 ob (fc (k + 36) v1 x471) fun x809 =>
 ob (aF 0 v3 (IntKind.u64.wrap x807.2)) fun x810 =>
 some (x808.1,(11,x809,x810,v4.2.2.2),([(3,x807.2,v3)]))
 else
 none
 else
 bif v4.1 == 11 then
 uI k v0 x470 v4.2.2.1 fun x811 =>
 ob (aG x811.2) fun x812 =>
 bif !x812 then
 some (x811.1,(v4.1,x471,x811.2,v4.2.2.2),[])
 else
 bif x811.2.2.2.2.2.2.2 == 2 then
 ob (aF 3 v3 x811.2.2.2.2.1) fun x813 =>
 some (x811.1,(12,x471,x813,v4.2.2.2),[])
 else
 some (x811.1,(13,x471,(0,0,0,0,0,0,0),v4.2.2.2),[])
 else
 bif v4.1 == 12 then
 uI k v0 x470 v4.2.2.1 fun x856 =>
 ob (aG x856.2) fun x857 =>
 bif !x857 then
 some (x856.1,(v4.1,x471,x856.2,v4.2.2.2),[])
 else
 bif x856.2.2.2.2.2.2.2 == 2 then
 ob (cW (k + 36) v1 x471 (IntKind.i64.wrap x856.2.2.2.2.1)) fun x858 =>
 bif room 1 24 then
 some (x856.1,(9,x858,(0,0,0,0,0,0,0),v4.2.2.2),([(2,IntKind.i64.wrap x856.2.2.2.2.1,v3)]))
 else
 none
 else
 some (x856.1,(13,x471,(0,0,0,0,0,0,0),v4.2.2.2),[])
 else
 bif v4.1 == 13 then
 ob (aD x470 1) fun x901 =>
 bif x901 == 0 then
 ob (aF 6 v3 0) fun x902 =>
 some (x470,(14,x471,x902,v4.2.2.2),[])
 else
 some (x470,(9,x471,(0,0,0,0,0,0,0),v4.2.2.2),[])
 else
 bif v4.1 == 14 then
 uI k v0 x470 v4.2.2.1 fun x903 =>
 ob (aG x903.2) fun x904 =>
 bif x904 then
 some (x903.1,(9,x471,(0,0,0,0,0,0,0),v4.2.2.2),[])
 else
 some (x903.1,(v4.1,x471,x903.2,v4.2.2.2),[])
 else
 bif v4.1 == 15 then
 ob (dv (k + 37) v1 x471) fun x933 =>
 bif x933.1 != 3 then
 some (x470,(9,x471,(0,0,0,0,0,0,0),v4.2.2.2),[])
 else
 ob (cQ x470 0 18446744073709551615) fun x934 =>
 bif room 1 24 then
 bif x934.2 == 1 then
 bif room 2 24 then
 ob (fc (k + 36) v1 x471) fun x935 =>
 bif (↑x935.length : Int) == 0 then
 ob (aF 1 v3 0) fun x936 =>
 some (x934.1,(0,x935,x936,v4.2.2.2),([(4,x933.2,v3),(5,0,v3)]))
 else
 some (x934.1,(9,x935,(0,0,0,0,0,0,0),v4.2.2.2),([(4,x933.2,v3),(5,0,v3)]))
 else
 none
 else
 ob (fc (k + 36) v1 x471) fun x937 =>
 bif (↑x937.length : Int) == 0 then
 ob (aF 1 v3 0) fun x938 =>
 some (x934.1,(0,x937,x938,v4.2.2.2),([(4,x933.2,v3)]))
 else
 some (x934.1,(9,x937,(0,0,0,0,0,0,0),v4.2.2.2),([(4,x933.2,v3)]))
 else
 none
 else
 none
theorem DR (k : Nat) (v0_0 v0_1 v0_2 v0_3 : Int) (v1 : List (Int × List Int)) (v2 : List Int) (v3 v4_0 : Int) (v4_1 : List (Int × Int × Int)) (v4_2_0 v4_2_1 v4_2_2 v4_2_3 v4_2_4 v4_2_5 v4_2_6 v4_3 v4_4 v5 : Int) : xC (k + 60) none 83 [.agg [.lit (.int .i64 v0_0),.lit (.int .i64 v0_1),.lit (.int .i64 v0_2),.lit (.int .i64 v0_3)],.ro (List.map ao v1),.ro (List.map (aI .u64) v2),.lit (.int .i64 v3),.agg [.lit (.int .i64 v4_0),.ro (List.map aM v4_1),.lit (.int .i64 v4_2_0),.lit (.int .i64 v4_2_1),.lit (.int .i64 v4_2_2),.lit (.int .u64 v4_2_3),.lit (.int .u64 v4_2_4),.lit (.int .u64 v4_2_5),.lit (.int .i64 v4_2_6),.lit (.int .i64 v4_3),.lit (.int .i64 v4_4)],.lit (.int .u64 v5)] = ob (iw k (v0_0,v0_1,v0_2,v0_3) v1 v2 v3 (v4_0,v4_1,(v4_2_0,v4_2_1,v4_2_2,v4_2_3,v4_2_4,v4_2_5,v4_2_6),v4_3,v4_4) v5) fun r => some ((.tup [.ro (List.map (aI .u64) r.1),.agg [.lit (.int .i64 r.2.1.1),.ro (List.map aM r.2.1.2.1),.lit (.int .i64 r.2.1.2.2.1.1),.lit (.int .i64 r.2.1.2.2.1.2.1),.lit (.int .i64 r.2.1.2.2.1.2.2.1),.lit (.int .u64 r.2.1.2.2.1.2.2.2.1),.lit (.int .u64 r.2.1.2.2.1.2.2.2.2.1),.lit (.int .u64 r.2.1.2.2.1.2.2.2.2.2.1),.lit (.int .i64 r.2.1.2.2.1.2.2.2.2.2.2),.lit (.int .i64 r.2.1.2.2.2.1),.lit (.int .i64 r.2.1.2.2.2.2)],.ro (List.map aM r.2.2)]),[]) := by
  rw [aK]
  unfold iw uI
  simp (maxSteps := 2000000) -implicitDefEqProofs only [af7,ae9,aen,Zj,adL,VK,aeb,YO,IK,r5,adc,YS,JJ,pT,abN,Yt,abL,XJ,acH,WW,Kk,Le,rr,uv,acB,aas,aeL,ZW,acF,ZK,adk,XI,adv,aab,adh,ZJ,ac4,WL,adR,Wb,Ld,rj,abH,XW,Iu,Lj,ue,re,abK,Zv,aer,aak,aeJ,Z0,adt,Xa,ad5,YU,↓syP,syA,syD,simprocAttr,syE,ah,ag,af,syW,xQ,cq,wc,lh,eo,lH,f6,iY,xn,pb,nB,C3,o6,Hz,Am,xe]
  all_goals simp -implicitDefEqProofs only [List.map_nil]
end Go.Ab
