import Derived.Test.YtblpbpnilkfjhaaGreatR6Run
import Derived.Test.YtblpbpnilkfjhaaGreatR6Facts
import Derived.Test.YtblpbpnilkfjhaaGreatR6Man
import Derived.Test.YtblpbpnilkfjhaaGreatR6B0A
set_option linter.unusedVariables false
set_option linter.unusedSimpArgs false
set_option maxRecDepth 100000
set_option linter.unusedVariables false
set_option linter.unusedSimpArgs false
namespace Go.Ab
open Go.Proofs
def bK (k:Nat) (v0:Tyt)  : Nat→Int→Option Bool
 | 0,_=>none
 | n+1,s3=>
 bif decide (s3<(↑v0.length:Int)) then
 bif decide (s3≤(40:Int)) then
 ob (idx v0 s3) fun x6=>
 bif decide ((40:Int)<(↑x6.2.length:Int)) then
 some (false)
 else
 bK k v0  n (IntKind.i64.wrap (s3+(1:Int)))
 else
 some (decide ((↑v0.length:Int)≤(40:Int)))
 else
 some (decide ((↑v0.length:Int)≤(40:Int)))
theorem nz (k:Nat) (v0:Tyt):∀ (n:Nat) (s3:Int),rt none (itX (xX (xS k) 21 0 k false) Gi (0) (bF (xX (xS k) 21 0 k false) (a7 (xS k).P Tryz.f21) Mr) n ⟨[.ro (List.map ak v0),uu,.lit (.bool false),.lit (.int .i64 s3),.junk,.junk,.junk,.junk,.junk,.junk,.junk,.junk,.junk,.junk,.junk,.junk,.junk,.junk,.junk,.junk,.junk,uu,uu,uu],[]⟩)=ob (bK k v0  n s3) fun r=>some ((.lit (.bool r)),[]):=by
 intro n
 induction n with
 | zero=>intros;rfl
 | succ n ih=>
  intro s3
  rw [bK]
  simp -implicitDefEqProofs only [apw,apr,aoV,WJ,WP,D2,Dp,↓syI,↓syP,syA,syD,simprocAttr,syE,af,ae,aa,syW,xQ,ahv,ih]
def dU (k:Nat) (v0:Tyt):Option Bool:=
 bK k v0 k 0
theorem uI (k:Nat) (v0:Tyt):xC (k+1) none 21 [.ro (List.map ak v0)]=ob (dU k v0) fun r=>some ((.lit (.bool r)),[]):=by
 rw [aD]
 unfold dU
 simp -implicitDefEqProofs only [apw,apr,aoV,WJ,WP,D2,Dp,↓syI,↓syP,syA,syD,simprocAttr,syE,af,ae,aa,syW,xQ,nz k v0]
def gn (v0:(Int×List Int)):Option Bool:=
 bif decide (v0.1<0) then
 some true
 else
 some (decide (20<v0.1))
theorem Dd (k:Nat) (v0_0:Int) (v0_1:List Int):xC (k+1) none 99 [.agg [.lit (.int .i64 v0_0),.ro (List.map (av .i64) v0_1)]]=ob (gn (v0_0,v0_1)) fun r=>some ((.lit (.bool r)),[]):=by
 rw [aD]
 unfold gn
 simp -implicitDefEqProofs only [ahX,ahW,Lv,pQ,↓syI,↓syP,syA,syD,simprocAttr,syE,af,ae,aa,syW,xQ]
def aB (k:Nat) (v0:Tyt)  : Nat→Int→Option Int
 | 0,_=>none
 | n+1,sJ=>
 bif decide (sJ<(↑v0.length:Int)) then
 ob (idx v0 sJ) fun x17=>
 ob (gn (x17.1,x17.2)) fun x18=>
 bif x18 then
 some (sJ)
 else
 aB k v0  n (IntKind.i64.wrap (sJ+(1:Int)))
 else
 some ((-1:Int))
theorem ee (k:Nat) (v0:Tyt):∀ (n:Nat) (sJ:Int) ⦃j11:V⦄,rt none (itX (xX (xS (k+8)) 147 0 (k+8) false) EN (0) (bF (xX (xS (k+8)) 147 0 (k+8) false) (a7 (xS (k+8)).P Tryz.f147) E5) n ⟨[.ro (List.map ak v0),.fn (Fn.func (99:FuncId)) [] [],uu,uu,.lit (.int .i64 (0:Int)),j11,.ro (List.map ak v0),.lit (.int .i64 (↑v0.length:Int)),.lit (.int .i64 sJ),.junk,.junk,.junk,.junk,.junk,.junk,.junk,.junk,.junk,.junk],[]⟩)=ob (aB k v0  n sJ) fun r=>some ((.lit (.int .i64 r)),[]):=by
 intro n
 induction n with
 | zero=>intros;rfl
 | succ n ih=>
  intro sJ j11
  rw [aB]
  simp -implicitDefEqProofs only [N5,ND,MY,wI,kg,↓syI,↓syP,syA,syD,simprocAttr,syE,af,ae,aa,syW,xQ,Dd,XX,ih]
def aY (k:Nat) (v0:Tyt):Option Int:=
 aB k v0 (k+8) 0
theorem fP (k:Nat) (v0:Tyt):xC (k+9) none 147 [.ro (List.map ak v0),.fn (Fn.func (99:FuncId)) [] []]=ob (aY k v0) fun r=>some ((.lit (.int .i64 r)),[]):=by
 rw [aD]
 unfold aY
 simp -implicitDefEqProofs only [N5,ND,MY,wI,kg,↓syI,↓syP,syA,syD,simprocAttr,syE,af,ae,aa,syW,xQ,ee k v0]
def aO (k:Nat) (v0:Tyt):Option Bool:=
 ob (aY (k+8) v0) fun x20=>
 some (decide (0≤x20))
theorem bv (k:Nat) (v0:Tyt):xC (k+18) none 98 [.ro (List.map ak v0),.fn (Fn.func (99:FuncId)) [] []]=ob (aO k v0) fun r=>some ((.lit (.bool r)),[]):=by
 rw [aD]
 unfold aO
 simp -implicitDefEqProofs only [ahV,ahN,N5,ND,MY,wI,kg,↓syI,↓syP,syA,syD,simprocAttr,syE,af,ae,aa,syW,xQ,fP]
def dv (k:Nat) (v0:Tyt) (o0:Int→List Bool→Option Bool):Nat→List Int→Int→Int→List Bool→Int→Option Bool
 | 0,_,_,_,_,_=>none
 | n+1,sR,sI,sa,sM,s48=>
 bif decide (sa<sI) then
 ob (idx sR sa) fun xe=>
 bif decide (xe≤s48) then
 some (false)
 else
 bif decide ((↑v0.length:Int)≤xe) then
 some (false)
 else
 bif decide ((0:Int)≤xe∧xe.toNat<v0.length) then
 ob (sM[xe.toNat]?) fun xb=>
 bif xb then
 some (false)
 else
 bif decide ((0:Int)≤xe∧xe.toNat<v0.length) then
 ob (sM[xe.toNat]?) fun x64=>
 dv k v0 o0 n (sR) (sI) (IntKind.i64.wrap (sa+(1:Int))) (sM.set xe.toNat true) (s48)
 else
 none
 else
 none
 else
 o0 (IntKind.i64.wrap (s48+(1:Int))) (sM)
theorem uG (k:Nat) (v0:Tyt) (n23:Nat) (o0:Int→List Bool→Option Bool) (ho0:∀ (su:Int) (s51:List Bool) ⦃sC:Bool⦄ ⦃j40 j41 j50:V⦄,rt none (bq (itX (xX (xS (k+17)) 148 0 (k+17) false) mV (7) (bF (xX (xS (k+17)) 148 0 (k+17) false) (a7 (xS (k+17)).P Tryz.f148) od) n23 ⟨[.yld 6,.ptr 5 0 0 0,uu,j40,j41,uu,j50,.ro (List.map ak v0),.lit (.int .i64 (↑v0.length:Int)),.lit (.int .i64 su),.junk,.junk,.junk,.junk,.junk,.junk,.junk,.junk,.junk,.junk,.junk,.junk,.junk,.junk,.junk,.junk,.junk,.junk],[.box [.ro (List.map ak v0)],.box [.lit (.bool false)],.rows 1 (List.map fI s51) 0 true,.rows 0 [] 0 true,.box [.own 2 0 v0.length],.box [.ro (List.map ak v0)],(.loop ⟨LoopState.ready,none,56,[.ro (List.map ak v0),.ptr 0 0 0 0,.ptr 1 0 0 0,.ptr 4 0 0 0,uu,uu,.ro (List.map ak v0),.lit (.int .i64 (↑v0.length:Int)),.lit (.bool (decide ((30:Int)<(↑v0.length:Int)))),.lit (.bool false),.ro (List.map ak v0),.lit (.bool sC),.lit (.bool sC),.ro (List.map ak v0),.lit (.int .i64 (↑v0.length:Int)),.own 2 0 v0.length,.ro (List.map ak v0),.fn (Fn.func (148:FuncId)) [] [.ptr 5 0 0 0],uu,uu,uu,uu,uu,uu,uu,uu,uu,uu,uu,uu,uu,uu,uu,uu,uu,uu,uu,uu],[(18:Tmp),(19:Tmp)],GW,G2⟩)]⟩) (rfK (bF (xX (xS (k+18)) 56 0 (k+18) false) (a7 (xS (k+18)).P Tryz.f56) DD) [.ro (List.map ak v0),.ptr 0 0 0 0,.ptr 1 0 0 0,.ptr 4 0 0 0,uu,uu,.ro (List.map ak v0),.lit (.int .i64 (↑v0.length:Int)),.lit (.bool (decide ((30:Int)<(↑v0.length:Int)))),.lit (.bool false),.ro (List.map ak v0),.lit (.bool sC),.lit (.bool sC),.ro (List.map ak v0),.lit (.int .i64 (↑v0.length:Int)),.own 2 0 v0.length,.ro (List.map ak v0),.fn (Fn.func (148:FuncId)) [] [.ptr 5 0 0 0],uu,uu,uu,uu,uu,uu,uu,uu,uu,uu,uu,uu,uu,uu,uu,uu,uu,uu,uu,uu] (6)))=ob (o0 su s51) fun r=>some ((.lit (.bool r)),[])):∀ (n:Nat) (sR:List Int) (sI sa:Int) (sM:List Bool) (s48:Int) ⦃sf:Int⦄ ⦃sS so:Bool⦄ ⦃j37:V⦄,rt none (bq (itX (xX (xS (k+17)) 148 0 (k+17) false) Bg (9) (bF (xX (xS (k+17)) 148 0 (k+17) false) (oM (xX (xS (k+17)) 148 0 (k+17) false) mV 7 (bF (xX (xS (k+17)) 148 0 (k+17) false) (a7 (xS (k+17)).P Tryz.f148) od) n23) Be) n ⟨[.yld 6,.ptr 5 0 0 0,uu,.lit (.int .i64 s48),.ptr 8 0 0 0,uu,j37,.ro (List.map ak v0),.lit (.int .i64 (↑v0.length:Int)),.lit (.int .i64 s48),.lit (.bool so),.lit (.int .i64 s48),.rp [.lit (.int .i64 sf),.ro (List.map (av IntKind.i64) sR)],.agg [.lit (.int .i64 sf),.ro (List.map (av IntKind.i64) sR)],.ptr 8 0 0 1,.ro (List.map (av IntKind.i64) sR),.lit (.int .i64 sI),.lit (.int .i64 sa),.junk,.junk,.junk,.junk,.junk,.junk,.junk,.junk,.junk,.junk],[.box [.ro (List.map ak v0)],.box [.lit (.bool false)],.rows 1 (List.map fI sM) 0 true,.rows 0 [] 0 true,.box [.own 2 0 v0.length],.box [.ro (List.map ak v0)],(.loop ⟨LoopState.ready,none,56,[.ro (List.map ak v0),.ptr 0 0 0 0,.ptr 1 0 0 0,.ptr 4 0 0 0,uu,uu,.ro (List.map ak v0),.lit (.int .i64 (↑v0.length:Int)),.lit (.bool (decide ((30:Int)<(↑v0.length:Int)))),.lit (.bool false),.ro (List.map ak v0),.lit (.bool sS),.lit (.bool sS),.ro (List.map ak v0),.lit (.int .i64 (↑v0.length:Int)),.own 2 0 v0.length,.ro (List.map ak v0),.fn (Fn.func (148:FuncId)) [] [.ptr 5 0 0 0],uu,uu,uu,uu,uu,uu,uu,uu,uu,uu,uu,uu,uu,uu,uu,uu,uu,uu,uu,uu],[(18:Tmp),(19:Tmp)],GW,G2⟩),.rows 0 [] 0 true,.box [.lit (.int .i64 sf),.ro (List.map (av IntKind.i64) sR)]]⟩) (rfK (bF (xX (xS (k+18)) 56 0 (k+18) false) (a7 (xS (k+18)).P Tryz.f56) DD) [.ro (List.map ak v0),.ptr 0 0 0 0,.ptr 1 0 0 0,.ptr 4 0 0 0,uu,uu,.ro (List.map ak v0),.lit (.int .i64 (↑v0.length:Int)),.lit (.bool (decide ((30:Int)<(↑v0.length:Int)))),.lit (.bool false),.ro (List.map ak v0),.lit (.bool sS),.lit (.bool sS),.ro (List.map ak v0),.lit (.int .i64 (↑v0.length:Int)),.own 2 0 v0.length,.ro (List.map ak v0),.fn (Fn.func (148:FuncId)) [] [.ptr 5 0 0 0],uu,uu,uu,uu,uu,uu,uu,uu,uu,uu,uu,uu,uu,uu,uu,uu,uu,uu,uu,uu] (6)))=ob (dv k v0 o0 n sR sI sa sM s48) fun r=>some ((.lit (.bool r)),[]):=by
 intro n
 induction n with
 | zero=>intros;rfl
 | succ n ih=>
  intro sR sI sa sM s48 sf sS so j37
  rw [dv]
  simp -implicitDefEqProofs only [aix,anX,aoH,RD,QQ,gW,iv,PR,Qe,wz,wh,wo,BY,ahV,ahN,ahX,ahW,Lv,pQ,Ol,M8,aD (g:=100),N5,ND,MY,wI,kg,NW,NI,M0,wF,wM,iV,i9,↓syI,↓syP,syA,syD,simprocAttr,syE,af,ae,aa,syW,xQ,bv,QM,ih,ho0]
def cp (k:Nat) (v0:Tyt)  : Nat→Int→List Bool→Option Bool
 | 0,_,_=>none
 | n+1,su,s51=>
 bif decide (su<(↑v0.length:Int)) then
 ob (idx v0 su) fun x58=>
 dv k v0 (fun su s51=>cp k v0  n su s51) (k+17) (x58.2) ((↑x58.2.length:Int)) ((0:Int)) (s51) (su)
 else
 some (true)
theorem uQ (k:Nat) (v0:Tyt):∀ (n:Nat) (su:Int) (s51:List Bool) ⦃sC:Bool⦄ ⦃j40 j41 j50:V⦄,rt none (bq (itX (xX (xS (k+17)) 148 0 (k+17) false) mV (7) (bF (xX (xS (k+17)) 148 0 (k+17) false) (a7 (xS (k+17)).P Tryz.f148) od) n ⟨[.yld 6,.ptr 5 0 0 0,uu,j40,j41,uu,j50,.ro (List.map ak v0),.lit (.int .i64 (↑v0.length:Int)),.lit (.int .i64 su),.junk,.junk,.junk,.junk,.junk,.junk,.junk,.junk,.junk,.junk,.junk,.junk,.junk,.junk,.junk,.junk,.junk,.junk],[.box [.ro (List.map ak v0)],.box [.lit (.bool false)],.rows 1 (List.map fI s51) 0 true,.rows 0 [] 0 true,.box [.own 2 0 v0.length],.box [.ro (List.map ak v0)],(.loop ⟨LoopState.ready,none,56,[.ro (List.map ak v0),.ptr 0 0 0 0,.ptr 1 0 0 0,.ptr 4 0 0 0,uu,uu,.ro (List.map ak v0),.lit (.int .i64 (↑v0.length:Int)),.lit (.bool (decide ((30:Int)<(↑v0.length:Int)))),.lit (.bool false),.ro (List.map ak v0),.lit (.bool sC),.lit (.bool sC),.ro (List.map ak v0),.lit (.int .i64 (↑v0.length:Int)),.own 2 0 v0.length,.ro (List.map ak v0),.fn (Fn.func (148:FuncId)) [] [.ptr 5 0 0 0],uu,uu,uu,uu,uu,uu,uu,uu,uu,uu,uu,uu,uu,uu,uu,uu,uu,uu,uu,uu],[(18:Tmp),(19:Tmp)],GW,G2⟩)]⟩) (rfK (bF (xX (xS (k+18)) 56 0 (k+18) false) (a7 (xS (k+18)).P Tryz.f56) DD) [.ro (List.map ak v0),.ptr 0 0 0 0,.ptr 1 0 0 0,.ptr 4 0 0 0,uu,uu,.ro (List.map ak v0),.lit (.int .i64 (↑v0.length:Int)),.lit (.bool (decide ((30:Int)<(↑v0.length:Int)))),.lit (.bool false),.ro (List.map ak v0),.lit (.bool sC),.lit (.bool sC),.ro (List.map ak v0),.lit (.int .i64 (↑v0.length:Int)),.own 2 0 v0.length,.ro (List.map ak v0),.fn (Fn.func (148:FuncId)) [] [.ptr 5 0 0 0],uu,uu,uu,uu,uu,uu,uu,uu,uu,uu,uu,uu,uu,uu,uu,uu,uu,uu,uu,uu] (6)))=ob (cp k v0  n su s51) fun r=>some ((.lit (.bool r)),[]):=by
 intro n
 induction n with
 | zero=>intros;rfl
 | succ n ih=>
  intro su s51 sC j40 j41 j50
  rw [cp]
  simp -implicitDefEqProofs only [aix,anX,aoH,RD,QQ,gW,iv,PR,Qe,wz,wh,wo,BY,ahV,ahN,ahX,ahW,Lv,pQ,Ol,M8,aD (g:=100),N5,ND,MY,wI,kg,NW,NI,M0,wF,wM,iV,i9,↓syI,↓syP,syA,syD,simprocAttr,syE,af,ae,aa,syW,xQ,bv,R9,ih,uG k v0 _ (fun su s51=>cp k v0  n su s51) ih]
def bW (k:Nat) (v0:Tyt):Option Bool:=
 bif decide (30<(↑v0.length:Int)) then
 some false
 else
 ob (aO k v0) fun xp=>
 bif xp then
 some false
 else
 bif decide (0≤(↑v0.length:Int)∧(↑v0.length:Int)≤9223372036854775807∧(↑v0.length:Int)*1≤70368744177664) then
 cp k v0 (k+17) 0 (List.replicate v0.length false)
 else
 none
theorem bX (k:Nat) (v0:Tyt):xC (k+19) none 56 [.ro (List.map ak v0)]=ob (bW k v0) fun r=>some ((.lit (.bool r)),[]):=by
 rw [aD]
 unfold bW
 simp -implicitDefEqProofs only [aix,anX,aoH,RD,QQ,gW,iv,PR,Qe,wz,wh,wo,BY,ahV,ahN,ahX,ahW,Lv,pQ,Ol,M8,aD (g:=100),N5,ND,MY,wI,kg,NW,NI,M0,wF,wM,iV,i9,↓syI,↓syP,syA,syD,simprocAttr,syE,af,ae,aa,syW,xQ,bv,uQ k v0]
def co (k:Nat) (v0:Tyt) (v1:Int) (o0:Int→Option Int):Nat→List Int→Int→Int→Int→Option Int
 | 0,_,_,_,_=>none
 | n+1,sW,sB,sb,s128=>
 bif decide (sb<sB) then
 ob (idx sW sb) fun x137=>
 bif x137==v1 then
 some (s128)
 else
 co k v0 v1 o0 n (sW) (sB) (IntKind.i64.wrap (sb+(1:Int))) (s128)
 else
 o0 (IntKind.i64.wrap (s128+(1:Int)))
theorem oX (k:Nat) (v0:Tyt) (v1:Int) (n108:Nat) (o0:Int→Option Int) (ho0:∀ (sc:Int) ⦃s109:Bool⦄ ⦃j122 j123 j130:V⦄,rt none (bq (itX (xX (xS (k+18)) 148 0 (k+18) false) mV (4) (bF (xX (xS (k+18)) 148 0 (k+18) false) (a7 (xS (k+18)).P Tryz.f148) od) n108 ⟨[.yld 3,.ptr 2 0 0 0,uu,j122,j123,uu,j130,.ro (List.map ak v0),.lit (.int .i64 (↑v0.length:Int)),.lit (.int .i64 sc),.junk,.junk,.junk,.junk,.junk,.junk,.junk,.junk,.junk,.junk,.junk,.junk,.junk,.junk,.junk,.junk,.junk,.junk],[.box [.lit (.int .i64 v1)],.box [.lit (.int .i64 (0:Int))],.box [.ro (List.map ak v0)],(.loop ⟨LoopState.ready,none,101,[.ro (List.map ak v0),.lit (.int .i64 v1),uu,.ptr 0 0 0 0,.ptr 1 0 0 0,uu,uu,.ro (List.map ak v0),.lit (.bool s109),.ro (List.map ak v0),.fn (Fn.func (148:FuncId)) [] [.ptr 2 0 0 0],uu,uu,uu,uu,uu,uu],[(11:Tmp),(12:Tmp)],Cg,BK⟩)]⟩) (rfK (bF (xX (xS (k+19)) 101 0 (k+19) false) (a7 (xS (k+19)).P Tryz.f101) wq) [.ro (List.map ak v0),.lit (.int .i64 v1),uu,.ptr 0 0 0 0,.ptr 1 0 0 0,uu,uu,.ro (List.map ak v0),.lit (.bool s109),.ro (List.map ak v0),.fn (Fn.func (148:FuncId)) [] [.ptr 2 0 0 0],uu,uu,uu,uu,uu,uu] (3)))=ob (o0 sc) fun r=>some ((.lit (.int .i64 r)),[])):∀ (n:Nat) (sW:List Int) (sB sb s128:Int) ⦃sK:Int⦄ ⦃sA s129:Bool⦄ ⦃j120:V⦄,rt none (bq (itX (xX (xS (k+18)) 148 0 (k+18) false) Bg (6) (bF (xX (xS (k+18)) 148 0 (k+18) false) (oM (xX (xS (k+18)) 148 0 (k+18) false) mV 4 (bF (xX (xS (k+18)) 148 0 (k+18) false) (a7 (xS (k+18)).P Tryz.f148) od) n108) Be) n ⟨[.yld 3,.ptr 2 0 0 0,uu,.lit (.int .i64 s128),.ptr 5 0 0 0,uu,j120,.ro (List.map ak v0),.lit (.int .i64 (↑v0.length:Int)),.lit (.int .i64 s128),.lit (.bool s129),.lit (.int .i64 s128),.rp [.lit (.int .i64 sK),.ro (List.map (av IntKind.i64) sW)],.agg [.lit (.int .i64 sK),.ro (List.map (av IntKind.i64) sW)],.ptr 5 0 0 1,.ro (List.map (av IntKind.i64) sW),.lit (.int .i64 sB),.lit (.int .i64 sb),.junk,.junk,.junk,.junk,.junk,.junk,.junk,.junk,.junk,.junk],[.box [.lit (.int .i64 v1)],.box [.lit (.int .i64 (0:Int))],.box [.ro (List.map ak v0)],(.loop ⟨LoopState.ready,none,101,[.ro (List.map ak v0),.lit (.int .i64 v1),uu,.ptr 0 0 0 0,.ptr 1 0 0 0,uu,uu,.ro (List.map ak v0),.lit (.bool sA),.ro (List.map ak v0),.fn (Fn.func (148:FuncId)) [] [.ptr 2 0 0 0],uu,uu,uu,uu,uu,uu],[(11:Tmp),(12:Tmp)],Cg,BK⟩),.rows 0 [] 0 true,.box [.lit (.int .i64 sK),.ro (List.map (av IntKind.i64) sW)]]⟩) (rfK (bF (xX (xS (k+19)) 101 0 (k+19) false) (a7 (xS (k+19)).P Tryz.f101) wq) [.ro (List.map ak v0),.lit (.int .i64 v1),uu,.ptr 0 0 0 0,.ptr 1 0 0 0,uu,uu,.ro (List.map ak v0),.lit (.bool sA),.ro (List.map ak v0),.fn (Fn.func (148:FuncId)) [] [.ptr 2 0 0 0],uu,uu,uu,uu,uu,uu] (3)))=ob (co k v0 v1 o0 n sW sB sb s128) fun r=>some ((.lit (.int .i64 r)),[]):=by
 intro n
 induction n with
 | zero=>intros;rfl
 | succ n ih=>
  intro sW sB sb s128 sK sA s129 j120
  rw [co]
  simp -implicitDefEqProofs only [Ol,M8,aD (g:=100),acD,Ym,aai,IM,gI,gE,rO,wb,NW,NI,M0,wF,wM,iV,i9,↓syI,↓syP,syA,syD,simprocAttr,syE,af,ae,aa,syW,xQ,bX,QM,ih,ho0]
def bE (k:Nat) (v0:Tyt) (v1:Int)  : Nat→Int→Option Int
 | 0,_=>none
 | n+1,sc=>
 bif decide (sc<(↑v0.length:Int)) then
 ob (idx v0 sc) fun x135=>
 co k v0 v1 (fun sc=>bE k v0 v1  n sc) (k+18) (x135.2) ((↑x135.2.length:Int)) ((0:Int)) (sc)
 else
 some ((-1:Int))
theorem oR (k:Nat) (v0:Tyt) (v1:Int):∀ (n:Nat) (sc:Int) ⦃s109:Bool⦄ ⦃j122 j123 j130:V⦄,rt none (bq (itX (xX (xS (k+18)) 148 0 (k+18) false) mV (4) (bF (xX (xS (k+18)) 148 0 (k+18) false) (a7 (xS (k+18)).P Tryz.f148) od) n ⟨[.yld 3,.ptr 2 0 0 0,uu,j122,j123,uu,j130,.ro (List.map ak v0),.lit (.int .i64 (↑v0.length:Int)),.lit (.int .i64 sc),.junk,.junk,.junk,.junk,.junk,.junk,.junk,.junk,.junk,.junk,.junk,.junk,.junk,.junk,.junk,.junk,.junk,.junk],[.box [.lit (.int .i64 v1)],.box [.lit (.int .i64 (0:Int))],.box [.ro (List.map ak v0)],(.loop ⟨LoopState.ready,none,101,[.ro (List.map ak v0),.lit (.int .i64 v1),uu,.ptr 0 0 0 0,.ptr 1 0 0 0,uu,uu,.ro (List.map ak v0),.lit (.bool s109),.ro (List.map ak v0),.fn (Fn.func (148:FuncId)) [] [.ptr 2 0 0 0],uu,uu,uu,uu,uu,uu],[(11:Tmp),(12:Tmp)],Cg,BK⟩)]⟩) (rfK (bF (xX (xS (k+19)) 101 0 (k+19) false) (a7 (xS (k+19)).P Tryz.f101) wq) [.ro (List.map ak v0),.lit (.int .i64 v1),uu,.ptr 0 0 0 0,.ptr 1 0 0 0,uu,uu,.ro (List.map ak v0),.lit (.bool s109),.ro (List.map ak v0),.fn (Fn.func (148:FuncId)) [] [.ptr 2 0 0 0],uu,uu,uu,uu,uu,uu] (3)))=ob (bE k v0 v1  n sc) fun r=>some ((.lit (.int .i64 r)),[]):=by
 intro n
 induction n with
 | zero=>intros;rfl
 | succ n ih=>
  intro sc s109 j122 j123 j130
  rw [bE]
  simp -implicitDefEqProofs only [Ol,M8,aD (g:=100),acD,Ym,aai,IM,gI,gE,rO,wb,NW,NI,M0,wF,wM,iV,i9,↓syI,↓syP,syA,syD,simprocAttr,syE,af,ae,aa,syW,xQ,bX,R9,ih,oX k v0 v1 _ (fun sc=>bE k v0 v1  n sc) ih]
def eo (k:Nat) (v0:Tyt) (v1:Int):Option Int:=
 ob (bW k v0) fun x138=>
 bif x138 then
 bE k v0 v1 (k+18) 0
 else
 some ((-1))
theorem oV (k:Nat) (v0:Tyt) (v1:Int):xC (k+20) none 101 [.ro (List.map ak v0),.lit (.int .i64 v1)]=ob (eo k v0 v1) fun r=>some ((.lit (.int .i64 r)),[]):=by
 rw [aD]
 unfold eo
 simp -implicitDefEqProofs only [Ol,M8,aD (g:=100),acD,Ym,aai,IM,gI,gE,rO,wb,NW,NI,M0,wF,wM,iV,i9,↓syI,↓syP,syA,syD,simprocAttr,syE,af,ae,aa,syW,xQ,bX,oR k v0 v1]
end Go.Ab
set_option maxRecDepth 100000
set_option linter.unusedVariables false
set_option linter.unusedSimpArgs false
namespace Go.Ab
open Go.Proofs
def fq (v0:Int) (v1:Int) (v2:Int):Option Bool:=
 bif decide (v1≤v0) then
 some (decide (v0≤v2))
 else
 some false
theorem nO (k:Nat) (v0 v1 v2:Int):xC (k+1) none 93 [.lit (.int .i64 v0),.lit (.int .i64 v1),.lit (.int .i64 v2)]=ob (fq v0 v1 v2) fun r=>some ((.lit (.bool r)),[]):=by
 rw [aD]
 unfold fq
 simp -implicitDefEqProofs only [aqd,aqn,ahy,MZ,↓syI,↓syP,syA,syD,simprocAttr,syE,af,ae,aa,syW,xQ]
def cg (v0:(Int×Int×Int×Int)):Option Bool:=
 ob (fq v0.1 1 8) fun x5=>
 bif x5 then
 ob (fq v0.2.1 1 16) fun x6=>
 bif x6 then
 bif AP IntKind.i64 v0.2.1 (IntKind.i64.wrap (v0.2.1 - 1))==0 then
 ob (fq v0.2.2.1 1 16) fun x7=>
 bif x7 then
 ob (fq v0.2.2.2 0 4) fun x8=>
 some x8
 else
 some false
 else
 some false
 else
 some false
 else
 some false
theorem cH (k:Nat) (v0_0 v0_1 v0_2 v0_3:Int):xC (k+2) none 50 [.agg [.lit (.int .i64 v0_0),.lit (.int .i64 v0_1),.lit (.int .i64 v0_2),.lit (.int .i64 v0_3)]]=ob (cg (v0_0,v0_1,v0_2,v0_3)) fun r=>some ((.lit (.bool r)),[]):=by
 rw [aD]
 unfold cg
 simp -implicitDefEqProofs only [aq1,apU,afB,afv,agV,agj,OA,↓syI,↓syP,syA,syD,simprocAttr,syE,af,ae,aa,syW,xQ,nO]
def f7 (v0:(Int×Int×Int×Int)) (v1:Int):Option Int:=
 some (IntKind.i64.wrap (IntKind.i64.wrap (6+IntKind.i64.wrap (2*v0.2.2.1))+IntKind.i64.wrap (v1*IntKind.i64.wrap (3+v0.2.1))))
theorem nh (k:Nat) (v0_0 v0_1 v0_2 v0_3 v1:Int):xC (k+1) none 72 [.agg [.lit (.int .i64 v0_0),.lit (.int .i64 v0_1),.lit (.int .i64 v0_2),.lit (.int .i64 v0_3)],.lit (.int .i64 v1)]=ob (f7 (v0_0,v0_1,v0_2,v0_3) v1) fun r=>some ((.lit (.int .i64 r)),[]):=by
 rw [aD]
 unfold f7
 simp -implicitDefEqProofs only [aqT,aqY,↓syI,↓syP,syA,syD,simprocAttr,syE,af,ae,aa,syW,xQ]
def ez (v0:(Int×Int×Int×Int)):Option Int:=
 ob (cg v0) fun x16=>
 bif !x16 then
 some 0
 else
 ob (f7 v0 v0.1) fun x17=>
 some x17
theorem kw (k:Nat) (v0_0 v0_1 v0_2 v0_3:Int):xC (k+3) none 103 [.agg [.lit (.int .i64 v0_0),.lit (.int .i64 v0_1),.lit (.int .i64 v0_2),.lit (.int .i64 v0_3)]]=ob (ez (v0_0,v0_1,v0_2,v0_3)) fun r=>some ((.lit (.int .i64 r)),[]):=by
 rw [aD]
 unfold ez
 simp -implicitDefEqProofs only [ajj,anI,↓syI,↓syP,syA,syD,simprocAttr,syE,af,ae,aa,syW,xQ,cH,nh]
def kO (v0:(List Int)) (v1:Int):Option Bool:=
 bif decide (0≤v1) then
 some (decide (v1<(↑v0.length:Int)))
 else
 some false
theorem uR (k:Nat) (v0:List Int) (v1:Int):xC (k+1) none 66 [.ro (List.map (av .u64) v0),.lit (.int .i64 v1)]=ob (kO v0 v1) fun r=>some ((.lit (.bool r)),[]):=by
 rw [aD]
 unfold kO
 simp -implicitDefEqProofs only [aqI,apW,aga,Oy,↓syI,↓syP,syA,syD,simprocAttr,syE,af,ae,aa,syW,xQ]
def aJ (v0:(List Int)) (v1:Int):Option Int:=
 ob (kO v0 v1) fun x22=>
 bif !x22 then
 some 0
 else
 ob (idx v0 v1) fun x23=>
 some x23
theorem dE (k:Nat) (v0:List Int) (v1:Int):xC (k+2) none 27 [.ro (List.map (av .u64) v0),.lit (.int .i64 v1)]=ob (aJ v0 v1) fun r=>some ((.lit (.int .u64 r)),[]):=by
 rw [aD]
 unfold aJ
 simp -implicitDefEqProofs only [ard,apZ,↓syI,↓syP,syA,syD,simprocAttr,syE,af,ae,aa,syW,xQ,uR]
def bB (v0:(List Int)) (v1:Int) (v2:Int):Option (List Int):=
 ob (aN 8 v0) fun xq=>
 ob (kO v0 v1) fun x32=>
 bif !x32 then
 some xq
 else
 ob (idx v0 v1) fun x33=>
 bif decide (0≤v1∧v1.toNat<xq.length) then
 ob (xq[v1.toNat]?) fun x34=>
 ob (idx v0 v1) fun x35=>
 some (xq.set v1.toNat v2)
 else
 none
theorem eF (k:Nat) (v0:List Int) (v1 v2:Int):xC (k+11) none 88 [.ro (List.map (av .u64) v0),.lit (.int .i64 v1),.lit (.int .u64 v2)]=ob (bB v0 v1 v2) fun r=>some ((.ro (List.map (av .u64) r)),[]):=by
 rw [aD]
 unfold bB
 simp -implicitDefEqProofs only [aqh,aq7,aaT,Z3,ana,am6,↓syI,↓syP,syA,syD,simprocAttr,syE,af,ae,aa,syW,xQ,uR]
def dI (v0:(List Int)) (v1:Int) (v2:Int):Option ((List Int)×Int):=
 ob (aN 8 v0) fun xr=>
 ob (kO v0 v1) fun xu=>
 bif !xu then
 some (xr,0)
 else
 ob (idx v0 v1) fun x48=>
 bif decide (0≤v1∧v1.toNat<xr.length) then
 ob (xr[v1.toNat]?) fun x49=>
 ob (idx v0 v1) fun x50=>
 some ((xr.set v1.toNat (IntKind.u64.wrap (x48+v2))),x50)
 else
 none
theorem Dx (k:Nat) (v0:List Int) (v1 v2:Int):xC (k+11) none 138 [.ro (List.map (av .u64) v0),.lit (.int .i64 v1),.lit (.int .u64 v2)]=ob (dI v0 v1 v2) fun r=>some ((.tup [.ro (List.map (av .u64) r.1),.lit (.int .u64 r.2)]),[]):=by
 rw [aD]
 unfold dI
 simp -implicitDefEqProofs only [akw,ajC,aaT,Z3,am1,akM,↓syI,↓syP,syA,syD,simprocAttr,syE,af,ae,aa,syW,xQ,uR]
def dJ (v0 : (List Int)) (v1 : Int) (v2 : Int) (v3 : Int) : Option ((List Int) × Bool) :=
 ob (aN 8 v0) fun xb =>
 ob (kO v0 v1) fun x64 =>
 bif !x64 then
 some (xb,false)
 else
 ob (idx v0 v1) fun xp =>
 bif xp != v2 then
 bif decide (0 ≤ v1 ∧ v1.toNat < xb.length) then
 ob (xb[v1.toNat]?) fun x66 =>
 ob (idx v0 v1) fun x67 =>
 some ((xb.set v1.toNat xp),false)
 else
 none
 else
 bif decide (0 ≤ v1 ∧ v1.toNat < xb.length) then
 ob (xb[v1.toNat]?) fun x68 =>
 ob (idx v0 v1) fun x69 =>
 some ((xb.set v1.toNat v3),true)
 else
 none
theorem lU (k:Nat) (v0:List Int) (v1 v2 v3:Int):xC (k+11) none 191 [.ro (List.map (av .u64) v0),.lit (.int .i64 v1),.lit (.int .u64 v2),.lit (.int .u64 v3)]=ob (dJ v0 v1 v2 v3) fun r=>some ((.tup [.ro (List.map (av .u64) r.1),.lit (.bool r.2)]),[]):=by
 rw [aD]
 unfold dJ
 simp -implicitDefEqProofs only [aaT,Z3,amn,alA,alC,akj,↓syI,↓syP,syA,syD,simprocAttr,syE,af,ae,aa,syW,xQ,uR]
def aK (v0:Int) (v1:Int) (v2:Int):Option (Int×Int×Int×Int×Int×Int×Int):=
 some (v0,0,v1,v2,0,0,0)
theorem oz (k:Nat) (v0 v1 v2:Int):xC (k+1) none 104 [.lit (.int .i64 v0),.lit (.int .i64 v1),.lit (.int .u64 v2)]=ob (aK v0 v1 v2) fun r=>some ((.agg [.lit (.int .i64 r.1),.lit (.int .i64 r.2.1),.lit (.int .i64 r.2.2.1),.lit (.int .u64 r.2.2.2.1),.lit (.int .u64 r.2.2.2.2.1),.lit (.int .u64 r.2.2.2.2.2.1),.lit (.int .i64 r.2.2.2.2.2.2)]),[]):=by
 rw [aD]
 unfold aK
 simp -implicitDefEqProofs only [aor,aiZ,↓syI,↓syP,syA,syD,simprocAttr,syE,af,ae,aa,syW,xQ]
def aM (v0:(Int×Int×Int×Int×Int×Int×Int)):Option Bool:=
 some (v0.2.2.2.2.2.2 !=0)
theorem fJ (k:Nat) (v0_0 v0_1 v0_2 v0_3 v0_4 v0_5 v0_6:Int):xC (k+1) none 110 [.agg [.lit (.int .i64 v0_0),.lit (.int .i64 v0_1),.lit (.int .i64 v0_2),.lit (.int .u64 v0_3),.lit (.int .u64 v0_4),.lit (.int .u64 v0_5),.lit (.int .i64 v0_6)]]=ob (aM (v0_0,v0_1,v0_2,v0_3,v0_4,v0_5,v0_6)) fun r=>some ((.lit (.bool r)),[]):=by
 rw [aD]
 unfold aM
 simp -implicitDefEqProofs only [aiH,anx,↓syI,↓syP,syA,syD,simprocAttr,syE,af,ae,aa,syW,xQ]
def aU (v0:(Int×Int×Int×Int×Int×Int×Int)) (v1:Int) (v2:Int):Option (Int×Int×Int×Int×Int×Int×Int):=
 some (v0.1,0,v0.2.2.1,v2,0,0,v1)
theorem gG (k:Nat) (v0_0 v0_1 v0_2 v0_3 v0_4 v0_5 v0_6 v1 v2:Int):xC (k+1) none 193 [.agg [.lit (.int .i64 v0_0),.lit (.int .i64 v0_1),.lit (.int .i64 v0_2),.lit (.int .u64 v0_3),.lit (.int .u64 v0_4),.lit (.int .u64 v0_5),.lit (.int .i64 v0_6)],.lit (.int .i64 v1),.lit (.int .u64 v2)]=ob (aU (v0_0,v0_1,v0_2,v0_3,v0_4,v0_5,v0_6) v1 v2) fun r=>some ((.agg [.lit (.int .i64 r.1),.lit (.int .i64 r.2.1),.lit (.int .i64 r.2.2.1),.lit (.int .u64 r.2.2.2.1),.lit (.int .u64 r.2.2.2.2.1),.lit (.int .u64 r.2.2.2.2.2.1),.lit (.int .i64 r.2.2.2.2.2.2)]),[]):=by
 rw [aD]
 unfold aU
 simp -implicitDefEqProofs only [aoi,ajZ,↓syI,↓syP,syA,syD,simprocAttr,syE,af,ae,aa,syW,xQ]
def m8 (v0:Int) (v1:Int):Option Int:=
 bif decide (v1<0) then
 some v0
 else
 bif decide (16≤v1) then
 some v0
 else
 bif decide (0≤v1) then
 some (orI IntKind.u64 v0 (Uy IntKind.u64 1 v1))
 else
 none
theorem NE (k:Nat) (v0 v1:Int):xC (k+1) none 214 [.lit (.int .u64 v0),.lit (.int .i64 v1)]=ob (m8 v0 v1) fun r=>some ((.lit (.int .u64 r)),[]):=by
 rw [aD]
 unfold m8
 simp -implicitDefEqProofs only [amt,anv,acW,Ka,↓syI,↓syP,syA,syD,simprocAttr,syE,af,ae,aa,syW,xQ]
def eG (v0:Int):Option Int:=
 some (XE IntKind.u64 v0 16)
theorem oQ (k:Nat) (v0:Int):xC (k+1) none 213 [.lit (.int .u64 v0)]=ob (eG v0) fun r=>some ((.lit (.int .u64 r)),[]):=by
 rw [aD]
 unfold eG
 simp -implicitDefEqProofs only [alI,alf,↓syI,↓syP,syA,syD,simprocAttr,syE,af,ae,aa,syW,xQ]
def fX (v0:(Int×Int×Int×Int)) (v1:Int):Option Int:=
 ob (cg v0) fun x80=>
 bif !x80 then
 some ((-1))
 else
 ob (fq v1 0 (IntKind.i64.wrap (v0.1 - 1))) fun x81=>
 bif !x81 then
 some ((-1))
 else
 ob (f7 v0 v1) fun x82=>
 some (IntKind.i64.wrap (x82+2))
theorem wK (k:Nat) (v0_0 v0_1 v0_2 v0_3 v1:Int):xC (k+12) none 32 [.agg [.lit (.int .i64 v0_0),.lit (.int .i64 v0_1),.lit (.int .i64 v0_2),.lit (.int .i64 v0_3)],.lit (.int .i64 v1)]=ob (fX (v0_0,v0_1,v0_2,v0_3) v1) fun r=>some ((.lit (.int .i64 r)),[]):=by
 rw [aD]
 unfold fX
 simp -implicitDefEqProofs only [apV,arf,ac1,ac0,Dw,lS,arc,aqq,↓syI,↓syP,syA,syD,simprocAttr,syE,af,ae,aa,syW,xQ,nO,cH,nh]
def dx (v0:Int):Option Int:=
 some (AP IntKind.u64 v0 65535)
theorem rA (k:Nat) (v0:Int):xC (k+1) none 192 [.lit (.int .u64 v0)]=ob (dx v0) fun r=>some ((.lit (.int .u64 r)),[]):=by
 rw [aD]
 unfold dx
 simp -implicitDefEqProofs only [ajm,alm,↓syI,↓syP,syA,syD,simprocAttr,syE,af,ae,aa,syW,xQ]
def kS (v0:(Int×Int×Int×Int)) (v1:Int):Option Int:=
 ob (cg v0) fun x89=>
 bif !x89 then
 some ((-1))
 else
 ob (fq v1 0 (IntKind.i64.wrap (v0.1 - 1))) fun x90=>
 bif !x90 then
 some ((-1))
 else
 ob (f7 v0 v1) fun x91=>
 some x91
theorem oP (k:Nat) (v0_0 v0_1 v0_2 v0_3 v1:Int):xC (k+12) none 107 [.agg [.lit (.int .i64 v0_0),.lit (.int .i64 v0_1),.lit (.int .i64 v0_2),.lit (.int .i64 v0_3)],.lit (.int .i64 v1)]=ob (kS (v0_0,v0_1,v0_2,v0_3) v1) fun r=>some ((.lit (.int .i64 r)),[]):=by
 rw [aD]
 unfold kS
 simp -implicitDefEqProofs only [ac1,ac0,Dw,lS,amC,ak1,ak3,akQ,↓syI,↓syP,syA,syD,simprocAttr,syE,af,ae,aa,syW,xQ,nO,cH,nh]
def dQ (v0:(Int×Int×Int×Int)) (v1:Int):Option Int:=
 ob (cg v0) fun x98=>
 bif !x98 then
 some ((-1))
 else
 ob (fq v1 0 (IntKind.i64.wrap (v0.1 - 1))) fun x99=>
 bif !x99 then
 some ((-1))
 else
 ob (f7 v0 v1) fun x100=>
 some (IntKind.i64.wrap (x100+1))
theorem kW (k:Nat) (v0_0 v0_1 v0_2 v0_3 v1:Int):xC (k+12) none 108 [.agg [.lit (.int .i64 v0_0),.lit (.int .i64 v0_1),.lit (.int .i64 v0_2),.lit (.int .i64 v0_3)],.lit (.int .i64 v1)]=ob (dQ (v0_0,v0_1,v0_2,v0_3) v1) fun r=>some ((.lit (.int .i64 r)),[]):=by
 rw [aD]
 unfold dQ
 simp -implicitDefEqProofs only [ac1,ac0,Dw,lS,anu,aj0,aoA,ans,↓syI,↓syP,syA,syD,simprocAttr,syE,af,ae,aa,syW,xQ,nO,cH,nh]
def gP (v0:(Int×Int×Int×Int)) (v1:Int) (v2:Int):Option Int:=
 ob (cg v0) fun x107=>
 bif !x107 then
 some ((-1))
 else
 ob (fq v1 0 (IntKind.i64.wrap (v0.1 - 1))) fun x108=>
 bif !x108 then
 some ((-1))
 else
 ob (f7 v0 v1) fun xV=>
 some (IntKind.i64.wrap (IntKind.i64.wrap (xV+3)+IntKind.i64.wrap (AP IntKind.u64 v2 (IntKind.u64.wrap (IntKind.i64.wrap (v0.2.1 - 1))))))
theorem wN (k:Nat) (v0_0 v0_1 v0_2 v0_3 v1 v2:Int):xC (k+12) none 109 [.agg [.lit (.int .i64 v0_0),.lit (.int .i64 v0_1),.lit (.int .i64 v0_2),.lit (.int .i64 v0_3)],.lit (.int .i64 v1),.lit (.int .u64 v2)]=ob (gP (v0_0,v0_1,v0_2,v0_3) v1 v2) fun r=>some ((.lit (.int .i64 r)),[]):=by
 rw [aD]
 unfold gP
 simp -implicitDefEqProofs only [ac1,ac0,Dw,lS,akE,am9,anc,ald,↓syI,↓syP,syA,syD,simprocAttr,syE,af,ae,aa,syW,xQ,nO,cH,nh]
def fU (v0:Int) (v1:Int):Option Int:=
 some (IntKind.i64.wrap (IntKind.u64.wrap (v0 - v1)))
theorem nm (k:Nat) (v0 v1:Int):xC (k+1) none 106 [.lit (.int .u64 v0),.lit (.int .u64 v1)]=ob (fU v0 v1) fun r=>some ((.lit (.int .i64 r)),[]):=by
 rw [aD]
 unfold fU
 simp -implicitDefEqProofs only [aov,anQ,↓syI,↓syP,syA,syD,simprocAttr,syE,af,ae,aa,syW,xQ]
def fL (k:Nat) (v0:(Int×Int×Int×Int))  : Nat→Int→List Int→Int→Nat→Option (List Int)
 | 0,_,_,_,_=>none
 | n+1,sB,sH,sL,sb=>
 bif decide (sL<sB) then
 ck (sb==1||sb==0) (
 bif room (sH++[(0:Int)]).length 8 then
 fL k v0  n (sB) (sH++[(0:Int)]) (IntKind.i64.wrap (sL+(1:Int))) (1)
 else
 none)
 else
 some (sH)
theorem pi (k:Nat) (v0_0 v0_1 v0_2 v0_3:Int):∀ (n:Nat) (sB:Int) (sH:List Int) (sL:Int) (sb:Nat) ⦃sE:Nat⦄,rt none (itX (xX (xS (k+3)) 59 0 (k+3) false) Mh (3) (bF (xX (xS (k+3)) 59 0 (k+3) false) (a7 (xS (k+3)).P Tryz.f59) K3) n ⟨[.agg [.lit (.int .i64 v0_0),.lit (.int .i64 v0_1),.lit (.int .i64 v0_2),.lit (.int .i64 v0_3)],.ptr 0 0 0 0,.own 1 0 0,.own 2 sE sH.length,.agg [.lit (.int .i64 v0_0),.lit (.int .i64 v0_1),.lit (.int .i64 v0_2),.lit (.int .i64 v0_3)],.lit (.int .i64 sB),.lit (.int .i64 sL),.junk,.junk,.junk,.junk,.junk,uu],[.box [.lit (.int .i64 v0_0),.lit (.int .i64 v0_1),.lit (.int .i64 v0_2),.lit (.int .i64 v0_3)],.rows 0 [] 0 true,.rows sb (List.map (av IntKind.u64) sH) sE true]⟩)=ob (fL k (v0_0,v0_1,v0_2,v0_3)  n sB sH sL sb) fun r=>some ((.ro (List.map (av .u64) r)),[]):=by
 intro n
 induction n with
 | zero=>intros;rfl
 | succ n ih=>
  intro sB sH sL sb sE
  rw [fL]
  simp -implicitDefEqProofs only [apz,ao1,apI,WO,DN,↓syI,↓syP,syA,syD,simprocAttr,syE,af,ae,aa,syW,xQ,kw,aft,ih]
def ng (k:Nat) (v0:(Int×Int×Int×Int)):Option (List Int):=
 ob (ez v0) fun x123=>
 fL k v0 (k+3) x123 ([]) 0 0
theorem uJ (k:Nat) (v0_0 v0_1 v0_2 v0_3:Int):xC (k+4) none 59 [.agg [.lit (.int .i64 v0_0),.lit (.int .i64 v0_1),.lit (.int .i64 v0_2),.lit (.int .i64 v0_3)]]=ob (ng k (v0_0,v0_1,v0_2,v0_3)) fun r=>some ((.ro (List.map (av .u64) r)),[]):=by
 rw [aD]
 unfold ng
 have hl0:=fun (x124:Int)=>pi k v0_0 v0_1 v0_2 v0_3 (k+3) (x124) ([]) ((0:Int)) (0)
 try simp -implicitDefEqProofs only [List.map_nil,List.length_nil] at hl0
 simp -implicitDefEqProofs only [apz,ao1,apI,WO,DN,↓syI,↓syP,syA,syD,simprocAttr,syE,af,ae,aa,syW,xQ,kw,pi k v0_0 v0_1 v0_2 v0_3,hl0]
def cM (v0:Int) (v1:Int):Option Bool:=
 bif decide (0≤v0) then
 some (decide (v0<v1))
 else
 some false
theorem kF (k:Nat) (v0 v1:Int):xC (k+1) none 81 [.lit (.int .i64 v0),.lit (.int .i64 v1)]=ob (cM v0 v1) fun r=>some ((.lit (.bool r)),[]):=by
 rw [aD]
 unfold cM
 simp -implicitDefEqProofs only [aqu,aqV,agZ,MO,↓syI,↓syP,syA,syD,simprocAttr,syE,af,ae,aa,syW,xQ]
def f4 (v0 : Int) (v1 : Int) (v2 : Int) : Option Int :=
 bif decide (v2 < 2) then
 some ((-1))
 else
 ob (cM v1 v2) fun x126 =>
 bif !x126 then
 some ((-1))
 else
 bif IntKind.u64.wrap (IntKind.u64.wrap v2 - 1) != 0 then
 bif IntKind.u64.wrap v2 != 0 then
 some (IntKind.i64.wrap ((IntKind.u64.wrap (IntKind.u64.wrap (IntKind.u64.wrap v1 + 1) + v0.tmod (IntKind.u64.wrap (IntKind.u64.wrap v2 - 1)))).tmod (IntKind.u64.wrap v2)))
 else
 none
 else
 none
theorem F2 (k:Nat) (v0 v1 v2:Int):xC (k+2) none 161 [.lit (.int .u64 v0),.lit (.int .i64 v1),.lit (.int .i64 v2)]=ob (f4 v0 v1 v2) fun r=>some ((.lit (.int .i64 r)),[]):=by
 rw [aD]
 unfold f4
 simp -implicitDefEqProofs only [amj,anh,ab9,JI,↓syI,↓syP,syA,syD,simprocAttr,syE,af,ae,aa,syW,xQ,kF]
def fK (v0:(Int×Int×Int×Int)) (v1:(List Int)) (v2:(Int×Int×Int×Int×Int×Int×Int)) (v3:Int) (v4:Int):Option Bool:=
 ob (cg v0) fun x132=>
 bif x132 then
 ob (ez v0) fun x133=>
 bif (↑v1.length:Int)==x133 then
 ob (aM v2) fun x134=>
 bif !x134 then
 bif decide (0≤v2.2.2.1) then
 bif decide (v2.2.2.1<v0.1) then
 bif v2.1==v3 then
 bif decide (0≤v2.2.1) then
 some (decide (v2.2.1<v4))
 else
 some false
 else
 some false
 else
 some false
 else
 some false
 else
 some false
 else
 some false
 else
 some false
theorem md (k:Nat) (v0_0 v0_1 v0_2 v0_3:Int) (v1:List Int) (v2_0 v2_1 v2_2 v2_3 v2_4 v2_5 v2_6 v3 v4:Int):xC (k+4) none 188 [.agg [.lit (.int .i64 v0_0),.lit (.int .i64 v0_1),.lit (.int .i64 v0_2),.lit (.int .i64 v0_3)],.ro (List.map (av .u64) v1),.agg [.lit (.int .i64 v2_0),.lit (.int .i64 v2_1),.lit (.int .i64 v2_2),.lit (.int .u64 v2_3),.lit (.int .u64 v2_4),.lit (.int .u64 v2_5),.lit (.int .i64 v2_6)],.lit (.int .i64 v3),.lit (.int .i64 v4)]=ob (fK (v0_0,v0_1,v0_2,v0_3) v1 (v2_0,v2_1,v2_2,v2_3,v2_4,v2_5,v2_6) v3 v4) fun r=>some ((.lit (.bool r)),[]):=by
 rw [aD]
 unfold fK
 simp -implicitDefEqProofs only [aom,aoE,Y8,YD,abF,Zs,abO,acA,Zb,JH,↓syI,↓syP,syA,syD,simprocAttr,syE,af,ae,aa,syW,xQ,cH,kw,fJ]
def mb (v0 : (Int × Int × Int × Int)) (v1 : (List Int)) (v2 : (Int × Int × Int × Int × Int × Int × Int)) : Option ((List Int) × (Int × Int × Int × Int × Int × Int × Int)) :=
 ob (aN 8 v1) fun xI =>
 ob (fK v0 v1 v2 5 5) fun xJ =>
 bif xJ then
 bif decide (0 ≤ v2.2.1 ∧ v2.2.1.toNat < 5) then
 bif v2.2.1.toNat == 0 then
 ob (aJ xI 2) fun xW =>
 some (xI,(v2.1,1,v2.2.2.1,v2.2.2.2.1,xW,v2.2.2.2.2.2))
 else
 bif v2.2.1.toNat == 1 then
 ob (aJ xI 2) fun xl =>
 ob (eG xl) fun xH =>
 ob (eG v2.2.2.2.2.1) fun xa =>
 bif xH != xa then
 ob (aU (v2.1,2,v2.2.2.1,v2.2.2.2.1,v2.2.2.2.2.1,xl,v2.2.2.2.2.2.2) 4 0) fun x158 =>
 some (xI,x158)
 else
 some (xI,(v2.1,2,v2.2.2.1,v2.2.2.2.1,v2.2.2.2.2.1,xl,v2.2.2.2.2.2.2))
 else
 bif v2.2.1.toNat == 2 then
 ob (m8 v2.2.2.2.2.2.1 v2.2.2.1) fun xy =>
 ob (dJ xI 2 v2.2.2.2.2.2.1 xy) fun xU =>
 bif xU.2 then
 some (xU.1,(v2.1,3,v2.2.2))
 else
 some (xU.1,(v2.1,1,v2.2.2))
 else
 bif v2.2.1.toNat == 3 then
 ob (fX v0 v2.2.2.1) fun xP =>
 ob (aJ xI xP) fun xc =>
 bif xc != 0 then
 some (xI,(v2.1,4,v2.2.2.1,v2.2.2.2.1,v2.2.2.2.2.1,xc,v2.2.2.2.2.2.2))
 else
 some (xI,(v2.1,v2.2.1,v2.2.2.1,v2.2.2.2.1,v2.2.2.2.2.1,xc,v2.2.2.2.2.2.2))
 else
 bif v2.2.1.toNat == 4 then
 ob (fX v0 v2.2.2.1) fun xK =>
 ob (bB xI xK 0) fun xD =>
 ob (aU v2 1 0) fun xL =>
 some (xD,xL)
 else
 none
 else
 none
 else
 some (xI,v2)
theorem Iy (k:Nat) (v0_0 v0_1 v0_2 v0_3:Int) (v1:List Int) (v2_0 v2_1 v2_2 v2_3 v2_4 v2_5 v2_6:Int):xC (k+14) none 165 [.agg [.lit (.int .i64 v0_0),.lit (.int .i64 v0_1),.lit (.int .i64 v0_2),.lit (.int .i64 v0_3)],.ro (List.map (av .u64) v1),.agg [.lit (.int .i64 v2_0),.lit (.int .i64 v2_1),.lit (.int .i64 v2_2),.lit (.int .u64 v2_3),.lit (.int .u64 v2_4),.lit (.int .u64 v2_5),.lit (.int .i64 v2_6)]]=ob (mb (v0_0,v0_1,v0_2,v0_3) v1 (v2_0,v2_1,v2_2,v2_3,v2_4,v2_5,v2_6)) fun r=>some ((.tup [.ro (List.map (av .u64) r.1),.agg [.lit (.int .i64 r.2.1),.lit (.int .i64 r.2.2.1),.lit (.int .i64 r.2.2.2.1),.lit (.int .u64 r.2.2.2.2.1),.lit (.int .u64 r.2.2.2.2.2.1),.lit (.int .u64 r.2.2.2.2.2.2.1),.lit (.int .i64 r.2.2.2.2.2.2.2)]]),[]):=by
 rw [aD]
 unfold mb
 simp -implicitDefEqProofs only [aoI,aj8,Z1,J1,anJ,alq,akl,amG,aoa,alw,akF,akG,amL,an1,↓syI,↓syP,syA,syD,simprocAttr,syE,af,ae,aa,syW,xQ,dE,eF,lU,gG,NE,oQ,wK,md]
end Go.Ab
set_option maxRecDepth 100000
set_option linter.unusedVariables false
set_option linter.unusedSimpArgs false
namespace Go.Ab
open Go.Proofs
def mu (v0:(Int×Int×Int×Int)) (v1:(List Int)) (v2:(Int×Int×Int×Int×Int×Int×Int)):Option Bool:=
 bif v2.1==6 then
 ob (cg v0) fun x8=>
 bif x8 then
 ob (ez v0) fun x9=>
 bif (↑v1.length:Int)==x9 then
 ob (aM v2) fun x10=>
 bif !x10 then
 bif decide (0≤v2.2.1) then
 some (decide (v2.2.1≤2))
 else
 some false
 else
 some false
 else
 some false
 else
 some false
 else
 bif v2.1==7 then
 ob (cg v0) fun x11=>
 bif x11 then
 ob (ez v0) fun x12=>
 bif (↑v1.length:Int)==x12 then
 ob (aM v2) fun x13=>
 bif !x13 then
 bif decide (0≤v2.2.1) then
 some (decide (v2.2.1≤2))
 else
 some false
 else
 some false
 else
 some false
 else
 some false
 else
 some false
theorem Jm (k:Nat) (v0_0 v0_1 v0_2 v0_3:Int) (v1:List Int) (v2_0 v2_1 v2_2 v2_3 v2_4 v2_5 v2_6:Int):xC (k+15) none 189 [.agg [.lit (.int .i64 v0_0),.lit (.int .i64 v0_1),.lit (.int .i64 v0_2),.lit (.int .i64 v0_3)],.ro (List.map (av .u64) v1),.agg [.lit (.int .i64 v2_0),.lit (.int .i64 v2_1),.lit (.int .i64 v2_2),.lit (.int .u64 v2_3),.lit (.int .u64 v2_4),.lit (.int .u64 v2_5),.lit (.int .i64 v2_6)]]=ob (mu (v0_0,v0_1,v0_2,v0_3) v1 (v2_0,v2_1,v2_2,v2_3,v2_4,v2_5,v2_6)) fun r=>some ((.lit (.bool r)),[]):=by
 rw [aD]
 unfold mu
 simp -implicitDefEqProofs only [ai6,alk,abE,acS,ZW,abw,aaL,IX,afb,adG,aD (g:=190),Zu,Zk,aca,aaj,↓syI,↓syP,syA,syD,simprocAttr,syE,af,ae,aa,syW,xQ,cH,kw,fJ]
def iW (v0:Int) (v1:Int):Option Int:=
 some (orI IntKind.u64 (Uy IntKind.u64 v0 16) (AP IntKind.u64 v1 65535))
theorem Bo (k:Nat) (v0 v1:Int):xC (k+1) none 233 [.lit (.int .u64 v0),.lit (.int .u64 v1)]=ob (iW v0 v1) fun r=>some ((.lit (.int .u64 r)),[]):=by
 rw [aD]
 unfold iW
 simp -implicitDefEqProofs only [aiK,alv,↓syI,↓syP,syA,syD,simprocAttr,syE,af,ae,aa,syW,xQ]
def cT (k:Nat) (v0:Int)  : Nat→Int→Option Int
 | 0,_=>none
 | n+1,sT=>
 bif decide (sT<(16:Int)) then
 bif decide ((0:Int)≤sT) then
 bif AP IntKind.u64 (XE IntKind.u64 v0 sT) (1:Int)==(1:Int) then
 some (sT)
 else
 cT k v0  n (IntKind.i64.wrap (sT+(1:Int)))
 else
 none
 else
 some ((-1:Int))
theorem rH (k:Nat) (v0:Int):∀ (n:Nat) (sT:Int) ⦃j26:V⦄,rt none (bq (itX (xX (xS (k+9)) 234 0 (k+9) false) Cm (3) (bF (xX (xS (k+9)) 234 0 (k+9) false) (a7 (xS (k+9)).P Tryz.f234) Fs) n ⟨[.yld 2,.ptr 1 0 0 0,uu,j26,.lit (.int .i64 sT),.junk,.junk,.junk,.junk,.junk,.junk,.junk,.junk,.junk,.junk,.junk,.junk,.junk,.junk],[.box [.lit (.int .i64 (0:Int))],.box [.lit (.int .u64 v0)],(.loop ⟨LoopState.ready,none,195,[.lit (.int .u64 v0),uu,.ptr 0 0 0 0,uu,.lit (.int .u64 v0),.fn (Fn.func (234:FuncId)) [] [.ptr 1 0 0 0],uu,uu],[(6:Tmp)],JJ,Jk⟩)]⟩) (rfK (bF (xX (xS (k+10)) 195 0 (k+10) false) (a7 (xS (k+10)).P Tryz.f195) FU) [.lit (.int .u64 v0),uu,.ptr 0 0 0 0,uu,.lit (.int .u64 v0),.fn (Fn.func (234:FuncId)) [] [.ptr 1 0 0 0],uu,uu] (2)))=ob (cT k v0  n sT) fun r=>some ((.lit (.int .i64 r)),[]):=by
 intro n
 induction n with
 | zero=>intros;rfl
 | succ n ih=>
  intro sT j26
  rw [cT]
  simp -implicitDefEqProofs only [ae6,aeT,afh,PQ,oW,pd,CO,Dv,afd,afD,aD (g:=220),afj,afl,agJ,Ru,Sa,CH,Cy,↓syI,↓syP,syA,syD,simprocAttr,syE,af,ae,aa,syW,xQ,XO,ih]
def iO (k:Nat) (v0:Int):Option Int:=
 cT k v0 (k+9) 0
theorem uY (k:Nat) (v0:Int):xC (k+11) none 195 [.lit (.int .u64 v0)]=ob (iO k v0) fun r=>some ((.lit (.int .i64 r)),[]):=by
 rw [aD]
 unfold iO
 simp -implicitDefEqProofs only [ae6,aeT,afh,PQ,oW,pd,CO,Dv,afd,afD,aD (g:=220),afj,afl,agJ,Ru,Sa,CH,Cy,↓syI,↓syP,syA,syD,simprocAttr,syE,af,ae,aa,syW,xQ,rH k v0]
def mo (k:Nat) (v0:Int):Option (Int×Int):=
 ob (dx v0) fun x32=>
 ob (eG v0) fun x33=>
 ob (iW (IntKind.u64.wrap (x33+1)) (AP IntKind.u64 x32 (IntKind.u64.wrap (x32 - 1)))) fun x34=>
 ob (iO k x32) fun x35=>
 some (x34,x35)
theorem Je (k:Nat) (v0:Int):xC (k+12) none 216 [.lit (.int .u64 v0)]=ob (mo k v0) fun r=>some ((.tup [.lit (.int .u64 r.1),.lit (.int .i64 r.2)]),[]):=by
 rw [aD]
 unfold mo
 simp -implicitDefEqProofs only [aox,amJ,↓syI,↓syP,syA,syD,simprocAttr,syE,af,ae,aa,syW,xQ,oQ,rA,Bo,uY]
def gk (k:Nat) (v0:Int):Option (Int×Int):=
 ob (mo k v0) fun xm=>
 some (xm.1,(IntKind.u64.wrap (bif decide (xm.2<0) then 0 else xm.2)))
theorem Dh (k:Nat) (v0:Int):xC (k+13) none 215 [.lit (.int .u64 v0)]=ob (gk k v0) fun r=>some ((.tup [.lit (.int .u64 r.1),.lit (.int .u64 r.2)]),[]):=by
 rw [aD]
 unfold gk
 simp -implicitDefEqProofs only [Zu,Zk,↓syI,↓syP,syA,syD,simprocAttr,syE,af,ae,aa,syW,xQ,Je]
def mn (v0:Int):Option Int:=
 ob (eG v0) fun xv=>
 ob (iW (IntKind.u64.wrap (xv+1)) 0) fun xr=>
 some xr
theorem Iw (k:Nat) (v0:Int):xC (k+2) none 218 [.lit (.int .u64 v0)]=ob (mn v0) fun r=>some ((.lit (.int .u64 r)),[]):=by
 rw [aD]
 unfold mn
 simp -implicitDefEqProofs only [aiW,amZ,↓syI,↓syP,syA,syD,simprocAttr,syE,af,ae,aa,syW,xQ,oQ,Bo]
def gm (v0:Int):Option (Int×Int):=
 ob (mn v0) fun x51=>
 ob (dx v0) fun x52=>
 some (x51,x52)
theorem C2 (k:Nat) (v0:Int):xC (k+3) none 217 [.lit (.int .u64 v0)]=ob (gm v0) fun r=>some ((.tup [.lit (.int .u64 r.1),.lit (.int .u64 r.2)]),[]):=by
 rw [aD]
 unfold gm
 simp -implicitDefEqProofs only [aca,aaj,↓syI,↓syP,syA,syD,simprocAttr,syE,af,ae,aa,syW,xQ,rA,Iw]
def fl (k:Nat) (v0:(Int×Int×Int×Int)) (v1:(List Int)) (v2:(List Int))  : Nat→List Int→Int→Option (List Int)
 | 0,_,_=>none
 | n+1,s59,sv=>
 bif decide (sv<(↑v2.length:Int)) then
 ob (idx v2 sv) fun x68=>
 ob (fX (v0.1,v0.2.1,v0.2.2.1,v0.2.2.2) x68) fun x69=>
 ob (bB s59 x69 (1:Int)) fun x70=>
 fl k v0 v1 v2  n (x70) (IntKind.i64.wrap (sv+(1:Int)))
 else
 some (s59)
theorem wn (k:Nat) (v0_0 v0_1 v0_2 v0_3:Int) (v1 v2:List Int):∀ (n:Nat) (s59:List Int) (sv:Int) ⦃j60:V⦄,rt none (itX (xX (xS (k+12)) 194 0 (k+12) false) F6 (2) (bF (xX (xS (k+12)) 194 0 (k+12) false) (a7 (xS (k+12)).P Tryz.f194) F0) n ⟨[.agg [.lit (.int .i64 v0_0),.lit (.int .i64 v0_1),.lit (.int .i64 v0_2),.lit (.int .i64 v0_3)],.ro (List.map (av IntKind.u64) s59),.ro (List.map (av IntKind.i64) v2),.ptr 0 0 0 0,uu,uu,.own 1 0 0,uu,j60,.ro (List.map (av IntKind.i64) v2),.lit (.int .i64 (↑v2.length:Int)),.lit (.int .i64 sv),.junk,.junk,.junk,.junk,.junk,.junk,.junk,.junk,.junk,uu],[.box [.lit (.int .i64 v0_0),.lit (.int .i64 v0_1),.lit (.int .i64 v0_2),.lit (.int .i64 v0_3)],.rows 0 [] 0 true]⟩)=ob (fl k (v0_0,v0_1,v0_2,v0_3) v1 v2  n s59 sv) fun r=>some ((.ro (List.map (av .u64) r)),[]):=by
 intro n
 induction n with
 | zero=>intros;rfl
 | succ n ih=>
  intro s59 sv j60
  rw [fl]
  simp -implicitDefEqProofs only [ahi,ag9,ac7,Sc,CQ,↓syI,↓syP,syA,syD,simprocAttr,syE,af,ae,aa,syW,xQ,eF,wK,Z5,ih]
def gB (k:Nat) (v0:(Int×Int×Int×Int)) (v1:(List Int)) (v2:(List Int)):Option (List Int):=
 fl k v0 v1 v2 (k+12) v1 0
theorem JQ (k:Nat) (v0_0 v0_1 v0_2 v0_3:Int) (v1 v2:List Int):xC (k+13) none 194 [.agg [.lit (.int .i64 v0_0),.lit (.int .i64 v0_1),.lit (.int .i64 v0_2),.lit (.int .i64 v0_3)],.ro (List.map (av .u64) v1),.ro (List.map (av .i64) v2)]=ob (gB k (v0_0,v0_1,v0_2,v0_3) v1 v2) fun r=>some ((.ro (List.map (av .u64) r)),[]):=by
 rw [aD]
 unfold gB
 simp -implicitDefEqProofs only [ahi,ag9,ac7,Sc,CQ,↓syI,↓syP,syA,syD,simprocAttr,syE,af,ae,aa,syW,xQ,wn k v0_0 v0_1 v0_2 v0_3 v1 v2]
def kj (k:Nat) (v0:(Int×Int×Int×Int)) (v1:(List Int)) (v2:(Int×Int×Int×Int×Int×Int×Int)):Option ((List Int)×(Int×Int×Int×Int×Int×Int×Int)):=
 ob (aN 8 v1) fun x93=>
 ob (mu v0 v1 v2) fun x94=>
 bif !x94 then
 some (x93,v2)
 else
 bif v2.2.1==0 then
 ob (aJ x93 2) fun x95=>
 some (x93,(v2.1,1,v2.2.2.1,v2.2.2.2.1,x95,v2.2.2.2.2.2))
 else
 bif v2.2.1==1 then
 bif v2.1==6 then
 ob (gk (k+2) v2.2.2.2.2.1) fun x96=>
 ob (dJ x93 2 v2.2.2.2.2.1 x96.1) fun x97=>
 bif !x97.2 then
 some (x97.1,(v2.1,0,v2.2.2))
 else
 ob (dx v2.2.2.2.2.1) fun x98=>
 bif x98==0 then
 ob (aU (v2.1,0,v2.2.2) 3 0) fun x99=>
 some (x97.1,x99)
 else
 some (x97.1,(v2.1,2,v2.2.2.1,v2.2.2.2.1,v2.2.2.2.2.1,x96.2,v2.2.2.2.2.2.2))
 else
 bif v2.1==7 then
 ob (gm v2.2.2.2.2.1) fun x100=>
 ob (dJ x93 2 v2.2.2.2.2.1 x100.1) fun x101=>
 bif !x101.2 then
 some (x101.1,(v2.1,0,v2.2.2))
 else
 ob (dx v2.2.2.2.2.1) fun x102=>
 bif x102==0 then
 ob (aU (v2.1,0,v2.2.2) 3 0) fun x103=>
 some (x101.1,x103)
 else
 some (x101.1,(v2.1,2,v2.2.2.1,v2.2.2.2.1,v2.2.2.2.2.1,x100.2,v2.2.2.2.2.2.2))
 else
 none
 else
 bif v2.1==6 then
 bif decide (v2.2.2.2.2.2.1<8) then
 ob (gB (k+2) v0 x93 [IntKind.i64.wrap v2.2.2.2.2.2.1]) fun x104=>
 ob (aU v2 1 v2.2.2.2.2.2.1) fun x105=>
 some (x104,x105)
 else
 ob (gB (k+2) v0 x93 [(-1)]) fun x106=>
 ob (aU v2 1 v2.2.2.2.2.2.1) fun x107=>
 some (x106,x107)
 else
 ob (iO (k+4) v2.2.2.2.2.2.1) fun x108=>
 ob (gB (k+2) v0 x93 [x108]) fun xV=>
 ob (dx v2.2.2.2.2.2.1) fun xn=>
 bif AP IntKind.u64 xn (IntKind.u64.wrap (xn - 1))==0 then
 ob (dx v2.2.2.2.2.1) fun x111=>
 ob (aU (v2.1,v2.2.1,v2.2.2.1,v2.2.2.2.1,v2.2.2.2.2.1,xn,v2.2.2.2.2.2.2) 1 x111) fun x112=>
 some (xV,x112)
 else
 bif xn==0 then
 ob (dx v2.2.2.2.2.1) fun x113=>
 ob (aU (v2.1,v2.2.1,v2.2.2.1,v2.2.2.2.1,v2.2.2.2.2.1,xn,v2.2.2.2.2.2.2) 1 x113) fun x114=>
 some (xV,x114)
 else
 some (xV,(v2.1,v2.2.1,v2.2.2.1,v2.2.2.2.1,v2.2.2.2.2.1,(AP IntKind.u64 xn (IntKind.u64.wrap (xn - 1))),v2.2.2.2.2.2.2))
theorem Ks (k:Nat) (v0_0 v0_1 v0_2 v0_3:Int) (v1:List Int) (v2_0 v2_1 v2_2 v2_3 v2_4 v2_5 v2_6:Int):xC (k+16) none 166 [.agg [.lit (.int .i64 v0_0),.lit (.int .i64 v0_1),.lit (.int .i64 v0_2),.lit (.int .i64 v0_3)],.ro (List.map (av .u64) v1),.agg [.lit (.int .i64 v2_0),.lit (.int .i64 v2_1),.lit (.int .i64 v2_2),.lit (.int .u64 v2_3),.lit (.int .u64 v2_4),.lit (.int .u64 v2_5),.lit (.int .i64 v2_6)]]=ob (kj k (v0_0,v0_1,v0_2,v0_3) v1 (v2_0,v2_1,v2_2,v2_3,v2_4,v2_5,v2_6)) fun r=>some ((.tup [.ro (List.map (av .u64) r.1),.agg [.lit (.int .i64 r.2.1),.lit (.int .i64 r.2.2.1),.lit (.int .i64 r.2.2.2.1),.lit (.int .u64 r.2.2.2.2.1),.lit (.int .u64 r.2.2.2.2.2.1),.lit (.int .u64 r.2.2.2.2.2.2.1),.lit (.int .i64 r.2.2.2.2.2.2.2)]]),[]):=by
 rw [aD]
 unfold kj
 simp -implicitDefEqProofs only [ane,aj9,acV,Zc,Yn,Km,IZ,JX,afb,adG,aD (g:=190),Zu,Zk,aca,aaj,↓syI,↓syP,syA,syD,simprocAttr,syE,af,ae,aa,syW,xQ,dE,lU,gG,rA,Jm,uY,Dh,C2,JQ]
end Go.Ab
set_option maxRecDepth 100000
set_option linter.unusedVariables false
set_option linter.unusedSimpArgs false
namespace Go.Ab
open Go.Proofs
def my (v0:(Int×Int×Int×Int)) (v1:(List Int)) (v2:(Int×Int×Int×Int×Int×Int×Int)):Option ((List Int)×(Int×Int×Int×Int×Int×Int×Int)):=
 ob (aN 8 v1) fun x14=>
 ob (fK v0 v1 v2 0 4) fun x15=>
 bif x15 then
 bif v2.2.1==0 then
 ob (dQ v0 v2.2.2.1) fun x16=>
 ob (aJ x14 x16) fun x17=>
 some (x14,(v2.1,1,v2.2.2.1,v2.2.2.2.1,x17,v2.2.2.2.2.2))
 else
 bif v2.2.1==1 then
 ob (kS v0 v2.2.2.1) fun x18=>
 ob (aJ x14 x18) fun x19=>
 bif decide (IntKind.u64.wrap v0.2.1≤IntKind.u64.wrap (v2.2.2.2.2.1 - x19)) then
 ob (aU (v2.1,2,v2.2.2.1,v2.2.2.2.1,v2.2.2.2.2.1,x19,v2.2.2.2.2.2.2) 2 v2.2.2.2.1) fun x20=>
 some (x14,x20)
 else
 some (x14,(v2.1,2,v2.2.2.1,v2.2.2.2.1,v2.2.2.2.2.1,x19,v2.2.2.2.2.2.2))
 else
 bif v2.2.1==2 then
 ob (gP v0 v2.2.2.1 v2.2.2.2.2.1) fun x21=>
 ob (bB x14 x21 v2.2.2.2.1) fun x22=>
 some (x22,(v2.1,3,v2.2.2))
 else
 bif v2.2.1==3 then
 ob (dQ v0 v2.2.2.1) fun x23=>
 ob (bB x14 x23 (IntKind.u64.wrap (v2.2.2.2.2.1+1))) fun x24=>
 ob (aU v2 1 v2.2.2.2.1) fun x25=>
 some (x24,x25)
 else
 none
 else
 some (x14,v2)
theorem Kp (k:Nat) (v0_0 v0_1 v0_2 v0_3:Int) (v1:List Int) (v2_0 v2_1 v2_2 v2_3 v2_4 v2_5 v2_6:Int):xC (k+24) none 207 [.agg [.lit (.int .i64 v0_0),.lit (.int .i64 v0_1),.lit (.int .i64 v0_2),.lit (.int .i64 v0_3)],.ro (List.map (av .u64) v1),.agg [.lit (.int .i64 v2_0),.lit (.int .i64 v2_1),.lit (.int .i64 v2_2),.lit (.int .u64 v2_3),.lit (.int .u64 v2_4),.lit (.int .u64 v2_5),.lit (.int .i64 v2_6)]]=ob (my (v0_0,v0_1,v0_2,v0_3) v1 (v2_0,v2_1,v2_2,v2_3,v2_4,v2_5,v2_6)) fun r=>some ((.tup [.ro (List.map (av .u64) r.1),.agg [.lit (.int .i64 r.2.1),.lit (.int .i64 r.2.2.1),.lit (.int .i64 r.2.2.2.1),.lit (.int .u64 r.2.2.2.2.1),.lit (.int .u64 r.2.2.2.2.2.1),.lit (.int .u64 r.2.2.2.2.2.2.1),.lit (.int .i64 r.2.2.2.2.2.2.2)]]),[]):=by
 rw [aD]
 unfold my
 simp -implicitDefEqProofs only [ajJ,ajb,aaP,JW,ajH,aok,aly,amS,anp,aml,ajo,aj7,↓syI,↓syP,syA,syD,simprocAttr,syE,af,ae,aa,syW,xQ,dE,eF,gG,oP,kW,wN,md]
def nu (v0:(Int×Int×Int×Int)) (v1:(List Int)) (v2:(Int×Int×Int×Int×Int×Int×Int)):Option ((List Int)×(Int×Int×Int×Int×Int×Int×Int)):=
 ob (aN 8 v1) fun xg=>
 ob (fK v0 v1 v2 1 7) fun x55=>
 bif !x55 then
 some (xg,v2)
 else
 ob (kS v0 v2.2.2.1) fun x56=>
 ob (dQ v0 v2.2.2.1) fun x57=>
 bif v2.2.1==0 then
 ob (aJ xg x57) fun x58=>
 some (xg,(v2.1,(IntKind.i64.wrap (v2.2.1+1)),v2.2.2.1,v2.2.2.2.1,(IntKind.u64.wrap (x58 - 1)),v2.2.2.2.2.2))
 else
 bif v2.2.1==1 then
 ob (bB xg x57 v2.2.2.2.2.1) fun xZ=>
 some (xZ,(v2.1,(IntKind.i64.wrap (v2.2.1+1)),v2.2.2))
 else
 bif v2.2.1==2 then
 ob (aJ xg x56) fun x60=>
 ob (fU v2.2.2.2.2.1 x60) fun xw=>
 bif decide (xw<0) then
 some (xg,(v2.1,6,v2.2.2.1,v2.2.2.2.1,v2.2.2.2.2.1,x60,v2.2.2.2.2.2.2))
 else
 some (xg,(v2.1,(IntKind.i64.wrap (v2.2.1+1)),v2.2.2.1,v2.2.2.2.1,v2.2.2.2.2.1,x60,v2.2.2.2.2.2.2))
 else
 bif v2.2.1==3 then
 ob (gP v0 v2.2.2.1 v2.2.2.2.2.1) fun xe=>
 ob (aJ xg xe) fun xb=>
 bif v2.2.2.2.2.1 !=v2.2.2.2.2.2.1 then
 ob (aU (v2.1,v2.2.1,v2.2.2.1,xb,v2.2.2.2.2) 1 xb) fun x64=>
 some (xg,x64)
 else
 some (xg,(v2.1,(IntKind.i64.wrap (v2.2.1+1)),v2.2.2.1,xb,v2.2.2.2.2))
 else
 bif v2.2.1==4 then
 ob (dJ xg x56 v2.2.2.2.2.2.1 (IntKind.u64.wrap (v2.2.2.2.2.2.1+1))) fun xp=>
 bif !xp.2 then
 some (xp.1,(v2.1,6,v2.2.2))
 else
 some (xp.1,(v2.1,(IntKind.i64.wrap (v2.2.1+1)),v2.2.2))
 else
 bif v2.2.1==5 then
 ob (bB xg x57 (IntKind.u64.wrap (v2.2.2.2.2.1+1))) fun x66=>
 ob (aU v2 1 v2.2.2.2.1) fun x67=>
 some (x66,x67)
 else
 ob (bB xg x57 (IntKind.u64.wrap (v2.2.2.2.2.1+1))) fun x68=>
 ob (aU v2 3 0) fun x69=>
 some (x68,x69)
theorem MN (k:Nat) (v0_0 v0_1 v0_2 v0_3:Int) (v1:List Int) (v2_0 v2_1 v2_2 v2_3 v2_4 v2_5 v2_6:Int):xC (k+24) none 208 [.agg [.lit (.int .i64 v0_0),.lit (.int .i64 v0_1),.lit (.int .i64 v0_2),.lit (.int .i64 v0_3)],.ro (List.map (av .u64) v1),.agg [.lit (.int .i64 v2_0),.lit (.int .i64 v2_1),.lit (.int .i64 v2_2),.lit (.int .u64 v2_3),.lit (.int .u64 v2_4),.lit (.int .u64 v2_5),.lit (.int .i64 v2_6)]]=ob (nu (v0_0,v0_1,v0_2,v0_3) v1 (v2_0,v2_1,v2_2,v2_3,v2_4,v2_5,v2_6)) fun r=>some ((.tup [.ro (List.map (av .u64) r.1),.agg [.lit (.int .i64 r.2.1),.lit (.int .i64 r.2.2.1),.lit (.int .i64 r.2.2.2.1),.lit (.int .u64 r.2.2.2.2.1),.lit (.int .u64 r.2.2.2.2.2.1),.lit (.int .u64 r.2.2.2.2.2.2.1),.lit (.int .i64 r.2.2.2.2.2.2.2)]]),[]):=by
 rw [aD]
 unfold nu
 simp -implicitDefEqProofs only [akC,al1,aj5,aiA,↓syI,↓syP,syA,syD,simprocAttr,syE,af,ae,aa,syW,xQ,dE,eF,lU,gG,oP,kW,wN,nm,md]
def an (k : Nat) (v0 : (Int × Int × Int × Int)) (v1 : (List Int)) (v2 : (Int × Int × Int × Int × Int × Int × Int))  : Nat → List Int → Int → Int → Int → Option ((List Int) × (Int × Int × Int × Int × Int × Int × Int))
 | 0,_,_,_,_ => none
 | n + 1,sN,sw,s95,sE =>
 bif decide (sE < (4 : Int)) then
 bif decide ((0 : Int) ≤ sE ∧ sE.toNat < (4 : Nat)) then
 bif sE.toNat == (0 : Nat) then
 bif sE != v2.2.1 then
 an k v0 v1 v2  n (sN) (sw) (s95) (IntKind.i64.wrap (sE + (1 : Int)))
 else
 ob (aJ sN sw) fun xI =>
 ob (aM (v2.1,v2.2.1,v2.2.2.1,v2.2.2.2.1,v2.2.2.2.2.1,xI,v2.2.2.2.2.2.2)) fun xJ =>
 bif !xJ then
 some ((sN),((v2.1),(IntKind.i64.wrap (v2.2.1 + (1 : Int))),(v2.2.2.1),(v2.2.2.2.1),(v2.2.2.2.2.1),(xI),(v2.2.2.2.2.2.2)))
 else
 some ((sN),((v2.1),(v2.2.1),(v2.2.2.1),(v2.2.2.2.1),(v2.2.2.2.2.1),(xI),(v2.2.2.2.2.2.2)))
 else
 bif sE.toNat == (1 : Nat) then
 bif sE != v2.2.1 then
 an k v0 v1 v2  n (sN) (sw) (s95) (IntKind.i64.wrap (sE + (1 : Int)))
 else
 ob (aJ sN s95) fun xW =>
 ob (fU xW v2.2.2.2.2.2.1) fun xl =>
 bif decide (xl ≤ (0 : Int)) then
 ob (aU (v2.1,v2.2.1,v2.2.2.1,v2.2.2.2.1,xW,v2.2.2.2.2.2.1,v2.2.2.2.2.2.2) (3 : Int) (0 : Int)) fun xH =>
 ob (aM (xH.1,xH.2.1,xH.2.2.1,xH.2.2.2.1,xH.2.2.2.2.1,xH.2.2.2.2.2.1,xH.2.2.2.2.2.2)) fun xa =>
 bif !xa then
 some ((sN),((xH.1),(IntKind.i64.wrap (xH.2.1 + (1 : Int))),(xH.2.2.1),(xH.2.2.2.1),(xH.2.2.2.2.1),(xH.2.2.2.2.2.1),(xH.2.2.2.2.2.2)))
 else
 some ((sN),((xH.1),(xH.2.1),(xH.2.2.1),(xH.2.2.2.1),(xH.2.2.2.2.1),(xH.2.2.2.2.2.1),(xH.2.2.2.2.2.2)))
 else
 ob (aM (v2.1,v2.2.1,v2.2.2.1,v2.2.2.2.1,xW,v2.2.2.2.2.2.1,v2.2.2.2.2.2.2)) fun x158 =>
 bif !x158 then
 some ((sN),((v2.1),(IntKind.i64.wrap (v2.2.1 + (1 : Int))),(v2.2.2.1),(v2.2.2.2.1),(xW),(v2.2.2.2.2.2.1),(v2.2.2.2.2.2.2)))
 else
 some ((sN),((v2.1),(v2.2.1),(v2.2.2.1),(v2.2.2.2.1),(xW),(v2.2.2.2.2.2.1),(v2.2.2.2.2.2.2)))
 else
 bif sE.toNat == (2 : Nat) then
 bif sE != v2.2.1 then
 an k v0 v1 v2  n (sN) (sw) (s95) (IntKind.i64.wrap (sE + (1 : Int)))
 else
 ob (gP (v0.1,v0.2.1,v0.2.2.1,v0.2.2.2) v2.2.2.1 v2.2.2.2.2.2.1) fun xy =>
 ob (aJ sN xy) fun xU =>
 ob (aM (v2.1,v2.2.1,v2.2.2.1,xU,v2.2.2.2.2.1,v2.2.2.2.2.2.1,v2.2.2.2.2.2.2)) fun xP =>
 bif !xP then
 some ((sN),((v2.1),(IntKind.i64.wrap (v2.2.1 + (1 : Int))),(v2.2.2.1),(xU),(v2.2.2.2.2.1),(v2.2.2.2.2.2.1),(v2.2.2.2.2.2.2)))
 else
 some ((sN),((v2.1),(v2.2.1),(v2.2.2.1),(xU),(v2.2.2.2.2.1),(v2.2.2.2.2.2.1),(v2.2.2.2.2.2.2)))
 else
 bif sE.toNat == (3 : Nat) then
 bif sE != v2.2.1 then
 an k v0 v1 v2  n (sN) (sw) (s95) (IntKind.i64.wrap (sE + (1 : Int)))
 else
 ob (dJ sN sw v2.2.2.2.2.2.1 (IntKind.u64.wrap (v2.2.2.2.2.2.1 + (1 : Int)))) fun xc =>
 bif xc.2 then
 ob (aU (v2.1,v2.2.1,v2.2.2.1,v2.2.2.2.1,v2.2.2.2.2.1,v2.2.2.2.2.2.1,v2.2.2.2.2.2.2) (1 : Int) v2.2.2.2.1) fun xK =>
 ob (aM (xK.1,xK.2.1,xK.2.2.1,xK.2.2.2.1,xK.2.2.2.2.1,xK.2.2.2.2.2.1,xK.2.2.2.2.2.2)) fun xD =>
 bif !xD then
 some ((xc.1),((xK.1),(IntKind.i64.wrap (xK.2.1 + (1 : Int))),(xK.2.2.1),(xK.2.2.2.1),(xK.2.2.2.2.1),(xK.2.2.2.2.2.1),(xK.2.2.2.2.2.2)))
 else
 some ((xc.1),((xK.1),(xK.2.1),(xK.2.2.1),(xK.2.2.2.1),(xK.2.2.2.2.1),(xK.2.2.2.2.2.1),(xK.2.2.2.2.2.2)))
 else
 ob (aU (v2.1,v2.2.1,v2.2.2.1,v2.2.2.2.1,v2.2.2.2.2.1,v2.2.2.2.2.2.1,v2.2.2.2.2.2.2) (4 : Int) (0 : Int)) fun xL =>
 ob (aM (xL.1,xL.2.1,xL.2.2.1,xL.2.2.2.1,xL.2.2.2.2.1,xL.2.2.2.2.2.1,xL.2.2.2.2.2.2)) fun x166 =>
 bif !x166 then
 some ((xc.1),((xL.1),(IntKind.i64.wrap (xL.2.1 + (1 : Int))),(xL.2.2.1),(xL.2.2.2.1),(xL.2.2.2.2.1),(xL.2.2.2.2.2.1),(xL.2.2.2.2.2.2)))
 else
 some ((xc.1),((xL.1),(xL.2.1),(xL.2.2.1),(xL.2.2.2.1),(xL.2.2.2.2.1),(xL.2.2.2.2.2.1),(xL.2.2.2.2.2.2)))
 else
 none
 else
 none
 else
 some ((sN),((v2.1),(v2.2.1),(v2.2.2.1),(v2.2.2.2.1),(v2.2.2.2.2.1),(v2.2.2.2.2.2.1),(v2.2.2.2.2.2.2)))
theorem uf (k:Nat) (v0_0 v0_1 v0_2 v0_3:Int) (v1:List Int) (v2_0 v2_1 v2_2 v2_3 v2_4 v2_5 v2_6:Int):∀ (n:Nat) (sN:List Int) (sw s95 sE:Int) ⦃sg sd:Bool⦄ ⦃j115 j116:V⦄,rt none (itX (xX (xS (k+23)) 209 0 (k+23) false) Fp (9) (bF (xX (xS (k+23)) 209 0 (k+23) false) (a7 (xS (k+23)).P Tryz.f209) Fj) n ⟨[.agg [.lit (.int .i64 v0_0),.lit (.int .i64 v0_1),.lit (.int .i64 v0_2),.lit (.int .i64 v0_3)],.ro (List.map (av IntKind.u64) v1),.agg [.lit (.int .i64 v2_0),.lit (.int .i64 v2_1),.lit (.int .i64 v2_2),.lit (.int .u64 v2_3),.lit (.int .u64 v2_4),.lit (.int .u64 v2_5),.lit (.int .i64 v2_6)],.ptr 0 0 0 0,uu,.ptr 1 0 0 0,.own 2 0 0,.ptr 3 0 0 0,.ptr 5 0 0 0,.ptr 6 0 0 0,.ptr 7 0 0 0,.own 8 0 4,j115,j116,.ro (List.map (av IntKind.u64) v1),.ro (List.map (av IntKind.u64) sN),.agg [.lit (.int .i64 v0_0),.lit (.int .i64 v0_1),.lit (.int .i64 v0_2),.lit (.int .i64 v0_3)],.ro (List.map (av IntKind.u64) v1),.agg [.lit (.int .i64 v2_0),.lit (.int .i64 v2_1),.lit (.int .i64 v2_2),.lit (.int .u64 v2_3),.lit (.int .u64 v2_4),.lit (.int .u64 v2_5),.lit (.int .i64 v2_6)],.lit (.bool sg),.lit (.bool sd),uu,uu,.agg [.lit (.int .i64 v0_0),.lit (.int .i64 v0_1),.lit (.int .i64 v0_2),.lit (.int .i64 v0_3)],.ptr 1 0 0 2,.lit (.int .i64 v2_2),.lit (.int .i64 sw),.agg [.lit (.int .i64 v0_0),.lit (.int .i64 v0_1),.lit (.int .i64 v0_2),.lit (.int .i64 v0_3)],.ptr 1 0 0 2,.lit (.int .i64 v2_2),.lit (.int .i64 s95),.fn (Fn.func (229:FuncId)) [] [.ptr 5 0 0 0,.ptr 6 0 0 0,.ptr 1 0 0 0],.fn (Fn.func (230:FuncId)) [] [.ptr 5 0 0 0,.ptr 7 0 0 0,.ptr 1 0 0 0],.fn (Fn.func (231:FuncId)) [] [.ptr 5 0 0 0,.ptr 0 0 0 0,.ptr 1 0 0 0],.fn (Fn.func (232:FuncId)) [] [.ptr 5 0 0 0,.ptr 6 0 0 0,.ptr 1 0 0 0],.own 8 0 4,.own 8 0 4,.lit (.int .i64 (4:Int)),.lit (.int .i64 sE),.junk,.junk,.junk,.junk,.junk,.junk,.junk,.junk,.junk,.junk,.junk,.junk,.junk,.junk,.junk,.junk,.junk,.junk,uu,uu],[.box [.lit (.int .i64 v0_0),.lit (.int .i64 v0_1),.lit (.int .i64 v0_2),.lit (.int .i64 v0_3)],.box [.lit (.int .i64 v2_0),.lit (.int .i64 v2_1),.lit (.int .i64 v2_2),.lit (.int .u64 v2_3),.lit (.int .u64 v2_4),.lit (.int .u64 v2_5),.lit (.int .i64 v2_6)],.rows 0 [] 0 true,.box [.lit (.int .i64 (0:Int)),.lit (.int .i64 (0:Int)),.lit (.int .i64 (0:Int)),.lit (.int .u64 (0:Int)),.lit (.int .u64 (0:Int)),.lit (.int .u64 (0:Int)),.lit (.int .i64 (0:Int))],.rows 0 [] 0 true,.box [.ro (List.map (av IntKind.u64) sN)],.box [.lit (.int .i64 sw)],.box [.lit (.int .i64 s95)],.rows 1 [[.fn (Fn.func (229:FuncId)) [] [.ptr 5 0 0 0,.ptr 6 0 0 0,.ptr 1 0 0 0]],[.fn (Fn.func (230:FuncId)) [] [.ptr 5 0 0 0,.ptr 7 0 0 0,.ptr 1 0 0 0]],[.fn (Fn.func (231:FuncId)) [] [.ptr 5 0 0 0,.ptr 0 0 0 0,.ptr 1 0 0 0]],[.fn (Fn.func (232:FuncId)) [] [.ptr 5 0 0 0,.ptr 6 0 0 0,.ptr 1 0 0 0]]] 0 true]⟩)=ob (an k (v0_0,v0_1,v0_2,v0_3) v1 (v2_0,v2_1,v2_2,v2_3,v2_4,v2_5,v2_6)  n sN sw s95 sE) fun r=>some ((.tup [.ro (List.map (av .u64) r.1),.agg [.lit (.int .i64 r.2.1),.lit (.int .i64 r.2.2.1),.lit (.int .i64 r.2.2.2.1),.lit (.int .u64 r.2.2.2.2.1),.lit (.int .u64 r.2.2.2.2.2.1),.lit (.int .u64 r.2.2.2.2.2.2.1),.lit (.int .i64 r.2.2.2.2.2.2.2)]]),[]):=by
 intro n
 induction n with
 | zero=>intros;rfl
 | succ n ih=>
  intro sN sw s95 sE sg sd j115 j116
  rw [an]
  simp -implicitDefEqProofs only [adx,afq,aes,PN,Bz,ae1,ahM,adg,adH,agG,aeZ,adU,agM,↓syI,↓syP,syA,syD,simprocAttr,syE,af,ae,aa,syW,xQ,dE,lU,fJ,gG,oP,kW,wN,nm,md,acL,ih]
def kH (k:Nat) (v0:(Int×Int×Int×Int)) (v1:(List Int)) (v2:(Int×Int×Int×Int×Int×Int×Int)):Option ((List Int)×(Int×Int×Int×Int×Int×Int×Int)):=
 ob (aN 8 v1) fun x167=>
 ob (fK v0 v1 v2 2 4) fun x168=>
 bif !x168 then
 some (x167,v2)
 else
 ob (kS v0 v2.2.2.1) fun x169=>
 ob (dQ v0 v2.2.2.1) fun xd=>
 an k v0 v1 v2 (k+23) x167 x169 xd 0
theorem Hq (k:Nat) (v0_0 v0_1 v0_2 v0_3:Int) (v1:List Int) (v2_0 v2_1 v2_2 v2_3 v2_4 v2_5 v2_6:Int):xC (k+24) none 209 [.agg [.lit (.int .i64 v0_0),.lit (.int .i64 v0_1),.lit (.int .i64 v0_2),.lit (.int .i64 v0_3)],.ro (List.map (av .u64) v1),.agg [.lit (.int .i64 v2_0),.lit (.int .i64 v2_1),.lit (.int .i64 v2_2),.lit (.int .u64 v2_3),.lit (.int .u64 v2_4),.lit (.int .u64 v2_5),.lit (.int .i64 v2_6)]]=ob (kH k (v0_0,v0_1,v0_2,v0_3) v1 (v2_0,v2_1,v2_2,v2_3,v2_4,v2_5,v2_6)) fun r=>some ((.tup [.ro (List.map (av .u64) r.1),.agg [.lit (.int .i64 r.2.1),.lit (.int .i64 r.2.2.1),.lit (.int .i64 r.2.2.2.1),.lit (.int .u64 r.2.2.2.2.1),.lit (.int .u64 r.2.2.2.2.2.1),.lit (.int .u64 r.2.2.2.2.2.2.1),.lit (.int .i64 r.2.2.2.2.2.2.2)]]),[]):=by
 rw [aD]
 unfold kH
 simp -implicitDefEqProofs only [adx,afq,aes,PN,Bz,ae1,ahM,adg,adH,agG,aeZ,adU,agM,↓syI,↓syP,syA,syD,simprocAttr,syE,af,ae,aa,syW,xQ,oP,kW,md,uf k v0_0 v0_1 v0_2 v0_3 v1 v2_0 v2_1 v2_2 v2_3 v2_4 v2_5 v2_6]
def fB (k:Nat) (v0:(Int×Int×Int×Int)) (v1:(List Int)) (v2:(Int×Int×Int×Int×Int×Int×Int)):Option ((List Int)×(Int×Int×Int×Int×Int×Int×Int)):=
 bif v2.1==0 then
 ob (my v0 v1 v2) fun x179=>
 some x179
 else
 bif v2.1==1 then
 ob (nu v0 v1 v2) fun x180=>
 some x180
 else
 bif v2.1==2 then
 ob (kH (k+1) v0 v1 v2) fun x181=>
 some x181
 else
 ob (aN 8 v1) fun x182=>
 some (x182,v2)
theorem G9 (k:Nat) (v0_0 v0_1 v0_2 v0_3:Int) (v1:List Int) (v2_0 v2_1 v2_2 v2_3 v2_4 v2_5 v2_6:Int):xC (k+26) none 180 [.agg [.lit (.int .i64 v0_0),.lit (.int .i64 v0_1),.lit (.int .i64 v0_2),.lit (.int .i64 v0_3)],.ro (List.map (av .u64) v1),.agg [.lit (.int .i64 v2_0),.lit (.int .i64 v2_1),.lit (.int .i64 v2_2),.lit (.int .u64 v2_3),.lit (.int .u64 v2_4),.lit (.int .u64 v2_5),.lit (.int .i64 v2_6)]]=ob (fB k (v0_0,v0_1,v0_2,v0_3) v1 (v2_0,v2_1,v2_2,v2_3,v2_4,v2_5,v2_6)) fun r=>some ((.tup [.ro (List.map (av .u64) r.1),.agg [.lit (.int .i64 r.2.1),.lit (.int .i64 r.2.2.1),.lit (.int .i64 r.2.2.2.1),.lit (.int .u64 r.2.2.2.2.1),.lit (.int .u64 r.2.2.2.2.2.1),.lit (.int .u64 r.2.2.2.2.2.2.1),.lit (.int .i64 r.2.2.2.2.2.2.2)]]),[]):=by
 rw [aD]
 unfold fB
 simp -implicitDefEqProofs only [akD,anj,↓syI,↓syP,syA,syD,simprocAttr,syE,af,ae,aa,syW,xQ,Kp,MN,Hq]
end Go.Ab
set_option maxRecDepth 100000
set_option linter.unusedVariables false
set_option linter.unusedSimpArgs false
namespace Go.Ab
open Go.Proofs
def gL (v0:Int) (v1:Int):Option Bool:=
 bif decide (0≤v0) then
 some (decide (v0≤v1))
 else
 some false
theorem D3 (k:Nat) (v0 v1:Int):xC (k+1) none 172 [.lit (.int .i64 v0),.lit (.int .i64 v1)]=ob (gL v0 v1) fun r=>some ((.lit (.bool r)),[]):=by
 rw [aD]
 unfold gL
 simp -implicitDefEqProofs only [alH,anO,ZL,Jj,↓syI,↓syP,syA,syD,simprocAttr,syE,af,ae,aa,syW,xQ]
def bY (k:Nat)   : Nat→Tye→Int→Tyt→Int→Option Int
 | 0,_,_,_,_=>none
 | n+1,s3,s4,s5,sD=>
 bif decide (sD<s4) then
 ob (idx s3 sD) fun xq=>
 ob (gL xq.1 (IntKind.i64.wrap ((↑s5.length:Int) - (1:Int)))) fun x32=>
 bif !x32 then
 some (sD)
 else
 ob (idx s5 xq.1) fun x33=>
 ob (gL xq.2.1 x33.1) fun x34=>
 bif !x34 then
 some (sD)
 else
 ob (gL xq.2.2 (↑x33.2.length:Int)) fun x35=>
 bif !x35 then
 some (sD)
 else
 bif decide (xq.2.1<x33.1) then
 bif decide ((0:Int)<xq.2.2) then
 some (sD)
 else
 bY k   n (s3) (s4) (s5) (IntKind.i64.wrap (sD+(1:Int)))
 else
 bY k   n (s3) (s4) (s5) (IntKind.i64.wrap (sD+(1:Int)))
 else
 some ((-1:Int))
theorem rb (k:Nat)  : ∀ (n:Nat) (s3:Tye) (s4:Int) (s5:Tyt) (sD:Int) ⦃j12:V⦄,itX (xX (xS (k+17)) 206 0 (k+17) false) F1 (1) (bF (xX (xS (k+17)) 206 0 (k+17) false) (a7 (xS (k+17)).P Tryz.f206) FE) n ⟨[.ro (List.map az s3),.fn (Fn.func (171:FuncId)) [] [.ptr 0 0 0 0],uu,uu,.lit (.int .i64 (0:Int)),j12,.ro (List.map az s3),.lit (.int .i64 s4),.lit (.int .i64 sD),.junk,.junk,.junk,.junk,.junk,.junk,.junk,.junk,.junk,.junk],[.box [.ro (List.map ak s5)]]⟩=ob (bY k   n s3 s4 s5 sD) fun r=>some ((.lit (.int .i64 r),[.box [.ro (List.map ak s5)]])):=by
 intro n
 induction n with
 | zero=>intros;rfl
 | succ n ih=>
  intro s3 s4 s5 sD j12
  rw [bY]
  simp -implicitDefEqProofs only [ag8,adN,Q8,A4,adk,afi,ad1,af7,QT,Pz,RA,Pr,OV,Ry,Bj,afG,aed,aeK,Q2,Cd,↓syI,↓syP,syA,syD,simprocAttr,syE,af,ae,aa,syW,xQ,D3,aah,ih]
def gw (k:Nat) (v0:Tyt) (v1:Tye):Option Bool:=
 ob (bW k v0) fun xf=>
 bif xf then
 ob (bY k (k+17) v1 (↑v1.length:Int) v0 0) fun xN=>
 some (!decide (0≤xN))
 else
 some false
theorem rT (k:Nat) (v0:Tyt) (v1:Tye):xC (k+20) none 146 [.ro (List.map ak v0),.ro (List.map az v1)]=ob (gw k v0 v1) fun r=>some ((.lit (.bool r)),[]):=by
 rw [aD]
 unfold gw
 simp -implicitDefEqProofs only [ag8,adN,Q8,A4,adk,afi,ad1,af7,QT,Pz,RA,Pr,OV,Ry,Bj,afG,aed,aeK,Q2,Cd,↓syI,↓syP,syA,syD,simprocAttr,syE,af,ae,aa,syW,xQ,bX,rb]
def eH (k:Nat) (v0:Tyt) (v1:Tye):Option (Int×Int):=
 bif (↑v1.length:Int)==0 then
 some (0,0)
 else
 ob (gw k v0 v1) fun x60=>
 bif !x60 then
 some (0,0)
 else
 ob (idx v1 (IntKind.i64.wrap ((↑v1.length:Int) - 1))) fun xw=>
 ob (idx v0 xw.1) fun xe=>
 bif decide (xw.2.1<xe.1) then
 some (1,xw.1)
 else
 bif decide (xw.2.2<(↑xe.2.length:Int)) then
 ob (idx xe.2 xw.2.2) fun xb=>
 some (2,xb)
 else
 some (3,xw.1)
theorem Ah (k:Nat) (v0:Tyt) (v1:Tye):xC (k+21) none 162 [.ro (List.map ak v0),.ro (List.map az v1)]=ob (eH k v0 v1) fun r=>some ((.agg [.lit (.int .i64 r.1),.lit (.int .i64 r.2)]),[]):=by
 rw [aD]
 unfold eH
 simp -implicitDefEqProofs only [ala,anH,YI,J5,↓syI,↓syP,syA,syD,simprocAttr,syE,af,ae,aa,syW,xQ,rT]
def gQ (k:Nat) (v0:Tyt) (v1:Tye):Option Tye:=
 ob (aN 24 v1) fun xT=>
 ob (eH k v0 v1) fun xh=>
 bif xh.1==1 then
 bif decide (0≤IntKind.i64.wrap ((↑xT.length:Int) - 1)∧(IntKind.i64.wrap ((↑xT.length:Int) - 1)).toNat<xT.length) then
 ob (xT[(IntKind.i64.wrap ((↑xT.length:Int) - 1)).toNat]?) fun x76=>
 bif decide (0≤IntKind.i64.wrap ((↑xT.length:Int) - 1)∧(IntKind.i64.wrap ((↑xT.length:Int) - 1)).toNat<xT.length) then
 ob (xT[(IntKind.i64.wrap ((↑xT.length:Int) - 1)).toNat]?) fun x77=>
 some (xT.set (IntKind.i64.wrap ((↑xT.length:Int) - 1)).toNat (x77.1,IntKind.i64.wrap (x76.2.1+1),x77.2.2))
 else
 none
 else
 none
 else
 bif xh.1==2 then
 bif decide (0≤IntKind.i64.wrap ((↑xT.length:Int) - 1)∧(IntKind.i64.wrap ((↑xT.length:Int) - 1)).toNat<xT.length) then
 ob (xT[(IntKind.i64.wrap ((↑xT.length:Int) - 1)).toNat]?) fun xo=>
 bif decide (0≤IntKind.i64.wrap ((↑xT.length:Int) - 1)∧(IntKind.i64.wrap ((↑xT.length:Int) - 1)).toNat<xT.length) then
 ob (xT[(IntKind.i64.wrap ((↑xT.length:Int) - 1)).toNat]?) fun x79=>
 some (xT.set (IntKind.i64.wrap ((↑xT.length:Int) - 1)).toNat (x79.1,x79.2.1,IntKind.i64.wrap (xo.2.2+1)))
 else
 none
 else
 none
 else
 bif xh.1==3 then
 ck (decide (0≤IntKind.i64.wrap ((↑xT.length:Int) - 1)∧(IntKind.i64.wrap ((↑xT.length:Int) - 1)).toNat≤xT.length)) (
 ck (decide ((IntKind.i64.wrap ((↑xT.length:Int) - 1)).toNat≤xT.length)) (
 some (List.take (IntKind.i64.wrap ((↑xT.length:Int) - 1)).toNat xT)))
 else
 some xT
theorem NF (k:Nat) (v0:Tyt) (v1:Tye):xC (k+22) none 163 [.ro (List.map ak v0),.ro (List.map az v1)]=ob (gQ k v0 v1) fun r=>some ((.ro (List.map az r)),[]):=by
 rw [aD]
 unfold gQ
 simp -implicitDefEqProofs only [anM,amx,alb,aoy,aD (g:=182),amr,alg,amM,am3,ai8,aiD,↓syI,↓syP,syA,syD,simprocAttr,syE,af,ae,aa,syW,xQ,Ah]
def dL (k:Nat) (v0:Tyt) (v1:Tye) (v2:Int):Option Tye:=
 ob (aN 24 v1) fun x89=>
 ob (gw k v0 v1) fun x90=>
 bif !x90 then
 some x89
 else
 ob (gL v2 (IntKind.i64.wrap ((↑v0.length:Int) - 1))) fun x91=>
 bif !x91 then
 some x89
 else
 bif room (x89++[(v2,0,0)]).length 24 then
 some (x89++[(v2,0,0)])
 else
 none
theorem EW (k:Nat) (v0:Tyt) (v1:Tye) (v2:Int):xC (k+21) none 181 [.ro (List.map ak v0),.ro (List.map az v1),.lit (.int .i64 v2)]=ob (dL k v0 v1 v2) fun r=>some ((.ro (List.map az r)),[]):=by
 rw [aD]
 unfold dL
 simp -implicitDefEqProofs only [aio,aof,ab7,JF,↓syI,↓syP,syA,syD,simprocAttr,syE,af,ae,aa,syW,xQ,D3,rT]
end Go.Ab
set_option maxRecDepth 100000
set_option linter.unusedVariables false
set_option linter.unusedSimpArgs false
namespace Go.Ab
open Go.Proofs
def ct (k:Nat) (v0:(Int×Int×Int×Int)) (v1:(List Int)) (v2:(Int×Int×Int×Int×Int×Int×Int)):Option ((List Int)×(Int×Int×Int×Int×Int×Int×Int)):=
 bif v2.1==5 then
 ob (mb v0 v1 v2) fun x6=>
 some x6
 else
 bif v2.1==6 then
 bif v2.1==6 then
 ob (kj k v0 v1 v2) fun x7=>
 some x7
 else
 ob (aN 8 v1) fun x8=>
 some (x8,v2)
 else
 bif v2.1==7 then
 ob (kj k v0 v1 v2) fun x9=>
 some x9
 else
 ob (aN 8 v1) fun x10=>
 some (x10,v2)
theorem Ag (k:Nat) (v0_0 v0_1 v0_2 v0_3:Int) (v1:List Int) (v2_0 v2_1 v2_2 v2_3 v2_4 v2_5 v2_6:Int):xC (k+17) none 134 [.agg [.lit (.int .i64 v0_0),.lit (.int .i64 v0_1),.lit (.int .i64 v0_2),.lit (.int .i64 v0_3)],.ro (List.map (av .u64) v1),.agg [.lit (.int .i64 v2_0),.lit (.int .i64 v2_1),.lit (.int .i64 v2_2),.lit (.int .u64 v2_3),.lit (.int .u64 v2_4),.lit (.int .u64 v2_5),.lit (.int .i64 v2_6)]]=ob (ct k (v0_0,v0_1,v0_2,v0_3) v1 (v2_0,v2_1,v2_2,v2_3,v2_4,v2_5,v2_6)) fun r=>some ((.tup [.ro (List.map (av .u64) r.1),.agg [.lit (.int .i64 r.2.1),.lit (.int .i64 r.2.2.1),.lit (.int .i64 r.2.2.2.1),.lit (.int .u64 r.2.2.2.2.1),.lit (.int .u64 r.2.2.2.2.2.1),.lit (.int .u64 r.2.2.2.2.2.2.1),.lit (.int .i64 r.2.2.2.2.2.2.2)]]),[]):=by
 rw [aD]
 unfold ct
 simp -implicitDefEqProofs only [aoN,aiM,Y9,Kq,↓syI,↓syP,syA,syD,simprocAttr,syE,af,ae,aa,syW,xQ,Iy,Ks]
def pz (v0:(Int×Int×Int×Int)) (v1:(List Int)):Option Bool:=
 ob (cg v0) fun x20=>
 bif x20 then
 ob (ez v0) fun x21=>
 some ((↑v1.length:Int)==x21)
 else
 some false
theorem M7 (k:Nat) (v0_0 v0_1 v0_2 v0_3:Int) (v1:List Int):xC (k+4) none 105 [.agg [.lit (.int .i64 v0_0),.lit (.int .i64 v0_1),.lit (.int .i64 v0_2),.lit (.int .i64 v0_3)],.ro (List.map (av .u64) v1)]=ob (pz (v0_0,v0_1,v0_2,v0_3) v1) fun r=>some ((.lit (.bool r)),[]):=by
 rw [aD]
 unfold pz
 simp -implicitDefEqProofs only [aiy,akx,aaH,Kv,↓syI,↓syP,syA,syD,simprocAttr,syE,af,ae,aa,syW,xQ,cH,kw]
def lT (v0:(Int×Int×Int×Int)) (v1:(List Int)) (v2:(Int×Int×Int×Int×Int×Int×Int)) (v3:Int):Option Bool:=
 ob (pz v0 v1) fun x26=>
 bif x26 then
 ob (aM v2) fun x27=>
 bif !x27 then
 bif v2.1==v3 then
 bif decide (0≤v2.2.1) then
 some (decide (v2.2.1<5))
 else
 some false
 else
 some false
 else
 some false
 else
 some false
theorem DV (k:Nat) (v0_0 v0_1 v0_2 v0_3:Int) (v1:List Int) (v2_0 v2_1 v2_2 v2_3 v2_4 v2_5 v2_6 v3:Int):xC (k+5) none 196 [.agg [.lit (.int .i64 v0_0),.lit (.int .i64 v0_1),.lit (.int .i64 v0_2),.lit (.int .i64 v0_3)],.ro (List.map (av .u64) v1),.agg [.lit (.int .i64 v2_0),.lit (.int .i64 v2_1),.lit (.int .i64 v2_2),.lit (.int .u64 v2_3),.lit (.int .u64 v2_4),.lit (.int .u64 v2_5),.lit (.int .i64 v2_6)],.lit (.int .i64 v3)]=ob (lT (v0_0,v0_1,v0_2,v0_3) v1 (v2_0,v2_1,v2_2,v2_3,v2_4,v2_5,v2_6) v3) fun r=>some ((.lit (.bool r)),[]):=by
 rw [aD]
 unfold lT
 simp -implicitDefEqProofs only [ai2,aiw,XN,ZI,X8,aab,J8,↓syI,↓syP,syA,syD,simprocAttr,syE,af,ae,aa,syW,xQ,fJ,M7]
def kN (v0:(Int×Int×Int×Int)) (v1:Int):Option Int:=
 ob (cg v0) fun x36=>
 bif !x36 then
 some ((-1))
 else
 ob (fq 0 0 (IntKind.i64.wrap (v0.1 - 1))) fun x37=>
 bif !x37 then
 some ((-1))
 else
 bif IntKind.u64.wrap v0.2.2.1 !=0 then
 some (IntKind.i64.wrap (6+IntKind.i64.wrap (v1.tmod (IntKind.u64.wrap v0.2.2.1))))
 else
 none
theorem GG (k:Nat) (v0_0 v0_1 v0_2 v0_3 v1:Int):xC (k+12) none 203 [.agg [.lit (.int .i64 v0_0),.lit (.int .i64 v0_1),.lit (.int .i64 v0_2),.lit (.int .i64 v0_3)],.lit (.int .u64 v1)]=ob (kN (v0_0,v0_1,v0_2,v0_3) v1) fun r=>some ((.lit (.int .i64 r)),[]):=by
 rw [aD]
 unfold kN
 simp -implicitDefEqProofs only [ac1,ac0,Dw,lS,akV,aif,anA,aoO,↓syI,↓syP,syA,syD,simprocAttr,syE,af,ae,aa,syW,xQ,nO,cH]
def nA (v0:(Int×Int×Int×Int)) (v1:Int):Option Int:=
 ob (cg v0) fun x42=>
 bif !x42 then
 some ((-1))
 else
 ob (fq 0 0 (IntKind.i64.wrap (v0.1 - 1))) fun x43=>
 bif !x43 then
 some ((-1))
 else
 bif IntKind.u64.wrap v0.2.2.1 !=0 then
 some (IntKind.i64.wrap (IntKind.i64.wrap (6+v0.2.2.1)+IntKind.i64.wrap (v1.tmod (IntKind.u64.wrap v0.2.2.1))))
 else
 none
theorem If (k:Nat) (v0_0 v0_1 v0_2 v0_3 v1:Int):xC (k+12) none 205 [.agg [.lit (.int .i64 v0_0),.lit (.int .i64 v0_1),.lit (.int .i64 v0_2),.lit (.int .i64 v0_3)],.lit (.int .u64 v1)]=ob (nA (v0_0,v0_1,v0_2,v0_3) v1) fun r=>some ((.lit (.int .i64 r)),[]):=by
 rw [aD]
 unfold nA
 simp -implicitDefEqProofs only [ac1,ac0,Dw,lS,an8,ajV,aon,ak7,↓syI,↓syP,syA,syD,simprocAttr,syE,af,ae,aa,syW,xQ,nO,cH]
def m6 (v0:(Int×Int×Int×Int)) (v1:(List Int)) (v2:(Int×Int×Int×Int×Int×Int×Int)):Option ((List Int)×(Int×Int×Int×Int×Int×Int×Int)):=
 ob (aN 8 v1) fun xZ=>
 ob (lT v0 v1 v2 3) fun x60=>
 bif !x60 then
 some (xZ,v2)
 else
 bif decide (0≤v2.2.1∧v2.2.1.toNat<5) then
 bif v2.2.1.toNat==0 then
 ob (aJ xZ 5) fun xw=>
 some (xZ,(v2.1,1,v2.2.2.1,v2.2.2.2.1,xw,v2.2.2.2.2.2))
 else
 bif v2.2.1.toNat==1 then
 ob (kN v0 v2.2.2.2.2.1) fun xe=>
 ob (aJ xZ xe) fun xb=>
 bif IntKind.u64.wrap v0.2.2.1 !=0 then
 bif xb==IntKind.u64.wrap (IntKind.u64.wrap (v2.2.2.2.2.1.tdiv (IntKind.u64.wrap v0.2.2.1))*2) then
 some (xZ,(v2.1,2,v2.2.2.1,v2.2.2.2.1,v2.2.2.2.2.1,xb,v2.2.2.2.2.2.2))
 else
 bif IntKind.u64.wrap v0.2.2.1 !=0 then
 ob (fU xb (IntKind.u64.wrap (IntKind.u64.wrap (v2.2.2.2.2.1.tdiv (IntKind.u64.wrap v0.2.2.1))*2))) fun x64=>
 bif decide (x64<0) then
 ob (aU (v2.1,v2.2.1,v2.2.2.1,v2.2.2.2.1,v2.2.2.2.2.1,xb,v2.2.2.2.2.2.2) 2 v2.2.2.2.1) fun xp=>
 some (xZ,(xp.1,0,xp.2.2))
 else
 some (xZ,(v2.1,0,v2.2.2.1,v2.2.2.2.1,v2.2.2.2.2.1,xb,v2.2.2.2.2.2.2))
 else
 none
 else
 none
 else
 bif v2.2.1.toNat==2 then
 ob (dJ xZ 5 v2.2.2.2.2.1 (IntKind.u64.wrap (v2.2.2.2.2.1+1))) fun x66=>
 bif x66.2 then
 some (x66.1,(v2.1,3,v2.2.2))
 else
 some (x66.1,(v2.1,0,v2.2.2))
 else
 bif v2.2.1.toNat==3 then
 ob (nA v0 v2.2.2.2.2.1) fun x67=>
 ob (bB xZ x67 v2.2.2.2.1) fun x68=>
 some (x68,(v2.1,4,v2.2.2))
 else
 bif v2.2.1.toNat==4 then
 ob (kN v0 v2.2.2.2.2.1) fun x69=>
 bif IntKind.u64.wrap v0.2.2.1 !=0 then
 ob (bB xZ x69 (IntKind.u64.wrap (IntKind.u64.wrap (IntKind.u64.wrap (v2.2.2.2.2.1.tdiv (IntKind.u64.wrap v0.2.2.1))*2)+1))) fun x70=>
 ob (aU v2 1 v2.2.2.2.1) fun x71=>
 some (x70,(x71.1,0,x71.2.2))
 else
 none
 else
 none
 else
 none
theorem MR (k:Nat) (v0_0 v0_1 v0_2 v0_3:Int) (v1:List Int) (v2_0 v2_1 v2_2 v2_3 v2_4 v2_5 v2_6:Int):xC (k+24) none 167 [.agg [.lit (.int .i64 v0_0),.lit (.int .i64 v0_1),.lit (.int .i64 v0_2),.lit (.int .i64 v0_3)],.ro (List.map (av .u64) v1),.agg [.lit (.int .i64 v2_0),.lit (.int .i64 v2_1),.lit (.int .i64 v2_2),.lit (.int .u64 v2_3),.lit (.int .u64 v2_4),.lit (.int .u64 v2_5),.lit (.int .i64 v2_6)]]=ob (m6 (v0_0,v0_1,v0_2,v0_3) v1 (v2_0,v2_1,v2_2,v2_3,v2_4,v2_5,v2_6)) fun r=>some ((.tup [.ro (List.map (av .u64) r.1),.agg [.lit (.int .i64 r.2.1),.lit (.int .i64 r.2.2.1),.lit (.int .i64 r.2.2.2.1),.lit (.int .u64 r.2.2.2.2.1),.lit (.int .u64 r.2.2.2.2.2.1),.lit (.int .u64 r.2.2.2.2.2.2.1),.lit (.int .i64 r.2.2.2.2.2.2.2)]]),[]):=by
 rw [aD]
 unfold m6
 simp -implicitDefEqProofs only [anf,akm,an2,amH,ai3,ain,akb,amN,akc,aji,ak8,aoe,alP,akT,aoD,akk,↓syI,↓syP,syA,syD,simprocAttr,syE,af,ae,aa,syW,xQ,dE,eF,lU,gG,nm,DV,GG,If]
def lW (v0:(Int×Int×Int×Int)) (v1:Int):Option Int:=
 bif IntKind.u64.wrap v0.2.2.1 !=0 then
 some (IntKind.u64.wrap (IntKind.u64.wrap (IntKind.u64.wrap (v1.tdiv (IntKind.u64.wrap v0.2.2.1))*2)+1))
 else
 none
theorem NP (k:Nat) (v0_0 v0_1 v0_2 v0_3 v1:Int):xC (k+1) none 204 [.agg [.lit (.int .i64 v0_0),.lit (.int .i64 v0_1),.lit (.int .i64 v0_2),.lit (.int .i64 v0_3)],.lit (.int .u64 v1)]=ob (lW (v0_0,v0_1,v0_2,v0_3) v1) fun r=>some ((.lit (.int .u64 r)),[]):=by
 rw [aD]
 unfold lW
 simp -implicitDefEqProofs only [ajl,aoB,↓syI,↓syP,syA,syD,simprocAttr,syE,af,ae,aa,syW,xQ]
def nI (v0:(Int×Int×Int×Int)) (v1:(List Int)) (v2:(Int×Int×Int×Int×Int×Int×Int)):Option ((List Int)×(Int×Int×Int×Int×Int×Int×Int)):=
 ob (aN 8 v1) fun xV=>
 ob (lT v0 v1 v2 4) fun xn=>
 bif !xn then
 some (xV,v2)
 else
 bif v2.2.1==0 then
 ob (aJ xV 4) fun x111=>
 some (xV,(v2.1,1,v2.2.2.1,v2.2.2.2.1,x111,v2.2.2.2.2.2))
 else
 bif v2.2.1==1 then
 ob (kN v0 v2.2.2.2.2.1) fun x112=>
 ob (aJ xV x112) fun x113=>
 ob (lW v0 v2.2.2.2.2.1) fun x114=>
 ob (fU x113 x114) fun x115=>
 bif x115==0 then
 some (xV,(v2.1,2,v2.2.2.1,v2.2.2.2.1,v2.2.2.2.2.1,x113,v2.2.2.2.2.2.2))
 else
 bif decide (x115<0) then
 ob (aU (v2.1,0,v2.2.2.1,v2.2.2.2.1,v2.2.2.2.2.1,x113,v2.2.2.2.2.2.2) 3 0) fun x116=>
 some (xV,x116)
 else
 some (xV,(v2.1,0,v2.2.2.1,v2.2.2.2.1,v2.2.2.2.2.1,x113,v2.2.2.2.2.2.2))
 else
 bif v2.2.1==2 then
 ob (dJ xV 4 v2.2.2.2.2.1 (IntKind.u64.wrap (v2.2.2.2.2.1+1))) fun x117=>
 bif x117.2 then
 some (x117.1,(v2.1,3,v2.2.2))
 else
 some (x117.1,(v2.1,0,v2.2.2))
 else
 bif v2.2.1==3 then
 ob (nA v0 v2.2.2.2.2.1) fun x118=>
 ob (aJ xV x118) fun x119=>
 some (xV,(v2.1,4,v2.2.2.1,x119,v2.2.2.2.2))
 else
 ob (kN v0 v2.2.2.2.2.1) fun x120=>
 ob (lW v0 v2.2.2.2.2.1) fun x121=>
 ob (bB xV x120 (IntKind.u64.wrap (x121+1))) fun x122=>
 ob (aU v2 1 v2.2.2.2.1) fun x123=>
 some (x122,x123)
theorem N1 (k:Nat) (v0_0 v0_1 v0_2 v0_3:Int) (v1:List Int) (v2_0 v2_1 v2_2 v2_3 v2_4 v2_5 v2_6:Int):xC (k+13) none 168 [.agg [.lit (.int .i64 v0_0),.lit (.int .i64 v0_1),.lit (.int .i64 v0_2),.lit (.int .i64 v0_3)],.ro (List.map (av .u64) v1),.agg [.lit (.int .i64 v2_0),.lit (.int .i64 v2_1),.lit (.int .i64 v2_2),.lit (.int .u64 v2_3),.lit (.int .u64 v2_4),.lit (.int .u64 v2_5),.lit (.int .i64 v2_6)]]=ob (nI (v0_0,v0_1,v0_2,v0_3) v1 (v2_0,v2_1,v2_2,v2_3,v2_4,v2_5,v2_6)) fun r=>some ((.tup [.ro (List.map (av .u64) r.1),.agg [.lit (.int .i64 r.2.1),.lit (.int .i64 r.2.2.1),.lit (.int .i64 r.2.2.2.1),.lit (.int .u64 r.2.2.2.2.1),.lit (.int .u64 r.2.2.2.2.2.1),.lit (.int .u64 r.2.2.2.2.2.2.1),.lit (.int .i64 r.2.2.2.2.2.2.2)]]),[]):=by
 rw [aD]
 unfold nI
 simp -implicitDefEqProofs only [ant,aoL,abV,IP,↓syI,↓syP,syA,syD,simprocAttr,syE,af,ae,aa,syW,xQ,dE,eF,lU,gG,nm,DV,GG,If,NP]
def bD (v0:(Int×Int×Int×Int)) (v1:(List Int)) (v2:(Int×Int×Int×Int×Int×Int×Int)):Option ((List Int)×(Int×Int×Int×Int×Int×Int×Int)):=
 bif v2.1==3 then
 ob (m6 v0 v1 v2) fun x142=>
 some x142
 else
 bif v2.1==4 then
 ob (nI v0 v1 v2) fun x143=>
 some x143
 else
 ob (aN 8 v1) fun x144=>
 some (x144,v2)
theorem u2 (k:Nat) (v0_0 v0_1 v0_2 v0_3:Int) (v1:List Int) (v2_0 v2_1 v2_2 v2_3 v2_4 v2_5 v2_6:Int):xC (k+26) none 135 [.agg [.lit (.int .i64 v0_0),.lit (.int .i64 v0_1),.lit (.int .i64 v0_2),.lit (.int .i64 v0_3)],.ro (List.map (av .u64) v1),.agg [.lit (.int .i64 v2_0),.lit (.int .i64 v2_1),.lit (.int .i64 v2_2),.lit (.int .u64 v2_3),.lit (.int .u64 v2_4),.lit (.int .u64 v2_5),.lit (.int .i64 v2_6)]]=ob (bD (v0_0,v0_1,v0_2,v0_3) v1 (v2_0,v2_1,v2_2,v2_3,v2_4,v2_5,v2_6)) fun r=>some ((.tup [.ro (List.map (av .u64) r.1),.agg [.lit (.int .i64 r.2.1),.lit (.int .i64 r.2.2.1),.lit (.int .i64 r.2.2.2.1),.lit (.int .u64 r.2.2.2.2.1),.lit (.int .u64 r.2.2.2.2.2.1),.lit (.int .u64 r.2.2.2.2.2.2.1),.lit (.int .i64 r.2.2.2.2.2.2.2)]]),[]):=by
 rw [aD]
 unfold bD
 simp -implicitDefEqProofs only [ak4,amd,↓syI,↓syP,syA,syD,simprocAttr,syE,af,ae,aa,syW,xQ,MR,N1]
end Go.Ab
set_option maxRecDepth 100000
set_option linter.unusedVariables false
set_option linter.unusedSimpArgs false
namespace Go.Ab
open Go.Proofs
def lX (k:Nat) (v0:(Int×Int×Int×Int)) (v1:Tyt) (v2:(List Int)) (v3:Int) (v4:Tyw):Option Bool:=
 ob (cg v0) fun x5=>
 bif x5 then
 ob (ez v0) fun x6=>
 bif (↑v2.length:Int)==x6 then
 ob (bW (k+4) v1) fun x7=>
 bif x7 then
 bif decide (0≤v3) then
 bif decide (v3<v0.1) then
 bif decide (0≤v4.1) then
 bif decide (v4.1<16) then
 ob (gw (k+3) v1 v4.2.1) fun x8=>
 some x8
 else
 some false
 else
 some false
 else
 some false
 else
 some false
 else
 some false
 else
 some false
 else
 some false
theorem DJ (k:Nat) (v0_0 v0_1 v0_2 v0_3:Int) (v1:Tyt) (v2:List Int) (v3 v4_0:Int) (v4_1:Tye) (v4_2_0 v4_2_1 v4_2_2 v4_2_3 v4_2_4 v4_2_5 v4_2_6 v4_3 v4_4:Int):xC (k+24) none 95 [.agg [.lit (.int .i64 v0_0),.lit (.int .i64 v0_1),.lit (.int .i64 v0_2),.lit (.int .i64 v0_3)],.ro (List.map ak v1),.ro (List.map (av .u64) v2),.lit (.int .i64 v3),.agg [.lit (.int .i64 v4_0),.ro (List.map az v4_1),.lit (.int .i64 v4_2_0),.lit (.int .i64 v4_2_1),.lit (.int .i64 v4_2_2),.lit (.int .u64 v4_2_3),.lit (.int .u64 v4_2_4),.lit (.int .u64 v4_2_5),.lit (.int .i64 v4_2_6),.lit (.int .i64 v4_3),.lit (.int .i64 v4_4)]]=ob (lX k (v0_0,v0_1,v0_2,v0_3) v1 v2 v3 (v4_0,v4_1,(v4_2_0,v4_2_1,v4_2_2,v4_2_3,v4_2_4,v4_2_5,v4_2_6),v4_3,v4_4)) fun r=>some ((.lit (.bool r)),[]):=by
 rw [aD]
 unfold lX
 simp -implicitDefEqProofs only [aq8,aqC,ahr,ahs,af9,adC,aev,af8,ac4,Ot,↓syI,↓syP,syA,syD,simprocAttr,syE,af,ae,aa,syW,xQ,bX,cH,kw,rT]
def bI (k:Nat) (v0:(List Int)) (v1:Int)  : Nat→Int→Option Int
 | 0,_=>none
 | n+1,s19=>
 bif decide (s19<(↑v0.length:Int)) then
 ob (idx v0 s19) fun x22=>
 bif v1==x22 then
 some (s19)
 else
 bI k v0 v1  n (IntKind.i64.wrap (s19+(1:Int)))
 else
 some ((-1:Int))
theorem nf (k:Nat) (v0:List Int) (v1:Int):∀ (n:Nat) (s19:Int) ⦃j18:V⦄,rt none (itX (xX (xS k) 61 0 k false) L2 (0) (bF (xX (xS k) 61 0 k false) (a7 (xS k).P Tryz.f61) LF) n ⟨[.ro (List.map (av IntKind.i64) v0),.lit (.int .i64 v1),uu,uu,.lit (.int .i64 (0:Int)),j18,.ro (List.map (av IntKind.i64) v0),.lit (.int .i64 (↑v0.length:Int)),.lit (.int .i64 s19),.junk,.junk,.junk,.junk,.junk,.junk,.junk,.junk,.junk,.junk],[]⟩)=ob (bI k v0 v1  n s19) fun r=>some ((.lit (.int .i64 r)),[]):=by
 intro n
 induction n with
 | zero=>intros;rfl
 | succ n ih=>
  intro s19 j18
  rw [bI]
  simp -implicitDefEqProofs only [ao7,apk,apy,XA,Dz,↓syI,↓syP,syA,syD,simprocAttr,syE,af,ae,aa,syW,xQ,ahu,ih]
def dP (k:Nat) (v0:(List Int)) (v1:Int):Option Int:=
 bI k v0 v1 k 0
theorem iE (k:Nat) (v0:List Int) (v1:Int):xC (k+1) none 61 [.ro (List.map (av .i64) v0),.lit (.int .i64 v1)]=ob (dP k v0 v1) fun r=>some ((.lit (.int .i64 r)),[]):=by
 rw [aD]
 unfold dP
 simp -implicitDefEqProofs only [ao7,apk,apy,XA,Dz,↓syI,↓syP,syA,syD,simprocAttr,syE,af,ae,aa,syW,xQ,nf k v0 v1]
def iM (v0:(Int×Int×Int×Int×Int×Int×Int)):Option Bool:=
 bif v0.1==5 then
 ob (aM v0) fun x30=>
 bif !x30 then
 some (v0.2.1==3)
 else
 some false
 else
 some false
theorem E0 (k:Nat) (v0_0 v0_1 v0_2 v0_3 v0_4 v0_5 v0_6:Int):xC (k+2) none 69 [.agg [.lit (.int .i64 v0_0),.lit (.int .i64 v0_1),.lit (.int .i64 v0_2),.lit (.int .u64 v0_3),.lit (.int .u64 v0_4),.lit (.int .u64 v0_5),.lit (.int .i64 v0_6)]]=ob (iM (v0_0,v0_1,v0_2,v0_3,v0_4,v0_5,v0_6)) fun r=>some ((.lit (.bool r)),[]):=by
 rw [aD]
 unfold iM
 simp -implicitDefEqProofs only [ap0,arj,adl,aeJ,OE,↓syI,↓syP,syA,syD,simprocAttr,syE,af,ae,aa,syW,xQ,fJ]
def ib (v0:Tyw):Option Bool:=
 bif v0.1==8 then
 ob (iM v0.2.2.1) fun x33=>
 some x33
 else
 some false
theorem FL (k:Nat) (v0_0:Int) (v0_1:Tye) (v0_2_0 v0_2_1 v0_2_2 v0_2_3 v0_2_4 v0_2_5 v0_2_6 v0_3 v0_4:Int):xC (k+3) none 31 [.agg [.lit (.int .i64 v0_0),.ro (List.map az v0_1),.lit (.int .i64 v0_2_0),.lit (.int .i64 v0_2_1),.lit (.int .i64 v0_2_2),.lit (.int .u64 v0_2_3),.lit (.int .u64 v0_2_4),.lit (.int .u64 v0_2_5),.lit (.int .i64 v0_2_6),.lit (.int .i64 v0_3),.lit (.int .i64 v0_4)]]=ob (ib (v0_0,v0_1,(v0_2_0,v0_2_1,v0_2_2,v0_2_3,v0_2_4,v0_2_5,v0_2_6),v0_3,v0_4)) fun r=>some ((.lit (.bool r)),[]):=by
 rw [aD]
 unfold ib
 simp -implicitDefEqProofs only [ara,aqs,agq,Ne,↓syI,↓syP,syA,syD,simprocAttr,syE,af,ae,aa,syW,xQ,E0]
def pN (v0:Int):Option Tyw:=
 ob (aK 1 v0 0) fun x36=>
 some (0,[],x36,0,0)
theorem wj (k:Nat) (v0:Int):xC (k+2) none 60 [.lit (.int .i64 v0)]=ob (pN v0) fun r=>some ((.agg [.lit (.int .i64 r.1),.ro (List.map az r.2.1),.lit (.int .i64 r.2.2.1.1),.lit (.int .i64 r.2.2.1.2.1),.lit (.int .i64 r.2.2.1.2.2.1),.lit (.int .u64 r.2.2.1.2.2.2.1),.lit (.int .u64 r.2.2.1.2.2.2.2.1),.lit (.int .u64 r.2.2.1.2.2.2.2.2.1),.lit (.int .i64 r.2.2.1.2.2.2.2.2.2),.lit (.int .i64 r.2.2.2.1),.lit (.int .i64 r.2.2.2.2)]),[]):=by
 rw [aD]
 unfold pN
 simp -implicitDefEqProofs only [aqb,arb,↓syI,↓syP,syA,syD,simprocAttr,syE,af,ae,aa,syW,xQ,oz]
 all_goals simp -implicitDefEqProofs only [List.map_nil]
end Go.Ab
set_option maxRecDepth 100000
set_option linter.unusedVariables false
set_option linter.unusedSimpArgs false
namespace Go.Ab
open Go.Proofs
def fC (k:Nat) (v0:(Int×Int×Int×Int)) (v1:Tyt) (v2:(List Int)) (v3:Tys):Option Bool:=
 ob (cg v0) fun x6=>
 bif x6 then
 ob (ez v0) fun x7=>
 bif (↑v2.length:Int)==x7 then
 ob (bW (k+4) v1) fun x8=>
 bif x8 then
 bif decide (0≤v3.1) then
 bif decide (v3.1<6) then
 bif decide (0<(↑v3.2.1.length:Int)) then
 ob (idx v3.2.1 0) fun x9=>
 bif decide (0≤x9) then
 ob (idx v3.2.1 0) fun x10=>
 some (decide (x10<(↑v1.length:Int)))
 else
 some false
 else
 some false
 else
 some false
 else
 some false
 else
 some false
 else
 some false
 else
 some false
theorem pw (k:Nat) (v0_0 v0_1 v0_2 v0_3:Int) (v1:Tyt) (v2:List Int) (v3_0:Int) (v3_1:List Int) (v3_2_0 v3_2_1 v3_2_2 v3_2_3 v3_2_4 v3_2_5 v3_2_6:Int):xC (k+24) none 85 [.agg [.lit (.int .i64 v0_0),.lit (.int .i64 v0_1),.lit (.int .i64 v0_2),.lit (.int .i64 v0_3)],.ro (List.map ak v1),.ro (List.map (av .u64) v2),.agg [.lit (.int .i64 v3_0),.ro (List.map (av .i64) v3_1),.lit (.int .i64 v3_2_0),.lit (.int .i64 v3_2_1),.lit (.int .i64 v3_2_2),.lit (.int .u64 v3_2_3),.lit (.int .u64 v3_2_4),.lit (.int .u64 v3_2_5),.lit (.int .i64 v3_2_6)]]=ob (fC k (v0_0,v0_1,v0_2,v0_3) v1 v2 (v3_0,v3_1,(v3_2_0,v3_2_1,v3_2_2,v3_2_3,v3_2_4,v3_2_5,v3_2_6))) fun r=>some ((.lit (.bool r)),[]):=by
 rw [aD]
 unfold fC
 simp -implicitDefEqProofs only [ap7,aql,ag7,ahx,adh,adE,afU,aeS,ad9,Ob,↓syI,↓syP,syA,syD,simprocAttr,syE,af,ae,aa,syW,xQ,bX,cH,kw]
def fS (k : Nat) (v0 : (Int × Int × Int × Int)) (v1 : (List (Int × List Int))) (v2 : (List Int)) (v3 : Int) (v4 : (Int × List Int × Int × Int × Int × Int × Int × Int × Int)) : Option ((List Int) × (Int × List Int × Int × Int × Int × Int × Int × Int × Int) × (List (Int × Int × Int))) :=
 ob (aN 8 v2) fun xf =>
 ob (aN 8 v4.2.1) fun xN =>
 ob (fC (k + 15) v0 v1 v2 v4) fun x40 =>
 bif !x40 then
 some (xf,(v4.1,xN,v4.2.2),[])
 else
 ob (idx xN 0) fun xm =>
 bif v4.1 == 0 then
 ob (aJ xf 3) fun x42 =>
 bif x42 != 0 then
 bif room 1 24 then
 bif decide (1 ≤ (↑xN.length : Int)) then
 some (xf,(0,(List.drop (Int.toNat 1) xN),(0,0,0,0,0,0,0)),([(1,xm,v3)]))
 else
 none
 else
 none
 else
 some (xf,(1,xN,v4.2.2),[])
 else
 bif v4.1 == 1 then
 ob (dI xf 0 1) fun x43 =>
 ob (aK 3 v3 (IntKind.u64.wrap xm)) fun x44 =>
 some (x43.1,(2,xN,x44),[])
 else
 bif v4.1 == 2 then
 bif v4.2.2.1 == 3 then
 ob (bD v0 xf v4.2.2) fun xv =>
 ob (aM xv.2) fun xr =>
 bif !xr then
 some (xv.1,(v4.1,xN,xv.2),[])
 else
 bif xv.2.2.2.2.2.2.2 != 2 then
 bif room 1 24 then
 some (xv.1,(3,xN,xv.2),([(0,xm,v3)]))
 else
 none
 else
 some (xv.1,(5,xN,xv.2),[])
 else
 bif v4.2.2.1 == 4 then
 ob (bD v0 xf v4.2.2) fun xu =>
 ob (aM xu.2) fun x48 =>
 bif !x48 then
 some (xu.1,(v4.1,xN,xu.2),[])
 else
 bif xu.2.2.2.2.2.2.2 != 2 then
 bif room 1 24 then
 some (xu.1,(3,xN,xu.2),([(0,xm,v3)]))
 else
 none
 else
 some (xu.1,(5,xN,xu.2),[])
 else
 ob (ct (k + 20) v0 xf v4.2.2) fun x49 =>
 ob (aM x49.2) fun x50 =>
 bif !x50 then
 some (x49.1,(v4.1,xN,x49.2),[])
 else
 bif x49.2.2.2.2.2.2.2 != 2 then
 bif room 1 24 then
 some (x49.1,(3,xN,x49.2),([(0,xm,v3)]))
 else
 none
 else
 some (x49.1,(5,xN,x49.2),[])
 else
 bif v4.1 == 3 then
 ob (aJ xf 1) fun x51 =>
 bif x51 != 0 then
 bif decide (1 ≤ (↑xN.length : Int)) then
 some (xf,(0,(List.drop (Int.toNat 1) xN),(0,0,0,0,0,0,0)),[])
 else
 none
 else
 ob (aK 6 v3 0) fun x52 =>
 some (xf,(4,xN,x52),[])
 else
 bif v4.1 == 4 then
 bif v4.2.2.1 == 3 then
 ob (bD v0 xf v4.2.2) fun x53 =>
 ob (aM x53.2) fun xg =>
 bif xg then
 bif decide (1 ≤ (↑xN.length : Int)) then
 some (x53.1,(0,(List.drop (Int.toNat 1) xN),(0,0,0,0,0,0,0)),[])
 else
 none
 else
 some (x53.1,(v4.1,xN,x53.2),[])
 else
 bif v4.2.2.1 == 4 then
 ob (bD v0 xf v4.2.2) fun x55 =>
 ob (aM x55.2) fun x56 =>
 bif x56 then
 bif decide (1 ≤ (↑xN.length : Int)) then
 some (x55.1,(0,(List.drop (Int.toNat 1) xN),(0,0,0,0,0,0,0)),[])
 else
 none
 else
 some (x55.1,(v4.1,xN,x55.2),[])
 else
 ob (ct (k + 20) v0 xf v4.2.2) fun x57 =>
 ob (aM x57.2) fun x58 =>
 bif x58 then
 bif decide (1 ≤ (↑xN.length : Int)) then
 some (x57.1,(0,(List.drop (Int.toNat 1) xN),(0,0,0,0,0,0,0)),[])
 else
 none
 else
 some (x57.1,(v4.1,xN,x57.2),[])
 else
 bif v4.1 == 5 then
 ob (dI xf 0 18446744073709551615) fun xZ =>
 bif room 1 24 then
 bif xZ.2 == 1 then
 bif room 2 24 then
 bif decide (1 ≤ (↑xN.length : Int)) then
 some (xZ.1,(0,(List.drop (Int.toNat 1) xN),(0,0,0,0,0,0,0)),([(1,xm,v3),(5,0,v3)]))
 else
 none
 else
 none
 else
 bif decide (1 ≤ (↑xN.length : Int)) then
 some (xZ.1,(0,(List.drop (Int.toNat 1) xN),(0,0,0,0,0,0,0)),([(1,xm,v3)]))
 else
 none
 else
 none
 else
 none
theorem ug (k : Nat) (v0_0 v0_1 v0_2 v0_3 : Int) (v1 : List (Int × List Int)) (v2 : List Int) (v3 v4_0 : Int) (v4_1 : List Int) (v4_2_0 v4_2_1 v4_2_2 v4_2_3 v4_2_4 v4_2_5 v4_2_6 : Int) : xC (k + 40) none 86 [.agg [.lit (.int .i64 v0_0),.lit (.int .i64 v0_1),.lit (.int .i64 v0_2),.lit (.int .i64 v0_3)],.ro (List.map ak v1),.ro (List.map (av .u64) v2),.lit (.int .i64 v3),.agg [.lit (.int .i64 v4_0),.ro (List.map (av .i64) v4_1),.lit (.int .i64 v4_2_0),.lit (.int .i64 v4_2_1),.lit (.int .i64 v4_2_2),.lit (.int .u64 v4_2_3),.lit (.int .u64 v4_2_4),.lit (.int .u64 v4_2_5),.lit (.int .i64 v4_2_6)]] = ob (fS k (v0_0,v0_1,v0_2,v0_3) v1 v2 v3 (v4_0,v4_1,(v4_2_0,v4_2_1,v4_2_2,v4_2_3,v4_2_4,v4_2_5,v4_2_6))) fun r => some ((.tup [.ro (List.map (av .u64) r.1),.agg [.lit (.int .i64 r.2.1.1),.ro (List.map (av .i64) r.2.1.2.1),.lit (.int .i64 r.2.1.2.2.1),.lit (.int .i64 r.2.1.2.2.2.1),.lit (.int .i64 r.2.1.2.2.2.2.1),.lit (.int .u64 r.2.1.2.2.2.2.2.1),.lit (.int .u64 r.2.1.2.2.2.2.2.2.1),.lit (.int .u64 r.2.1.2.2.2.2.2.2.2.1),.lit (.int .i64 r.2.1.2.2.2.2.2.2.2.2)],.ro (List.map az r.2.2)]),[]) := by
  rw [aD]
  unfold fS
  simp -implicitDefEqProofs only [aq9,aqy,alD,anK,ajh,aij,anR,alM,aaz,Yr,I6,JM,akJ,anm,ami,ai1,ams,aiG,anB,aiB,ajp,aiC,aki,an5,↓syI,↓syP,syA,syD,simprocAttr,syE,af,ae,aa,syW,xQ,dE,Dx,oz,fJ,Ag,u2,pw]
  all_goals simp -implicitDefEqProofs only [List.map_nil]
def iK (v0:Tys):Option Bool:=
 some (v0.1 !=0)
theorem Fa (k:Nat) (v0_0:Int) (v0_1:List Int) (v0_2_0 v0_2_1 v0_2_2 v0_2_3 v0_2_4 v0_2_5 v0_2_6:Int):xC (k+1) none 28 [.agg [.lit (.int .i64 v0_0),.ro (List.map (av .i64) v0_1),.lit (.int .i64 v0_2_0),.lit (.int .i64 v0_2_1),.lit (.int .i64 v0_2_2),.lit (.int .u64 v0_2_3),.lit (.int .u64 v0_2_4),.lit (.int .u64 v0_2_5),.lit (.int .i64 v0_2_6)]]=ob (iK (v0_0,v0_1,(v0_2_0,v0_2_1,v0_2_2,v0_2_3,v0_2_4,v0_2_5,v0_2_6))) fun r=>some ((.lit (.bool r)),[]):=by
 rw [aD]
 unfold iK
 simp -implicitDefEqProofs only [aq0,aqJ,↓syI,↓syP,syA,syD,simprocAttr,syE,af,ae,aa,syW,xQ]
def kX (v0:(List Int)):Option Tys:=
 ob (aN 8 v0) fun x86=>
 some (0,x86,(0,0,0,0,0,0,0))
theorem oY (k:Nat) (v0:List Int):xC (k+2) none 63 [.ro (List.map (av .i64) v0)]=ob (kX v0) fun r=>some ((.agg [.lit (.int .i64 r.1),.ro (List.map (av .i64) r.2.1),.lit (.int .i64 r.2.2.1),.lit (.int .i64 r.2.2.2.1),.lit (.int .i64 r.2.2.2.2.1),.lit (.int .u64 r.2.2.2.2.2.1),.lit (.int .u64 r.2.2.2.2.2.2.1),.lit (.int .u64 r.2.2.2.2.2.2.2.1),.lit (.int .i64 r.2.2.2.2.2.2.2.2)]),[]):=by
 rw [aD]
 unfold kX
 simp -implicitDefEqProofs only [ap5,apR,↓syI,↓syP,syA,syD,simprocAttr,syE,af,ae,aa,syW,xQ]
end Go.Ab
set_option maxRecDepth 100000
set_option linter.unusedVariables false
set_option linter.unusedSimpArgs false
namespace Go.Ab
open Go.Proofs
def Bp {β:Type} (k:Nat) (c:Int×Int×Int×Int) (m:List Int) (f:Int×Int×Int×Int×Int×Int×Int) (K:List Int×(Int×Int×Int×Int×Int×Int×Int)→Option β):Option β:=
 (bif f.1==0 then (bif f.1==0 then ob (fB (k+31) c m f) K else (bif f.1==3 then (bif f.1==3 then ob (bD c m f) K else ob (ct (k+40) c m f) K) else (bif f.1==4 then ob (bD c m f) K else ob (ct (k+40) c m f) K))) else (bif f.1==1 then (bif f.1==1 then ob (fB (k+31) c m f) K else (bif f.1==3 then (bif f.1==3 then ob (bD c m f) K else ob (ct (k+40) c m f) K) else (bif f.1==4 then ob (bD c m f) K else ob (ct (k+40) c m f) K))) else (bif f.1==2 then ob (fB (k+31) c m f) K else (bif f.1==3 then (bif f.1==3 then ob (bD c m f) K else ob (ct (k+40) c m f) K) else (bif f.1==4 then ob (bD c m f) K else ob (ct (k+40) c m f) K)))))
def iY (k : Nat) (v0 : (Int × Int × Int × Int)) (v1 : (List (Int × List Int))) (v2 : (List Int)) (v3 : Int) (v4 : (Int × List (Int × Int × Int) × (Int × Int × Int × Int × Int × Int × Int) × Int × Int)) (v5 : Int) : Option ((List Int) × (Int × List (Int × Int × Int) × (Int × Int × Int × Int × Int × Int × Int) × Int × Int) × (List (Int × Int × Int))) :=
 ob (aN 8 v2) fun xE =>
 ob (aN 24 v4.2.1) fun xB =>
 ob (lX (k + 35) v0 v1 v2 v3 v4) fun x472 =>
 bif !x472 then
 some (xE,(v4.1,xB,v4.2.2),[])
 else
 bif v4.1 == 0 then
 Bp k v0 xE v4.2.2.1 fun xs =>
 ob (aM xs.2) fun x474 =>
 bif !x474 then
 some (xs.1,(v4.1,xB,xs.2,v4.2.2.2),[])
 else
 bif xs.2.2.2.2.2.2.2 != 1 then
 some (xs.1,(1,xB,(0,0,0,0,0,0,0),v4.2.2.2),[])
 else
 ob (dL (k + 36) v1 xB (IntKind.i64.wrap xs.2.2.2.2.1)) fun x475 =>
 bif room 1 24 then
 some (xs.1,(9,x475,(0,0,0,0,0,0,0),v4.2.2.2),([(2,IntKind.i64.wrap xs.2.2.2.2.1,v3)]))
 else
 none
 else
 bif v4.1 == 1 then
 ob (dI xE 1 1) fun x518 =>
 ob (aK 4 v3 0) fun x519 =>
 some (x518.1,(2,xB,x519,v0.2.2.2,v4.2.2.2.2),[])
 else
 bif v4.1 == 2 then
 ob (f4 v5 v3 v0.1) fun x520 =>
 Bp k v0 xE v4.2.2.1 fun xi =>
 ob (aM xi.2) fun x522 =>
 bif !x522 then
 some (xi.1,(v4.1,xB,xi.2,v4.2.2.2),[])
 else
 bif xi.2.2.2.2.2.2.2 == 1 then
 some (xi.1,(4,xB,xi.2,v4.2.2.2),[])
 else
 bif v4.1 == 2 then
 bif decide (0 ≤ x520) then
 ob (aK 2 x520 0) fun x523 =>
 some (xi.1,(3,xB,x523,v4.2.2.2),[])
 else
 bif decide (v4.2.2.2.1 ≤ 0) then
 ob (aK 5 v3 0) fun x524 =>
 some (xi.1,(5,xB,x524,v4.2.2.2),[])
 else
 ob (aK 4 v3 0) fun x525 =>
 some (xi.1,(2,xB,x525,(IntKind.i64.wrap (v4.2.2.2.1 - 1)),v4.2.2.2.2),[])
 else
 bif decide (v4.2.2.2.1 ≤ 0) then
 ob (aK 5 v3 0) fun x526 =>
 some (xi.1,(5,xB,x526,v4.2.2.2),[])
 else
 ob (aK 4 v3 0) fun x527 =>
 some (xi.1,(2,xB,x527,(IntKind.i64.wrap (v4.2.2.2.1 - 1)),v4.2.2.2.2),[])
 else
 bif v4.1 == 3 then
 ob (f4 v5 v3 v0.1) fun x626 =>
 Bp k v0 xE v4.2.2.1 fun xj =>
 ob (aM xj.2) fun x628 =>
 bif !x628 then
 some (xj.1,(v4.1,xB,xj.2,v4.2.2.2),[])
 else
 bif xj.2.2.2.2.2.2.2 == 1 then
 some (xj.1,(4,xB,xj.2,v4.2.2.2),[])
 else
 bif v4.1 == 2 then
 bif decide (0 ≤ x626) then
 ob (aK 2 x626 0) fun x629 =>
 some (xj.1,(3,xB,x629,v4.2.2.2),[])
 else
 bif decide (v4.2.2.2.1 ≤ 0) then
 ob (aK 5 v3 0) fun x630 =>
 some (xj.1,(5,xB,x630,v4.2.2.2),[])
 else
 ob (aK 4 v3 0) fun x631 =>
 some (xj.1,(2,xB,x631,(IntKind.i64.wrap (v4.2.2.2.1 - 1)),v4.2.2.2.2),[])
 else
 bif decide (v4.2.2.2.1 ≤ 0) then
 ob (aK 5 v3 0) fun x632 =>
 some (xj.1,(5,xB,x632,v4.2.2.2),[])
 else
 ob (aK 4 v3 0) fun x633 =>
 some (xj.1,(2,xB,x633,(IntKind.i64.wrap (v4.2.2.2.1 - 1)),v4.2.2.2.2),[])
 else
 bif v4.1 == 4 then
 ob (dI xE 1 18446744073709551615) fun x732 =>
 bif x732.2 == 1 then
 ob (aK 6 v3 0) fun x733 =>
 ob (dL (k + 36) v1 xB (IntKind.i64.wrap v4.2.2.1.2.2.2.1)) fun x734 =>
 bif room 1 24 then
 some (x732.1,(14,x734,x733,v4.2.2.2),([(2,IntKind.i64.wrap v4.2.2.1.2.2.2.1,v3)]))
 else
 none
 else
 ob (dL (k + 36) v1 xB (IntKind.i64.wrap v4.2.2.1.2.2.2.1)) fun x735 =>
 bif room 1 24 then
 some (x732.1,(9,x735,(0,0,0,0,0,0,0),v4.2.2.2),([(2,IntKind.i64.wrap v4.2.2.1.2.2.2.1,v3)]))
 else
 none
 else
 bif v4.1 == 5 then
 Bp k v0 xE v4.2.2.1 fun x736 =>
 ob (aM x736.2) fun x737 =>
 some (x736.1,(6,xB,x736.2,v4.2.2.2),[])
 else
 bif v4.1 == 6 then
 ob (dI xE 1 18446744073709551615) fun x766 =>
 some (x766.1,(7,xB,v4.2.2.1,v4.2.2.2.1,0),[])
 else
 bif v4.1 == 7 then
 bif decide (v4.2.2.2.2 < 0) then
 some (xE,(8,xB,(v4.2.2.1.1,v4.2.2.1.2.1,v4.2.2.1.2.2.1,0,v4.2.2.1.2.2.2.2),v4.2.2.2.1,0),[])
 else
 bif decide (IntKind.i64.wrap (2 + IntKind.i64.wrap (2 * v0.1)) ≤ v4.2.2.2.2) then
 some (xE,(8,xB,(v4.2.2.1.1,v4.2.2.1.2.1,v4.2.2.1.2.2.1,0,v4.2.2.1.2.2.2.2),v4.2.2.2.1,0),[])
 else
 bif v4.2.2.2.2 == 0 then
 ob (aJ xE 4) fun x767 =>
 bif IntKind.i64.wrap (v4.2.2.2.2 + 1) == IntKind.i64.wrap (2 + IntKind.i64.wrap (2 * v0.1)) then
 some (xE,(8,xB,(v4.2.2.1.1,v4.2.2.1.2.1,v4.2.2.1.2.2.1,0,v4.2.2.1.2.2.2.2),v4.2.2.2.1,0),[])
 else
 some (xE,(v4.1,xB,(v4.2.2.1.1,v4.2.2.1.2.1,v4.2.2.1.2.2.1,x767,v4.2.2.1.2.2.2.2),v4.2.2.2.1,(IntKind.i64.wrap (v4.2.2.2.2 + 1))),[])
 else
 bif v4.2.2.2.2 == 1 then
 ob (aJ xE 5) fun x768 =>
 bif x768 != v4.2.2.1.2.2.2.1 then
 some (xE,(1,xB,(0,0,0,0,0,0,0),v4.2.2.2),[])
 else
 bif IntKind.i64.wrap (v4.2.2.2.2 + 1) == IntKind.i64.wrap (2 + IntKind.i64.wrap (2 * v0.1)) then
 some (xE,(8,xB,(v4.2.2.1.1,v4.2.2.1.2.1,v4.2.2.1.2.2.1,0,v4.2.2.1.2.2.2.2),v4.2.2.2.1,0),[])
 else
 some (xE,(v4.1,xB,v4.2.2.1,v4.2.2.2.1,(IntKind.i64.wrap (v4.2.2.2.2 + 1))),[])
 else
 bif v4.2.2.2.2.tmod 2 == 0 then
 ob (kS v0 (IntKind.i64.wrap ((IntKind.i64.wrap (v4.2.2.2.2 - 2)).tdiv 2))) fun x769 =>
 ob (aJ xE x769) fun x770 =>
 bif IntKind.i64.wrap (v4.2.2.2.2 + 1) == IntKind.i64.wrap (2 + IntKind.i64.wrap (2 * v0.1)) then
 some (xE,(8,xB,(v4.2.2.1.1,v4.2.2.1.2.1,v4.2.2.1.2.2.1,0,v4.2.2.1.2.2.2.2),v4.2.2.2.1,0),[])
 else
 some (xE,(v4.1,xB,(v4.2.2.1.1,v4.2.2.1.2.1,v4.2.2.1.2.2.1,x770,v4.2.2.1.2.2.2.2),v4.2.2.2.1,(IntKind.i64.wrap (v4.2.2.2.2 + 1))),[])
 else
 ob (dQ v0 (IntKind.i64.wrap ((IntKind.i64.wrap (v4.2.2.2.2 - 2)).tdiv 2))) fun x771 =>
 ob (aJ xE x771) fun x772 =>
 ob (fU x772 v4.2.2.1.2.2.2.1) fun x773 =>
 bif decide (0 < x773) then
 some (xE,(1,xB,(0,0,0,0,0,0,0),v4.2.2.2),[])
 else
 bif IntKind.i64.wrap (v4.2.2.2.2 + 1) == IntKind.i64.wrap (2 + IntKind.i64.wrap (2 * v0.1)) then
 some (xE,(8,xB,(v4.2.2.1.1,v4.2.2.1.2.1,v4.2.2.1.2.2.1,0,v4.2.2.1.2.2.2.2),v4.2.2.2.1,0),[])
 else
 some (xE,(v4.1,xB,v4.2.2.1,v4.2.2.2.1,(IntKind.i64.wrap (v4.2.2.2.2 + 1))),[])
 else
 bif v4.1 == 8 then
 Bp k v0 xE v4.2.2.1 fun x774 =>
 ob (aM x774.2) fun x775 =>
 bif x775 then
 some (x774.1,(1,xB,(0,0,0,0,0,0,0),v4.2.2.2),[])
 else
 some (x774.1,(v4.1,xB,x774.2,v4.2.2.2),[])
 else
 bif v4.1 == 9 then
 ob (eH (k + 37) v1 xB) fun x804 =>
 bif x804.1 == 1 then
 ob (gQ (k + 36) v1 xB) fun x805 =>
 some (xE,(v4.1,x805,v4.2.2),[])
 else
 bif x804.1 == 2 then
 some (xE,(10,xB,v4.2.2),[])
 else
 bif x804.1 == 3 then
 some (xE,(15,xB,v4.2.2),[])
 else
 ob (aK 1 v3 0) fun x806 =>
 some (xE,(0,xB,x806,v4.2.2.2),[])
 else
 bif v4.1 == 10 then
 ob (eH (k + 37) v1 xB) fun x807 =>
 bif x807.1 != 2 then
 some (xE,(9,xB,(0,0,0,0,0,0,0),v4.2.2.2),[])
 else
 ob (dI xE 0 1) fun x808 =>
 bif room 1 24 then
 ob (gQ (k + 36) v1 xB) fun x809 =>
 ob (aK 0 v3 (IntKind.u64.wrap x807.2)) fun x810 =>
 some (x808.1,(11,x809,x810,v4.2.2.2),([(3,x807.2,v3)]))
 else
 none
 else
 bif v4.1 == 11 then
 Bp k v0 xE v4.2.2.1 fun xz =>
 ob (aM xz.2) fun x812 =>
 bif !x812 then
 some (xz.1,(v4.1,xB,xz.2,v4.2.2.2),[])
 else
 bif xz.2.2.2.2.2.2.2 == 2 then
 ob (aK 3 v3 xz.2.2.2.2.1) fun x813 =>
 some (xz.1,(12,xB,x813,v4.2.2.2),[])
 else
 some (xz.1,(13,xB,(0,0,0,0,0,0,0),v4.2.2.2),[])
 else
 bif v4.1 == 12 then
 Bp k v0 xE v4.2.2.1 fun xt =>
 ob (aM xt.2) fun x857 =>
 bif !x857 then
 some (xt.1,(v4.1,xB,xt.2,v4.2.2.2),[])
 else
 bif xt.2.2.2.2.2.2.2 == 2 then
 ob (dL (k + 36) v1 xB (IntKind.i64.wrap xt.2.2.2.2.1)) fun x858 =>
 bif room 1 24 then
 some (xt.1,(9,x858,(0,0,0,0,0,0,0),v4.2.2.2),([(2,IntKind.i64.wrap xt.2.2.2.2.1,v3)]))
 else
 none
 else
 some (xt.1,(13,xB,(0,0,0,0,0,0,0),v4.2.2.2),[])
 else
 bif v4.1 == 13 then
 ob (aJ xE 1) fun x901 =>
 bif x901 == 0 then
 ob (aK 6 v3 0) fun x902 =>
 some (xE,(14,xB,x902,v4.2.2.2),[])
 else
 some (xE,(9,xB,(0,0,0,0,0,0,0),v4.2.2.2),[])
 else
 bif v4.1 == 14 then
 Bp k v0 xE v4.2.2.1 fun x903 =>
 ob (aM x903.2) fun x904 =>
 bif x904 then
 some (x903.1,(9,xB,(0,0,0,0,0,0,0),v4.2.2.2),[])
 else
 some (x903.1,(v4.1,xB,x903.2,v4.2.2.2),[])
 else
 bif v4.1 == 15 then
 ob (eH (k + 37) v1 xB) fun x933 =>
 bif x933.1 != 3 then
 some (xE,(9,xB,(0,0,0,0,0,0,0),v4.2.2.2),[])
 else
 ob (dI xE 0 18446744073709551615) fun x934 =>
 bif room 1 24 then
 bif x934.2 == 1 then
 bif room 2 24 then
 ob (gQ (k + 36) v1 xB) fun x935 =>
 bif (↑x935.length : Int) == 0 then
 ob (aK 1 v3 0) fun x936 =>
 some (x934.1,(0,x935,x936,v4.2.2.2),([(4,x933.2,v3),(5,0,v3)]))
 else
 some (x934.1,(9,x935,(0,0,0,0,0,0,0),v4.2.2.2),([(4,x933.2,v3),(5,0,v3)]))
 else
 none
 else
 ob (gQ (k + 36) v1 xB) fun x937 =>
 bif (↑x937.length : Int) == 0 then
 ob (aK 1 v3 0) fun x938 =>
 some (x934.1,(0,x937,x938,v4.2.2.2),([(4,x933.2,v3)]))
 else
 some (x934.1,(9,x937,(0,0,0,0,0,0,0),v4.2.2.2),([(4,x933.2,v3)]))
 else
 none
 else
 none
set_option maxHeartbeats 4000000 in
theorem B5 (k : Nat) (v0_0 v0_1 v0_2 v0_3 : Int) (v1 : List (Int × List Int)) (v2 : List Int) (v3 v4_0 : Int) (v4_1 : List (Int × Int × Int)) (v4_2_0 v4_2_1 v4_2_2 v4_2_3 v4_2_4 v4_2_5 v4_2_6 v4_3 v4_4 v5 : Int) : xC (k + 60) none 83 [.agg [.lit (.int .i64 v0_0),.lit (.int .i64 v0_1),.lit (.int .i64 v0_2),.lit (.int .i64 v0_3)],.ro (List.map ak v1),.ro (List.map (av .u64) v2),.lit (.int .i64 v3),.agg [.lit (.int .i64 v4_0),.ro (List.map az v4_1),.lit (.int .i64 v4_2_0),.lit (.int .i64 v4_2_1),.lit (.int .i64 v4_2_2),.lit (.int .u64 v4_2_3),.lit (.int .u64 v4_2_4),.lit (.int .u64 v4_2_5),.lit (.int .i64 v4_2_6),.lit (.int .i64 v4_3),.lit (.int .i64 v4_4)],.lit (.int .u64 v5)] = ob (iY k (v0_0,v0_1,v0_2,v0_3) v1 v2 v3 (v4_0,v4_1,(v4_2_0,v4_2_1,v4_2_2,v4_2_3,v4_2_4,v4_2_5,v4_2_6),v4_3,v4_4) v5) fun r => some ((.tup [.ro (List.map (av .u64) r.1),.agg [.lit (.int .i64 r.2.1.1),.ro (List.map az r.2.1.2.1),.lit (.int .i64 r.2.1.2.2.1.1),.lit (.int .i64 r.2.1.2.2.1.2.1),.lit (.int .i64 r.2.1.2.2.1.2.2.1),.lit (.int .u64 r.2.1.2.2.1.2.2.2.1),.lit (.int .u64 r.2.1.2.2.1.2.2.2.2.1),.lit (.int .u64 r.2.1.2.2.1.2.2.2.2.2.1),.lit (.int .i64 r.2.1.2.2.1.2.2.2.2.2.2),.lit (.int .i64 r.2.1.2.2.2.1),.lit (.int .i64 r.2.1.2.2.2.2)],.ro (List.map az r.2.2)]),[]) := by
  rw [aD]
  unfold iY Bp
  simp (maxSteps := 2000000) -implicitDefEqProofs only [apO,apP,am7,ai7,anU,anl,ak6,alX,acn,Jq,akI,aiX,YJ,Jb,ajX,aiI,akf,ajD,als,amq,abP,X0,IO,I3,ak0,aj6,aiN,al3,ajF,amh,amD,alt,amT,al8,akZ,aiu,aol,aiY,ajA,aiz,aba,Ju,ajW,aiF,abC,XT,Jn,J6,aiq,ajN,amU,amY,akO,al7,anD,anb,aiP,amK,↓syI,↓syP,syA,syD,simprocAttr,syE,af,ae,aa,syW,xQ,dE,Dx,oz,fJ,oP,kW,nm,F2,Ag,u2,G9,Ah,NF,EW,DJ]
  all_goals simp -implicitDefEqProofs only [List.map_nil]
end Go.Ab
set_option maxRecDepth 100000
set_option linter.unusedVariables false
set_option linter.unusedSimpArgs false
namespace Go.Ab
open Go.Proofs
def kA (v0:(Int×Int×Int)) (v1:Int) (v2:Int):Option Bool:=
 bif v0.1==0 then
 ob (cM v0.2.1 v1) fun x4=>
 bif x4 then
 some true
 else
 bif v0.1==1 then
 ob (cM v0.2.1 v2) fun x5=>
 bif x5 then
 some true
 else
 bif v0.1==2 then
 some true
 else
 some (v0.1==3)
 else
 bif v0.1==2 then
 some true
 else
 some (v0.1==3)
 else
 bif v0.1==1 then
 ob (cM v0.2.1 v2) fun x6=>
 bif x6 then
 some true
 else
 bif v0.1==2 then
 some true
 else
 some (v0.1==3)
 else
 bif v0.1==2 then
 some true
 else
 some (v0.1==3)
theorem B7 (k:Nat) (v0_0 v0_1 v0_2 v1 v2:Int):xC (k+2) none 42 [.agg [.lit (.int .i64 v0_0),.lit (.int .i64 v0_1),.lit (.int .u64 v0_2)],.lit (.int .i64 v1),.lit (.int .i64 v2)]=ob (kA (v0_0,v0_1,v0_2) v1 v2) fun r=>some ((.lit (.bool r)),[]):=by
 rw [aD]
 unfold kA
 simp -implicitDefEqProofs only [ap8,apM,ady,adb,ad8,af4,ags,adm,afC,agp,ahB,MW,↓syI,↓syP,syA,syD,simprocAttr,syE,af,ae,aa,syW,xQ,kF]
def dp (k:Nat) (v0:Tyt)  : Nat→Tyt→Int→Int→Tyt→Option Tyt
 | 0,_,_,_,_=>none
 | n+1,sF,sC,sI,sS=>
 bif decide (sI<sC) then
 bif decide ((0:Int)≤sI∧sI.toNat<sF.length) then
 ob (sS[sI.toNat]?) fun xN=>
 ob (aN 8 xN.2) fun x40=>
 bif decide ((0:Int)≤sI∧sI.toNat<sF.length) then
 ob (sS[sI.toNat]?) fun xm=>
 dp k v0  n (sF) (sC) (IntKind.i64.wrap (sI+(1:Int))) (sS.set sI.toNat (xm.1,x40))
 else
 none
 else
 none
 else
 ck (decide (sF.length≤sS.length)) (
 some (List.take sF.length sS))
theorem uy (k:Nat) (v0:Tyt):∀ (n:Nat) (sF:Tyt) (sC sI:Int) (sS:Tyt) ⦃j29:V⦄,rt none (itX (xX (xS (k+1)) 58 0 (k+1) false) Ln (2) (bF (xX (xS (k+1)) 58 0 (k+1) false) (a7 (xS (k+1)).P Tryz.f58) Mi) n ⟨[.ro (List.map ak v0),uu,.own 0 0 0,.own 1 0 sF.length,j29,.ro (List.map ak v0),.own 1 0 sF.length,.own 1 0 sF.length,.lit (.int .i64 sC),.lit (.int .i64 sI),.junk,.junk,.junk,.junk,.junk,.junk,.junk,.junk,.junk,.junk,.junk,.junk,.junk,uu],[.rows 0 [] 0 true,.rows 2 (List.map ak sS) 0 true]⟩)=ob (dp k v0  n sF sC sI sS) fun r=>some ((.ro (List.map ak r)),[]):=by
 intro n
 induction n with
 | zero=>intros;rfl
 | succ n ih=>
  intro sF sC sI sS j29
  rw [dp]
  simp -implicitDefEqProofs only [ao6,aoU,ao2,Xi,En,↓syI,↓syP,syA,syD,simprocAttr,syE,af,ae,aa,syW,xQ,aeO,ih]
def dO (k:Nat) (v0:Tyt):Option Tyt:=
 ob (aN 32 v0) fun x42=>
 dp k v0 (k+1) x42 ((↑x42.length:Int)) 0 x42
theorem dj (k:Nat) (v0:Tyt):xC (k+2) none 58 [.ro (List.map ak v0)]=ob (dO k v0) fun r=>some ((.ro (List.map ak r)),[]):=by
 rw [aD]
 unfold dO
 simp -implicitDefEqProofs only [ao6,aoU,ao2,Xi,En,↓syI,↓syP,syA,syD,simprocAttr,syE,af,ae,aa,syW,xQ,uy k v0]
end Go.Ab
set_option maxRecDepth 100000
set_option linter.unusedVariables false
set_option linter.unusedSimpArgs false
namespace Go.Ab
open Go.Proofs
def cw (k:Nat)   : Nat→List Int→Int→Tyt→Int→Option Int
 | 0,_,_,_,_=>none
 | n+1,s20,s21,sj,sX=>
 bif decide (sX<s21) then
 ob (idx s20 sX) fun xr=>
 bif decide (xr<(0:Int)) then
 some (sX)
 else
 bif decide ((↑sj.length:Int)≤xr) then
 some (sX)
 else
 cw k   n (s20) (s21) (sj) (IntKind.i64.wrap (sX+(1:Int)))
 else
 some ((-1:Int))
theorem rR (k:Nat)  : ∀ (n:Nat) (s20:List Int) (s21:Int) (sj:Tyt) (sX:Int) ⦃s22 sF sC s25:Int⦄ ⦃sT:List Int⦄ ⦃sf:List Tyw⦄ ⦃sR:List Tys⦄ ⦃sI sS s32 s33 sx sy sq sh:Int⦄ ⦃j39:V⦄,itX (xX (xS (k+29)) 97 0 (k+29) false) BG (4) (bF (xX (xS (k+29)) 97 0 (k+29) false) (a7 (xS (k+29)).P Tryz.f97) Cf) n ⟨[.ro (List.map (av IntKind.i64) s20),.fn (Fn.func (54:FuncId)) [] [.ptr 0 0 0 0],uu,uu,.lit (.int .i64 (0:Int)),j39,.ro (List.map (av IntKind.i64) s20),.lit (.int .i64 s21),.lit (.int .i64 sX),.junk,.junk,.junk,.junk,.junk,.junk,.junk,.junk,.junk,.junk],[.box [.lit (.int .i64 s22),.lit (.int .i64 sF),.lit (.int .i64 sC),.lit (.int .i64 s25),.ro (List.map ak sj),.ro (List.map (av IntKind.u64) sT),.ro (List.map aF sf),.ro (List.map bn sR)],.box [.lit (.bool false)],.box [.lit (.int .i64 s22),.lit (.int .i64 sF),.lit (.int .i64 sC),.lit (.int .i64 s25),.ro (List.map ak sj),.ro (List.map (av IntKind.u64) sT),.ro (List.map aF sf),.ro (List.map bn sR)],.box [.lit (.int .i64 sI),.ro (List.map (av IntKind.i64) s20),.lit (.int .i64 sS),.lit (.int .i64 s32),.lit (.int .i64 s33),.lit (.int .u64 sx),.lit (.int .u64 sy),.lit (.int .u64 sq),.lit (.int .i64 sh)]]⟩=ob (cw k   n s20 s21 sj sX) fun r=>some ((.lit (.int .i64 r),[.box [.lit (.int .i64 s22),.lit (.int .i64 sF),.lit (.int .i64 sC),.lit (.int .i64 s25),.ro (List.map ak sj),.ro (List.map (av IntKind.u64) sT),.ro (List.map aF sf),.ro (List.map bn sR)],.box [.lit (.bool false)],.box [.lit (.int .i64 s22),.lit (.int .i64 sF),.lit (.int .i64 sC),.lit (.int .i64 s25),.ro (List.map ak sj),.ro (List.map (av IntKind.u64) sT),.ro (List.map aF sf),.ro (List.map bn sR)],.box [.lit (.int .i64 sI),.ro (List.map (av IntKind.i64) s20),.lit (.int .i64 sS),.lit (.int .i64 s32),.lit (.int .i64 s33),.lit (.int .u64 sx),.lit (.int .u64 sy),.lit (.int .u64 sq),.lit (.int .i64 sh)]])):=by
 intro n
 induction n with
 | zero=>intros;rfl
 | succ n ih=>
  intro s20 s21 sj sX s22 sF sC s25 sT sf sR sI sS s32 s33 sx sy sq sh j39
  rw [cw]
  simp -implicitDefEqProofs only [ah7,ah4,ah5,Ld,Lm,LY,gq,gp,pV,pU,uo,aib,ahZ,aD (g:=51),S2,Sq,ah2,aia,Lq,Me,Lr,L3,KZ,Mz,Lk,LN,pM,aid,ah0,KS,pI,Sf,Sk,ahR,ahU,ah1,MG,KN,pR,pZ,NK,NL,Nc,na,dm,LK,KI,La,mQ,cO,↓syI,↓syP,syA,syD,simprocAttr,syE,af,ae,aa,syW,xQ,MF,ih]
def bU (k:Nat)   : Nat→List Tys→Int→Tyt→Int→Option Int
 | 0,_,_,_,_=>none
 | n+1,s9,se,sG,sY=>
 bif decide (sY<se) then
 ob (idx s9 sY) fun xZ=>
 bif decide (xZ.1<(0:Int)) then
 some (sY)
 else
 bif decide ((6:Int)≤xZ.1) then
 some (sY)
 else
 ob (cw k (k+29) xZ.2.1 (↑xZ.2.1.length:Int) sG (0:Int)) fun x60=>
 bif decide ((0:Int)≤x60) then
 some (sY)
 else
 bif xZ.1 !=(0:Int) then
 bif (↑xZ.2.1.length:Int)==(0:Int) then
 some (sY)
 else
 bU k   n (s9) (se) (sG) (IntKind.i64.wrap (sY+(1:Int)))
 else
 bU k   n (s9) (se) (sG) (IntKind.i64.wrap (sY+(1:Int)))
 else
 some ((-1:Int))
theorem rV (k:Nat)  : ∀ (n:Nat) (s9:List Tys) (se:Int) (sG:Tyt) (sY:Int) ⦃s11 sJ sD s14:Int⦄ ⦃sp:List Int⦄ ⦃sO:List Tyw⦄ ⦃j49:V⦄,itX (xX (xS (k+32)) 96 0 (k+32) false) Ea (3) (bF (xX (xS (k+32)) 96 0 (k+32) false) (a7 (xS (k+32)).P Tryz.f96) D6) n ⟨[.ro (List.map bn s9),.fn (Fn.func (53:FuncId)) [] [.ptr 0 0 0 0],uu,uu,.lit (.int .i64 (0:Int)),j49,.ro (List.map bn s9),.lit (.int .i64 se),.lit (.int .i64 sY),.junk,.junk,.junk,.junk,.junk,.junk,.junk,.junk,.junk,.junk],[.box [.lit (.int .i64 s11),.lit (.int .i64 sJ),.lit (.int .i64 sD),.lit (.int .i64 s14),.ro (List.map ak sG),.ro (List.map (av IntKind.u64) sp),.ro (List.map aF sO),.ro (List.map bn s9)],.box [.lit (.bool false)],.box [.lit (.int .i64 s11),.lit (.int .i64 sJ),.lit (.int .i64 sD),.lit (.int .i64 s14),.ro (List.map ak sG),.ro (List.map (av IntKind.u64) sp),.ro (List.map aF sO),.ro (List.map bn s9)]]⟩=ob (bU k   n s9 se sG sY) fun r=>some ((.lit (.int .i64 r),[.box [.lit (.int .i64 s11),.lit (.int .i64 sJ),.lit (.int .i64 sD),.lit (.int .i64 s14),.ro (List.map ak sG),.ro (List.map (av IntKind.u64) sp),.ro (List.map aF sO),.ro (List.map bn s9)],.box [.lit (.bool false)],.box [.lit (.int .i64 s11),.lit (.int .i64 sJ),.lit (.int .i64 sD),.lit (.int .i64 s14),.ro (List.map ak sG),.ro (List.map (av IntKind.u64) sp),.ro (List.map aF sO),.ro (List.map bn s9)]])):=by
 intro n
 induction n with
 | zero=>intros;rfl
 | succ n ih=>
  intro s9 se sG sY s11 sJ sD s14 sp sO j49
  rw [bU]
  simp -implicitDefEqProofs only [ah7,ah4,ah5,Ld,Lm,LY,gq,gp,pV,pU,uo,aib,ahZ,aD (g:=51),S2,Sq,ah2,aia,Lq,Me,Lr,L3,KZ,Mz,Lk,LN,pM,aid,ah0,KS,pI,Sf,Sk,ahR,ahU,ah1,MG,KN,pR,pZ,NK,NL,Nc,na,dm,LK,KI,La,mQ,cO,↓syI,↓syP,syA,syD,simprocAttr,syE,af,ae,aa,syW,xQ,rR,Ri,ih]
def eP (k:Nat) (v0:Typ)  : Nat→Int→Option Bool
 | 0,_=>none
 | n+1,s67=>
 bif decide (s67<(↑v0.2.2.2.1.length:Int)) then
 ob (idx v0.2.2.2.1 s67) fun xh=>
 ob (lX (k+9) (v0.1.1,v0.1.2.1,v0.1.2.2.1,v0.1.2.2.2) v0.2.1 v0.2.2.1 s67 (xh.1,xh.2.1,(xh.2.2.1.1,xh.2.2.1.2.1,xh.2.2.1.2.2.1,xh.2.2.1.2.2.2.1,xh.2.2.1.2.2.2.2.1,xh.2.2.1.2.2.2.2.2.1,xh.2.2.1.2.2.2.2.2.2),xh.2.2.2.1,xh.2.2.2.2)) fun x76=>
 bif !x76 then
 some (false)
 else
 eP k v0  n (IntKind.i64.wrap (s67+(1:Int)))
 else
 ob (bU k (k+32) v0.2.2.2.2 (↑v0.2.2.2.2.length:Int) v0.2.1 (0:Int)) fun x77=>
 some (!decide ((0:Int)≤x77))
theorem As (k:Nat) (v0_0_0 v0_0_1 v0_0_2 v0_0_3:Int) (v0_1:Tyt) (v0_2:List Int) (v0_3:List Tyw) (v0_4:List Tys):∀ (n:Nat) (s67:Int) ⦃s3 s4:Bool⦄ ⦃j65 j66:V⦄,rt none (bq (itX (xX (xS (k+33)) 94 0 (k+33) false) Gd (4) (bF (xX (xS (k+33)) 94 0 (k+33) false) (a7 (xS (k+33)).P Tryz.f94) LW) n ⟨[.yld 3,.ptr 2 0 0 0,uu,j65,j66,.ptr 2 0 0 6,.ro (List.map aF v0_3),.lit (.int .i64 (↑v0_3.length:Int)),.lit (.int .i64 s67),.junk,.junk,.junk,.junk,.junk,.junk,.junk,.junk,.junk,.junk,.junk,.junk,.junk,.junk,.junk,.junk,.junk,.junk,.junk,.junk,.junk],[.box [.lit (.int .i64 v0_0_0),.lit (.int .i64 v0_0_1),.lit (.int .i64 v0_0_2),.lit (.int .i64 v0_0_3),.ro (List.map ak v0_1),.ro (List.map (av IntKind.u64) v0_2),.ro (List.map aF v0_3),.ro (List.map bn v0_4)],.box [.lit (.bool false)],.box [.lit (.int .i64 v0_0_0),.lit (.int .i64 v0_0_1),.lit (.int .i64 v0_0_2),.lit (.int .i64 v0_0_3),.ro (List.map ak v0_1),.ro (List.map (av IntKind.u64) v0_2),.ro (List.map aF v0_3),.ro (List.map bn v0_4)],(.loop ⟨LoopState.ready,none,20,[.agg [.lit (.int .i64 v0_0_0),.lit (.int .i64 v0_0_1),.lit (.int .i64 v0_0_2),.lit (.int .i64 v0_0_3),.ro (List.map ak v0_1),.ro (List.map (av IntKind.u64) v0_2),.ro (List.map aF v0_3),.ro (List.map bn v0_4)],.ptr 0 0 0 0,.ptr 1 0 0 0,.ptr 0 0 0 0,.agg [.lit (.int .i64 v0_0_0),.lit (.int .i64 v0_0_1),.lit (.int .i64 v0_0_2),.lit (.int .i64 v0_0_3)],.lit (.bool s3),.lit (.bool s4),.lit (.bool false),.ptr 0 0 0 6,.ro (List.map aF v0_3),.lit (.int .i64 (↑v0_3.length:Int)),.ptr 0 0 0 0,.ptr 0 0 0 0,.lit (.int .i64 v0_0_0),.lit (.bool ((↑v0_3.length:Int)!=v0_0_0)),.lit (.bool ((↑v0_3.length:Int)!=v0_0_0)),.lit (.bool false),.ptr 0 0 0 7,.ro (List.map bn v0_4),.lit (.int .i64 (↑v0_4.length:Int)),.lit (.bool (decide ((3:Int)<(↑v0_4.length:Int)))),.lit (.bool (decide ((3:Int)<(↑v0_4.length:Int)))),.agg [.lit (.int .i64 v0_0_0),.lit (.int .i64 v0_0_1),.lit (.int .i64 v0_0_2),.lit (.int .i64 v0_0_3),.ro (List.map ak v0_1),.ro (List.map (av IntKind.u64) v0_2),.ro (List.map aF v0_3),.ro (List.map bn v0_4)],.fn (Fn.func (94:FuncId)) [] [.ptr 2 0 0 0],uu,uu,uu,uu,uu,uu],[(24:Tmp)],P8,RV⟩)]⟩) (rfK (bF (xX (xS (k+34)) 20 0 (k+34) false) (a7 (xS (k+34)).P Tryz.f20) K9) [.agg [.lit (.int .i64 v0_0_0),.lit (.int .i64 v0_0_1),.lit (.int .i64 v0_0_2),.lit (.int .i64 v0_0_3),.ro (List.map ak v0_1),.ro (List.map (av IntKind.u64) v0_2),.ro (List.map aF v0_3),.ro (List.map bn v0_4)],.ptr 0 0 0 0,.ptr 1 0 0 0,.ptr 0 0 0 0,.agg [.lit (.int .i64 v0_0_0),.lit (.int .i64 v0_0_1),.lit (.int .i64 v0_0_2),.lit (.int .i64 v0_0_3)],.lit (.bool s3),.lit (.bool s4),.lit (.bool false),.ptr 0 0 0 6,.ro (List.map aF v0_3),.lit (.int .i64 (↑v0_3.length:Int)),.ptr 0 0 0 0,.ptr 0 0 0 0,.lit (.int .i64 v0_0_0),.lit (.bool ((↑v0_3.length:Int)!=v0_0_0)),.lit (.bool ((↑v0_3.length:Int)!=v0_0_0)),.lit (.bool false),.ptr 0 0 0 7,.ro (List.map bn v0_4),.lit (.int .i64 (↑v0_4.length:Int)),.lit (.bool (decide ((3:Int)<(↑v0_4.length:Int)))),.lit (.bool (decide ((3:Int)<(↑v0_4.length:Int)))),.agg [.lit (.int .i64 v0_0_0),.lit (.int .i64 v0_0_1),.lit (.int .i64 v0_0_2),.lit (.int .i64 v0_0_3),.ro (List.map ak v0_1),.ro (List.map (av IntKind.u64) v0_2),.ro (List.map aF v0_3),.ro (List.map bn v0_4)],.fn (Fn.func (94:FuncId)) [] [.ptr 2 0 0 0],uu,uu,uu,uu,uu,uu] (3)))=ob (eP k ((v0_0_0,v0_0_1,v0_0_2,v0_0_3),v0_1,v0_2,v0_3,v0_4)  n s67) fun r=>some ((.lit (.bool r)),[]):=by
 intro n
 induction n with
 | zero=>intros;rfl
 | succ n ih=>
  intro s67 s3 s4 j65 j66
  rw [eP]
  simp -implicitDefEqProofs only [ah7,ah4,ah5,Ld,Lm,LY,gq,gp,pV,pU,uo,aib,ahZ,aD (g:=51),S2,Sq,ah2,aia,Lq,Me,Lr,L3,KZ,Mz,Lk,LN,pM,aid,ah0,KS,pI,Sf,Sk,ahR,ahU,ah1,MG,KN,pR,pZ,NK,NL,Nc,na,dm,LK,KI,La,mQ,cO,↓syI,↓syP,syA,syD,simprocAttr,syE,af,ae,aa,syW,xQ,cH,DJ,rV,agS,ih]
def fh (k:Nat) (v0:Typ):Option Bool:=
 ob (cg v0.1) fun xo=>
 bif !xo then
 some false
 else
 bif (↑v0.2.2.2.1.length:Int)!=v0.1.1 then
 some false
 else
 bif decide (3<(↑v0.2.2.2.2.length:Int)) then
 some false
 else
 eP k v0 (k+33) 0
theorem eu (k:Nat) (v0_0_0 v0_0_1 v0_0_2 v0_0_3:Int) (v0_1:Tyt) (v0_2:List Int) (v0_3:List Tyw) (v0_4:List Tys):xC (k+35) none 20 [.agg [.lit (.int .i64 v0_0_0),.lit (.int .i64 v0_0_1),.lit (.int .i64 v0_0_2),.lit (.int .i64 v0_0_3),.ro (List.map ak v0_1),.ro (List.map (av .u64) v0_2),.ro (List.map aF v0_3),.ro (List.map bn v0_4)]]=ob (fh k ((v0_0_0,v0_0_1,v0_0_2,v0_0_3),v0_1,v0_2,v0_3,v0_4)) fun r=>some ((.lit (.bool r)),[]):=by
 rw [aD]
 unfold fh
 simp -implicitDefEqProofs only [ah7,ah4,ah5,Ld,Lm,LY,gq,gp,pV,pU,uo,aib,ahZ,aD (g:=51),S2,Sq,ah2,aia,Lq,Me,Lr,L3,KZ,Mz,Lk,LN,pM,aid,ah0,KS,pI,Sf,Sk,ahR,ahU,ah1,MG,KN,pR,pZ,NK,NL,Nc,na,dm,LK,KI,La,mQ,cO,↓syI,↓syP,syA,syD,simprocAttr,syE,af,ae,aa,syW,xQ,cH,As k v0_0_0 v0_0_1 v0_0_2 v0_0_3 v0_1 v0_2 v0_3 v0_4]
end Go.Ab
set_option maxRecDepth 100000
set_option linter.unusedVariables false
set_option linter.unusedSimpArgs false
namespace Go.Ab
open Go.Proofs
def cU (k:Nat)   : Nat→Int→Int→Int→Int→Tyt→List Int→List Tyw→List Tys→Int→List Tyw→Int→List Tys→Option (Int×Int×Int×Int×Tyt×List Int×List Tyw×List Tys×List Tyw×List Tys)
 | 0,_,_,_,_,_,_,_,_,_,_,_,_=>none
 | n+1,sj,sT,sf,sR,sx,sy,sq,sh,sM,s47,so,sY=>
 bif decide (so<sM) then
 bif decide ((0:Int)≤so∧so.toNat<sh.length) then
 ob (sY[so.toNat]?) fun x76=>
 ob (aN 8 x76.2.1) fun x77=>
 bif decide ((0:Int)≤so∧so.toNat<sh.length) then
 ob (sY[so.toNat]?) fun xo=>
 cU k   n (sj) (sT) (sf) (sR) (sx) (sy) (sq) (sh) (sM) (s47) (IntKind.i64.wrap (so+(1:Int))) (sY.set so.toNat (xo.1,x77,xo.2.2.1,xo.2.2.2.1,xo.2.2.2.2.1,xo.2.2.2.2.2.1,xo.2.2.2.2.2.2.1,xo.2.2.2.2.2.2.2.1,xo.2.2.2.2.2.2.2.2))
 else
 none
 else
 none
 else
 some (sj,sT,sf,sR,sx,sy,sq,sh,s47,sY)
theorem rD (k:Nat)  : ∀ (n:Nat) (sj sT sf sR:Int) (sx:Tyt) (sy:List Int) (sq:List Tyw) (sh:List Tys) (sM:Int) (s47:List Tyw) (so:Int) (sY:List Tys) ⦃sI:Tyt⦄ ⦃sS:List Int⦄ ⦃s32:List Tyw⦄ ⦃s33:List Tys⦄ ⦃sa:Int⦄ ⦃j46 j48:V⦄,itX (xX (xS (k+61)) 41 0 (k+61) false) LI (8) (bF (xX (xS (k+61)) 41 0 (k+61) false) (a7 (xS (k+61)).P Tryz.f41) Le) n ⟨[.agg [.lit (.int .i64 sj),.lit (.int .i64 sT),.lit (.int .i64 sf),.lit (.int .i64 sR),.ro (List.map ak sI),.ro (List.map (av IntKind.u64) sS),.ro (List.map aF s32),.ro (List.map bn s33)],.ptr 0 0 0 0,.ptr 5 0 0 0,j46,j48,.ptr 0 0 0 4,.ro (List.map ak sI),.ro (List.map ak sx),.ptr 0 0 0 5,.ro (List.map (av IntKind.u64) sS),.ro (List.map (av IntKind.u64) sy),.ptr 0 0 0 4,.ptr 0 0 0 5,.ptr 0 0 0 6,.ro (List.map aF s32),.own 6 0 sq.length,.ptr 0 0 0 7,.ro (List.map bn s33),.own 7 0 sh.length,.ptr 0 0 0 6,.ptr 0 0 0 7,.ptr 0 0 0 6,.own 6 0 sq.length,.lit (.int .i64 sa),.junk,.junk,.junk,.junk,.junk,.junk,.junk,.junk,.junk,.junk,.junk,.junk,.junk,.junk,.junk,.junk,.ptr 0 0 0 7,.own 7 0 sh.length,.lit (.int .i64 sM),.lit (.int .i64 so),.junk,.junk,.junk,.junk,.junk,.junk,.junk,.junk,.junk,.junk,.junk,.junk,.junk,.junk,.junk,uu],[.box [.lit (.int .i64 sj),.lit (.int .i64 sT),.lit (.int .i64 sf),.lit (.int .i64 sR),.ro (List.map ak sx),.ro (List.map (av IntKind.u64) sy),.own 6 0 sq.length,.own 7 0 sh.length],.rows 0 [] 0 true,.rows 0 [] 0 true,.rows 0 [] 0 true,.rows 0 [] 0 true,.box [.lit (.int .i64 (0:Int)),.lit (.int .i64 (0:Int)),.lit (.int .i64 (0:Int)),.lit (.int .i64 (0:Int)),.own 1 0 0,.own 2 0 0,.own 3 0 0,.own 4 0 0],.rows 11 (List.map aF s47) 0 true,.rows 9 (List.map bn sY) 0 true]⟩=ob (cU k   n sj sT sf sR sx sy sq sh sM s47 so sY) fun r=>some ((.agg [.lit (.int .i64 r.1),.lit (.int .i64 r.2.1),.lit (.int .i64 r.2.2.1),.lit (.int .i64 r.2.2.2.1),.ro (List.map ak r.2.2.2.2.1),.ro (List.map (av IntKind.u64) r.2.2.2.2.2.1),.own 6 0 r.2.2.2.2.2.2.1.length,.own 7 0 r.2.2.2.2.2.2.2.1.length],[.box [.lit (.int .i64 r.1),.lit (.int .i64 r.2.1),.lit (.int .i64 r.2.2.1),.lit (.int .i64 r.2.2.2.1),.ro (List.map ak r.2.2.2.2.1),.ro (List.map (av IntKind.u64) r.2.2.2.2.2.1),.own 6 0 r.2.2.2.2.2.2.1.length,.own 7 0 r.2.2.2.2.2.2.2.1.length],.rows 0 [] 0 true,.rows 0 [] 0 true,.rows 0 [] 0 true,.rows 0 [] 0 true,.box [.lit (.int .i64 r.1),.lit (.int .i64 r.2.1),.lit (.int .i64 r.2.2.1),.lit (.int .i64 r.2.2.2.1),.ro (List.map ak r.2.2.2.2.1),.ro (List.map (av IntKind.u64) r.2.2.2.2.2.1),.own 6 0 r.2.2.2.2.2.2.1.length,.own 7 0 r.2.2.2.2.2.2.2.1.length],.rows 11 (List.map aF r.2.2.2.2.2.2.2.2.1) 0 true,.rows 9 (List.map bn r.2.2.2.2.2.2.2.2.2) 0 true])):=by
 intro n
 induction n with
 | zero=>intros;rfl
 | succ n ih=>
  intro sj sT sf sR sx sy sq sh sM s47 so sY sI sS s32 s33 sa j46 j48
  rw [cU]
  simp -implicitDefEqProofs only [Xl,WH,XF,Ae,gN,XJ,XL,Xw,Ao,wZ,gJ,gM,aD (g:=41),WV,Xn,Al,gR,W9,XC,WX,WZ,Xf,WU,↓syI,↓syP,syA,syD,simprocAttr,syE,af,ae,aa,syW,xQ,aff,ih]
def bV (k:Nat)   : Nat→Int→Int→Int→Int→Tyt→List Int→List Tyw→List Tys→Int→Int→List Tyw→Option (Int×Int×Int×Int×Tyt×List Int×List Tyw×List Tys×List Tyw×List Tys)
 | 0,_,_,_,_,_,_,_,_,_,_,_=>none
 | n+1,s6,s7,s8,s9,s14,sG,sp,sO,s18,sF,sC=>
 bif decide (sF<s18) then
 bif decide ((0:Int)≤sF∧sF.toNat<sp.length) then
 ob (sC[sF.toNat]?) fun x70=>
 ob (aN 24 x70.2.1) fun x71=>
 bif decide ((0:Int)≤sF∧sF.toNat<sp.length) then
 ob (sC[sF.toNat]?) fun xx=>
 bV k   n (s6) (s7) (s8) (s9) (s14) (sG) (sp) (sO) (s18) (IntKind.i64.wrap (sF+(1:Int))) (sC.set sF.toNat (xx.1,x71,(xx.2.2.1.1,xx.2.2.1.2.1,xx.2.2.1.2.2.1,xx.2.2.1.2.2.2.1,xx.2.2.1.2.2.2.2.1,xx.2.2.1.2.2.2.2.2.1,xx.2.2.1.2.2.2.2.2.2),xx.2.2.2.1,xx.2.2.2.2))
 else
 none
 else
 none
 else
 cU k  (k+61) (s6) (s7) (s8) (s9) (s14) (sG) (sp) (sO) ((↑sO.length:Int)) (sC) ((0:Int)) (sO)
theorem cJ (k:Nat)  : ∀ (n:Nat) (s6 s7 s8 s9:Int) (s14:Tyt) (sG:List Int) (sp:List Tyw) (sO:List Tys) (s18 sF:Int) (sC:List Tyw) ⦃se:Tyt⦄ ⦃s11:List Int⦄ ⦃sJ:List Tyw⦄ ⦃sD:List Tys⦄ ⦃j22:V⦄,itX (xX (xS (k+61)) 41 0 (k+61) false) Lx (8) (bF (xX (xS (k+61)) 41 0 (k+61) false) (a7 (xS (k+61)).P Tryz.f41) KE) n ⟨[.agg [.lit (.int .i64 s6),.lit (.int .i64 s7),.lit (.int .i64 s8),.lit (.int .i64 s9),.ro (List.map ak se),.ro (List.map (av IntKind.u64) s11),.ro (List.map aF sJ),.ro (List.map bn sD)],.ptr 0 0 0 0,.ptr 5 0 0 0,j22,uu,.ptr 0 0 0 4,.ro (List.map ak se),.ro (List.map ak s14),.ptr 0 0 0 5,.ro (List.map (av IntKind.u64) s11),.ro (List.map (av IntKind.u64) sG),.ptr 0 0 0 4,.ptr 0 0 0 5,.ptr 0 0 0 6,.ro (List.map aF sJ),.own 6 0 sp.length,.ptr 0 0 0 7,.ro (List.map bn sD),.own 7 0 sO.length,.ptr 0 0 0 6,.ptr 0 0 0 7,.ptr 0 0 0 6,.own 6 0 sp.length,.lit (.int .i64 s18),.lit (.int .i64 sF),.junk,.junk,.junk,.junk,.junk,.junk,.junk,.junk,.junk,.junk,.junk,.junk,.junk,.junk,.junk,uu,uu,uu,uu,uu,uu,uu,uu,uu,uu,uu,uu,uu,uu,uu,uu,uu,uu,uu,uu],[.box [.lit (.int .i64 s6),.lit (.int .i64 s7),.lit (.int .i64 s8),.lit (.int .i64 s9),.ro (List.map ak s14),.ro (List.map (av IntKind.u64) sG),.own 6 0 sp.length,.own 7 0 sO.length],.rows 0 [] 0 true,.rows 0 [] 0 true,.rows 0 [] 0 true,.rows 0 [] 0 true,.box [.lit (.int .i64 (0:Int)),.lit (.int .i64 (0:Int)),.lit (.int .i64 (0:Int)),.lit (.int .i64 (0:Int)),.own 1 0 0,.own 2 0 0,.own 3 0 0,.own 4 0 0],.rows 11 (List.map aF sC) 0 true,.rows 9 (List.map bn sO) 0 true]⟩=ob (bV k   n s6 s7 s8 s9 s14 sG sp sO s18 sF sC) fun r=>some ((.agg [.lit (.int .i64 r.1),.lit (.int .i64 r.2.1),.lit (.int .i64 r.2.2.1),.lit (.int .i64 r.2.2.2.1),.ro (List.map ak r.2.2.2.2.1),.ro (List.map (av IntKind.u64) r.2.2.2.2.2.1),.own 6 0 r.2.2.2.2.2.2.1.length,.own 7 0 r.2.2.2.2.2.2.2.1.length],[.box [.lit (.int .i64 r.1),.lit (.int .i64 r.2.1),.lit (.int .i64 r.2.2.1),.lit (.int .i64 r.2.2.2.1),.ro (List.map ak r.2.2.2.2.1),.ro (List.map (av IntKind.u64) r.2.2.2.2.2.1),.own 6 0 r.2.2.2.2.2.2.1.length,.own 7 0 r.2.2.2.2.2.2.2.1.length],.rows 0 [] 0 true,.rows 0 [] 0 true,.rows 0 [] 0 true,.rows 0 [] 0 true,.box [.lit (.int .i64 r.1),.lit (.int .i64 r.2.1),.lit (.int .i64 r.2.2.1),.lit (.int .i64 r.2.2.2.1),.ro (List.map ak r.2.2.2.2.1),.ro (List.map (av IntKind.u64) r.2.2.2.2.2.1),.own 6 0 r.2.2.2.2.2.2.1.length,.own 7 0 r.2.2.2.2.2.2.2.1.length],.rows 11 (List.map aF r.2.2.2.2.2.2.2.2.1) 0 true,.rows 9 (List.map bn r.2.2.2.2.2.2.2.2.2) 0 true])):=by
 intro n
 induction n with
 | zero=>intros;rfl
 | succ n ih=>
  intro s6 s7 s8 s9 s14 sG sp sO s18 sF sC se s11 sJ sD j22
  rw [bV]
  simp -implicitDefEqProofs only [Xl,WH,XF,Ae,gN,XJ,XL,Xw,Ao,wZ,gJ,gM,aD (g:=41),WV,Xn,Al,gR,W9,XC,WX,WZ,Xf,WU,↓syI,↓syP,syA,syD,simprocAttr,syE,af,ae,aa,syW,xQ,aee,ih,rD k ]
def bh (k:Nat) (v0:Typ) (v1:Tye)  : Nat→Int→Int→Int→Int→Tyt→List Tyw→List Tys→List Tyw→List Tys→Tye→Int→List Int→Nat→Option (Typ×Tye)
 | 0,_,_,_,_,_,_,_,_,_,_,_,_,_=>none
 | n+1,sP,sQ,sU,sV,sr,sg,sd,sz,ss,sA,sH,sL,sZ=>
 bif decide (sH<(↑v1.length:Int)) then
 ob (idx v1 sH) fun xO=>
 ob (kA (xO.1,xO.2.1,xO.2.2) v0.1.1 (↑v0.2.2.2.2.length:Int)) fun x150=>
 bif x150 then
 bif xO.1==(0:Int) then
 bif decide ((0:Int)≤xO.2.1∧xO.2.1.toNat<sg.length) then
 ob (sz[xO.2.1.toNat]?) fun xk=>
 ob (iY k (sP,sQ,sU,sV) sr sL xO.2.1 (xk.1,xk.2.1,(xk.2.2.1.1,xk.2.2.1.2.1,xk.2.2.1.2.2.1,xk.2.2.1.2.2.2.1,xk.2.2.1.2.2.2.2.1,xk.2.2.1.2.2.2.2.2.1,xk.2.2.1.2.2.2.2.2.2),xk.2.2.2.1,xk.2.2.2.2) xO.2.2) fun xI=>
 bif decide ((0:Int)≤xO.2.1∧xO.2.1.toNat<sg.length) then
 ob (sz[xO.2.1.toNat]?) fun xJ=>
 ck (sZ==3||sZ==0) (
 bif room (sA++xI.2.2).length 24 then
 bh k v0 v1  n (sP) (sQ) (sU) (sV) (sr) (sg) (sd) (sz.set xO.2.1.toNat (xI.2.1.1,xI.2.1.2.1,(xI.2.1.2.2.1.1,xI.2.1.2.2.1.2.1,xI.2.1.2.2.1.2.2.1,xI.2.1.2.2.1.2.2.2.1,xI.2.1.2.2.1.2.2.2.2.1,xI.2.1.2.2.1.2.2.2.2.2.1,xI.2.1.2.2.1.2.2.2.2.2.2),xI.2.1.2.2.2.1,xI.2.1.2.2.2.2)) (ss) (sA++xI.2.2) (IntKind.i64.wrap (sH+(1:Int))) (xI.1) (3)
 else
 none)
 else
 none
 else
 none
 else
 bif xO.1==(1:Int) then
 bif decide ((0:Int)≤xO.2.1∧xO.2.1.toNat<sd.length) then
 ob (ss[xO.2.1.toNat]?) fun xW=>
 ob (fC (k+36) (sP,sQ,sU,sV) sr sL (xW.1,xW.2.1,xW.2.2.1,xW.2.2.2.1,xW.2.2.2.2.1,xW.2.2.2.2.2.1,xW.2.2.2.2.2.2.1,xW.2.2.2.2.2.2.2.1,xW.2.2.2.2.2.2.2.2)) fun xl=>
 bif xl then
 bif decide ((0:Int)≤xO.2.1∧xO.2.1.toNat<sd.length) then
 ob (ss[xO.2.1.toNat]?) fun xH=>
 ob (fS (k+20) (sP,sQ,sU,sV) sr sL xO.2.1 (xH.1,xH.2.1,xH.2.2.1,xH.2.2.2.1,xH.2.2.2.2.1,xH.2.2.2.2.2.1,xH.2.2.2.2.2.2.1,xH.2.2.2.2.2.2.2.1,xH.2.2.2.2.2.2.2.2)) fun xa=>
 bif decide ((0:Int)≤xO.2.1∧xO.2.1.toNat<sd.length) then
 ob (ss[xO.2.1.toNat]?) fun x158=>
 ck (sZ==3||sZ==0) (
 bif room (sA++xa.2.2).length 24 then
 bh k v0 v1  n (sP) (sQ) (sU) (sV) (sr) (sg) (sd) (sz) (ss.set xO.2.1.toNat (xa.2.1.1,xa.2.1.2.1,xa.2.1.2.2.1,xa.2.1.2.2.2.1,xa.2.1.2.2.2.2.1,xa.2.1.2.2.2.2.2.1,xa.2.1.2.2.2.2.2.2.1,xa.2.1.2.2.2.2.2.2.2.1,xa.2.1.2.2.2.2.2.2.2.2)) (sA++xa.2.2) (IntKind.i64.wrap (sH+(1:Int))) (xa.1) (3)
 else
 none)
 else
 none
 else
 none
 else
 ck (sZ==3||sZ==0) (
 bif room sA.length 24 then
 bh k v0 v1  n (sP) (sQ) (sU) (sV) (sr) (sg) (sd) (sz) (ss) (sA) (IntKind.i64.wrap (sH+(1:Int))) (sL) (3)
 else
 none)
 else
 none
 else
 bif xO.1==(2:Int) then
 ob (bB sL (3:Int) (1:Int)) fun xy=>
 ck (sZ==3||sZ==0) (
 bif room sA.length 24 then
 bh k v0 v1  n (sP) (sQ) (sU) (sV) (sr) (sg) (sd) (sz) (ss) (sA) (IntKind.i64.wrap (sH+(1:Int))) (xy) (3)
 else
 none)
 else
 ck (sZ==3||sZ==0) (
 bif room sA.length 24 then
 bh k v0 v1  n (sP) (sQ) (sU) (sV) (sr) (sg) (sd) (sz) (ss) (sA) (IntKind.i64.wrap (sH+(1:Int))) (sL) (3)
 else
 none)
 else
 bh k v0 v1  n (sP) (sQ) (sU) (sV) (sr) (sg) (sd) (sz) (ss) (sA) (IntKind.i64.wrap (sH+(1:Int))) (sL) (sZ)
 else
 ck (decide (sg.length≤sz.length)) (
 ck (decide (sd.length≤ss.length)) (
 some ((((sP),(sQ),(sU),(sV)),(sr),(sL),(List.take sg.length sz),(List.take sd.length ss)),(sA))))
theorem oF (k:Nat) (v0_0_0 v0_0_1 v0_0_2 v0_0_3:Int) (v0_1:Tyt) (v0_2:List Int) (v0_3:List Tyw) (v0_4:List Tys) (v1:Tye):∀ (n:Nat) (sP sQ sU sV:Int) (sr:Tyt) (sg:List Tyw) (sd:List Tys) (sz:List Tyw) (ss:List Tys) (sA:Tye) (sH:Int) (sL:List Int) (sZ:Nat) ⦃sN:List Int⦄ ⦃sw s95:Bool⦄ ⦃sB:Nat⦄ ⦃j117:V⦄,rt none (itX (xX (xS (k+62)) 17 0 (k+62) false) Cq (15) (bF (xX (xS (k+62)) 17 0 (k+62) false) (a7 (xS (k+62)).P Tryz.f17) DW) n ⟨[.agg [.lit (.int .i64 v0_0_0),.lit (.int .i64 v0_0_1),.lit (.int .i64 v0_0_2),.lit (.int .i64 v0_0_3),.ro (List.map ak v0_1),.ro (List.map (av IntKind.u64) v0_2),.ro (List.map aF v0_3),.ro (List.map bn v0_4)],.ro (List.map gT v1),.ptr 0 0 0 0,uu,.ptr 5 0 0 0,.own 6 0 0,.ptr 13 0 0 0,.own 14 sB sA.length,uu,j117,.agg [.lit (.int .i64 v0_0_0),.lit (.int .i64 v0_0_1),.lit (.int .i64 v0_0_2),.lit (.int .i64 v0_0_3),.ro (List.map ak v0_1),.ro (List.map (av IntKind.u64) v0_2),.ro (List.map aF v0_3),.ro (List.map bn v0_4)],.agg [.lit (.int .i64 sP),.lit (.int .i64 sQ),.lit (.int .i64 sU),.lit (.int .i64 sV),.ro (List.map ak sr),.ro (List.map (av IntKind.u64) sN),.own 7 0 sg.length,.own 8 0 sd.length],.agg [.lit (.int .i64 v0_0_0),.lit (.int .i64 v0_0_1),.lit (.int .i64 v0_0_2),.lit (.int .i64 v0_0_3),.ro (List.map ak v0_1),.ro (List.map (av IntKind.u64) v0_2),.ro (List.map aF v0_3),.ro (List.map bn v0_4)],.lit (.bool sw),.lit (.bool s95),uu,.ro (List.map gT v1),.lit (.int .i64 (↑v1.length:Int)),.lit (.int .i64 sH),.junk,.junk,.junk,.junk,.junk,.junk,.junk,.junk,.junk,.junk,.junk,.junk,.junk,.junk,.junk,.junk,uu,uu],[.box [.lit (.int .i64 v0_0_0),.lit (.int .i64 v0_0_1),.lit (.int .i64 v0_0_2),.lit (.int .i64 v0_0_3),.ro (List.map ak v0_1),.ro (List.map (av IntKind.u64) v0_2),.ro (List.map aF v0_3),.ro (List.map bn v0_4)],.rows 0 [] 0 true,.rows 0 [] 0 true,.rows 0 [] 0 true,.rows 0 [] 0 true,.box [.lit (.int .i64 (0:Int)),.lit (.int .i64 (0:Int)),.lit (.int .i64 (0:Int)),.lit (.int .i64 (0:Int)),.own 1 0 0,.own 2 0 0,.own 3 0 0,.own 4 0 0],.rows 0 [] 0 true,.rows 11 (List.map aF sz) 0 true,.rows 9 (List.map bn ss) 0 true,.rows 0 [] 0 true,.rows 0 [] 0 true,.rows 0 [] 0 true,.rows 0 [] 0 true,.box [.lit (.int .i64 sP),.lit (.int .i64 sQ),.lit (.int .i64 sU),.lit (.int .i64 sV),.ro (List.map ak sr),.ro (List.map (av IntKind.u64) sL),.own 7 0 sg.length,.own 8 0 sd.length],.rows sZ (List.map az sA) sB true]⟩)=ob (bh k ((v0_0_0,v0_0_1,v0_0_2,v0_0_3),v0_1,v0_2,v0_3,v0_4) v1  n sP sQ sU sV sr sg sd sz ss sA sH sL sZ) fun r=>some ((.tup [.agg [.lit (.int .i64 r.1.1.1),.lit (.int .i64 r.1.1.2.1),.lit (.int .i64 r.1.1.2.2.1),.lit (.int .i64 r.1.1.2.2.2),.ro (List.map ak r.1.2.1),.ro (List.map (av .u64) r.1.2.2.1),.ro (List.map aF r.1.2.2.2.1),.ro (List.map bn r.1.2.2.2.2)],.ro (List.map az r.2)]),[]):=by
 intro n
 induction n with
 | zero=>intros;rfl
 | succ n ih=>
  intro sP sQ sU sV sr sg sd sz ss sA sH sL sZ sN sw s95 sB j117
  rw [bh]
  simp -implicitDefEqProofs only [Xl,WH,XF,Ae,gN,XJ,XL,Xw,Ao,wZ,gJ,gM,aD (g:=41),WV,Xn,Al,gR,W9,XC,WX,WZ,Xf,WU,↓syI,↓syP,syA,syD,simprocAttr,syE,af,ae,aa,syW,xQ,eF,pw,ug,B7,dj,eu,B5,cJ,P0,ih]
def ku (k:Nat) (v0:Typ) (v1:Tye):Option (Typ×Tye):=
 ob (dO (k+59) v0.2.1) fun xU=>
 ob (aN 8 v0.2.2.1) fun xP=>
 ob (aN 104 v0.2.2.2.1) fun xc=>
 ob (aN 88 v0.2.2.2.2) fun xK=>
 ob (bV k (k+61) v0.1.1 v0.1.2.1 v0.1.2.2.1 v0.1.2.2.2 xU xP xc xK (↑xc.length:Int) 0 xc) fun xD=>
 ck (decide (xD.2.2.2.2.2.2.1.length≤xD.2.2.2.2.2.2.2.2.1.length)) (
 ck (decide (xD.2.2.2.2.2.2.2.1.length≤xD.2.2.2.2.2.2.2.2.2.length)) (
 ob (fh (k+27) v0) fun xL=>
 bif !xL then
 ck (decide (xD.2.2.2.2.2.2.1.length≤(List.take xD.2.2.2.2.2.2.1.length xD.2.2.2.2.2.2.2.2.1).length)) (
 ck (decide (xD.2.2.2.2.2.2.2.1.length≤(List.take xD.2.2.2.2.2.2.2.1.length xD.2.2.2.2.2.2.2.2.2).length)) (
 some (((xD.1,xD.2.1,xD.2.2.1,xD.2.2.2.1),xD.2.2.2.2.1,xD.2.2.2.2.2.1,(List.take xD.2.2.2.2.2.2.1.length (List.take xD.2.2.2.2.2.2.1.length xD.2.2.2.2.2.2.2.2.1)),(List.take xD.2.2.2.2.2.2.2.1.length (List.take xD.2.2.2.2.2.2.2.1.length xD.2.2.2.2.2.2.2.2.2))),[])))
 else
 bh k v0 v1 (k+62) xD.1 xD.2.1 xD.2.2.1 xD.2.2.2.1 xD.2.2.2.2.1 xD.2.2.2.2.2.2.1 xD.2.2.2.2.2.2.2.1 (List.take xD.2.2.2.2.2.2.1.length xD.2.2.2.2.2.2.2.2.1) (List.take xD.2.2.2.2.2.2.2.1.length xD.2.2.2.2.2.2.2.2.2) ([]) 0 xD.2.2.2.2.2.1 0))
theorem N0 (k:Nat) (v0_0_0 v0_0_1 v0_0_2 v0_0_3:Int) (v0_1:Tyt) (v0_2:List Int) (v0_3:List Tyw) (v0_4:List Tys) (v1:Tye):xC (k+63) none 17 [.agg [.lit (.int .i64 v0_0_0),.lit (.int .i64 v0_0_1),.lit (.int .i64 v0_0_2),.lit (.int .i64 v0_0_3),.ro (List.map ak v0_1),.ro (List.map (av .u64) v0_2),.ro (List.map aF v0_3),.ro (List.map bn v0_4)],.ro (List.map gT v1)]=ob (ku k ((v0_0_0,v0_0_1,v0_0_2,v0_0_3),v0_1,v0_2,v0_3,v0_4) v1) fun r=>some ((.tup [.agg [.lit (.int .i64 r.1.1.1),.lit (.int .i64 r.1.1.2.1),.lit (.int .i64 r.1.1.2.2.1),.lit (.int .i64 r.1.1.2.2.2),.ro (List.map ak r.1.2.1),.ro (List.map (av .u64) r.1.2.2.1),.ro (List.map aF r.1.2.2.2.1),.ro (List.map bn r.1.2.2.2.2)],.ro (List.map az r.2)]),[]):=by
 rw [aD]
 unfold ku
 have hl0:=fun (xd:Int×Int×Int×Int×Tyt×List Int×List Tyw×List Tys×List Tyw×List Tys)=>oF k v0_0_0 v0_0_1 v0_0_2 v0_0_3 v0_1 v0_2 v0_3 v0_4 v1 (k+62) (xd.fst) (xd.snd.fst) (xd.snd.snd.fst) (xd.snd.snd.snd.fst) (xd.snd.snd.snd.snd.fst) (xd.snd.snd.snd.snd.snd.snd.fst) (xd.snd.snd.snd.snd.snd.snd.snd.fst) (List.take xd.snd.snd.snd.snd.snd.snd.fst.length xd.snd.snd.snd.snd.snd.snd.snd.snd.fst) (List.take xd.snd.snd.snd.snd.snd.snd.snd.fst.length xd.snd.snd.snd.snd.snd.snd.snd.snd.snd) ([]) ((0:Int)) (xd.snd.snd.snd.snd.snd.fst) (0)
 try simp -implicitDefEqProofs only [List.map_nil,List.length_nil] at hl0
 simp -implicitDefEqProofs only [Xl,WH,XF,Ae,gN,XJ,XL,Xw,Ao,wZ,gJ,gM,aD (g:=41),WV,Xn,Al,gR,W9,XC,WX,WZ,Xf,WU,↓syI,↓syP,syA,syD,simprocAttr,syE,af,ae,aa,syW,xQ,dj,eu,cJ,oF k v0_0_0 v0_0_1 v0_0_2 v0_0_3 v0_1 v0_2 v0_3 v0_4 v1,hl0]
 all_goals simp -implicitDefEqProofs only [List.map_nil]
end Go.Ab
set_option maxRecDepth 100000
set_option linter.unusedVariables false
set_option linter.unusedSimpArgs false
namespace Go.Ab
open Go.Proofs
def bL (k:Nat)   : Nat→Tyt→Int→Nat→List Int→Int→Nat→Option (Nat×List Int×Nat)
 | 0,_,_,_,_,_,_=>none
 | n+1,s7,se,sJ,sD,sG,sO=>
 bif decide (sG<se) then
 ob (eo k s7 sG) fun x24=>
 bif x24==(-1:Int) then
 ck (sO==1||sO==0) (
 bif room (sD++[sG]).length 8 then
 bL k   n (s7) (se) (sJ+1) (sD++[sG]) (IntKind.i64.wrap (sG+(1:Int))) (1)
 else
 none)
 else
 bL k   n (s7) (se) (sJ) (sD) (IntKind.i64.wrap (sG+(1:Int))) (sO)
 else
 some (sJ,sD,sO)
theorem dz (k:Nat)  : ∀ (n:Nat) (s7:Tyt) (se:Int) (sJ:Nat) (sD:List Int) (sG:Int) (sO:Nat) ⦃s8 s9:Bool⦄ ⦃j14:V⦄,itX (xX (xS (k+20)) 57 0 (k+20) false) D5 (2) (bF (xX (xS (k+20)) 57 0 (k+20) false) (a7 (xS (k+20)).P Tryz.f57) Gg) n ⟨[.ro (List.map ak s7),uu,.own 0 0 0,.own 1 sJ sD.length,j14,.ro (List.map ak s7),.lit (.bool s8),.lit (.bool s9),.ro (List.map ak s7),.lit (.int .i64 se),.lit (.int .i64 sG),.junk,.junk,.junk,.junk,.junk,.junk,.junk,.junk,.junk,.junk,.junk,uu],[.rows 0 [] 0 true,.rows sO (List.map (av IntKind.i64) sD) sJ true]⟩=ob (bL k   n s7 se sJ sD sG sO) fun r=>some ((.own 1 r.1 r.2.1.length,[.rows 0 [] 0 true,.rows r.2.2 (List.map (av IntKind.i64) r.2.1) r.1 true])):=by
 intro n
 induction n with
 | zero=>intros;rfl
 | succ n ih=>
  intro s7 se sJ sD sG sO s8 s9 j14
  rw [bL]
  simp -implicitDefEqProofs only [aej,adZ,adI,GT,Ha,H9,Gn,GV,nJ,ni,nw,nj,afy,adL,agn,GF,nG,aD (g:=57),↓syI,↓syP,syA,syD,simprocAttr,syE,af,ae,aa,syW,xQ,oV,ad5,ih]
theorem gu (k:Nat) (v1:Tyt):∀ ⦃s8 s9:Bool⦄ ⦃j14:V⦄,itX (xX (xS (k+20)) 57 0 (k+20) false) D5 2 (bF (xX (xS (k+20)) 57 0 (k+20) false) (a7 (xS (k+20)).P Tryz.f57) Gg) (k+20) (St.mk [.ro (List.map ak v1),uu,.own 0 0 0,.own 1 0 0,j14,.ro (List.map ak v1),.lit (.bool s8),.lit (.bool s9),.ro (List.map ak v1),.lit (.int .i64 (↑v1.length:Int)),.lit (.int .i64 (0:Int)),.junk,.junk,.junk,.junk,.junk,.junk,.junk,.junk,.junk,.junk,.junk,uu] [.rows 0 [] 0 true,.rows 0 [] 0 true])=ob (bL k (k+20) v1 (↑v1.length:Int) 0 [] (0:Int) 0) fun r ↦ some (.own 1 r.fst r.snd.fst.length,[.rows 0 [] 0 true,.rows r.snd.snd (List.map (av IntKind.i64) r.snd.fst) r.fst true]):=by
 have h:=dz k  (k+20) (v1) ((↑v1.length:Int)) (0) ([]) ((0:Int)) (0)
 simp -implicitDefEqProofs only [List.map_nil,List.length_nil] at h
 exact h
def dd (k:Nat) (v0:(Int×Int×Int×Int)) (v1:Tyt) (v2:(List (List Int))) (o0:Tyt→List Int→Nat→List Tyw→Int→List Tys→Nat→Nat→List Int→Option (Typ×Bool)):Nat→List Int→Tyt→List Int→Int→Nat→List Tyw→Nat→Int→List Int→Int→List Tys→Nat→Option (Typ×Bool)
 | 0,_,_,_,_,_,_,_,_,_,_,_,_=>none
 | n+1,s81,sP,sQ,sU,sV,s105,si,s110,s111,s130,s133,s134=>
 bif decide (s110<sU) then
 ob (idx s81 s110) fun xy=>
 ck (decide (si≤s111.length)) (
 ob (dP (k+20) (List.take si s111) xy) fun xU=>
 bif decide (xU<(0:Int)) then
 some (((((0:Int)),((0:Int)),((0:Int)),((0:Int))),[],[],[],[]),(false))
 else
 ck (sV==1) (
 ck (decide (si≤s111.length∧(0:Int)≤xU∧xU<IntKind.i64.wrap (xU+(1:Int))∧(IntKind.i64.wrap (xU+(1:Int))).toNat≤si∧si≤9223372036854775807)) (
 dd k v0 v1 v2 o0 n (s81) (sP) (sQ) (sU) (1) (s105) (si - ((IntKind.i64.wrap (xU+(1:Int))).toNat - xU.toNat)) (IntKind.i64.wrap (s110+(1:Int))) (Ge (List.take si s111) xU.toNat (IntKind.i64.wrap (xU+(1:Int))).toNat++List.drop si s111) (s130) (s133) (s134))))
 else
 ob (kX s81) fun xP=>
 ck (s134==9||s134==0) (
 bif room (s133++[(xP.1,xP.2.1,xP.2.2.1,xP.2.2.2.1,xP.2.2.2.2.1,xP.2.2.2.2.2.1,xP.2.2.2.2.2.2.1,xP.2.2.2.2.2.2.2.1,xP.2.2.2.2.2.2.2.2)]).length 88 then
 o0 (sP) (sQ) (sV) (s105) (IntKind.i64.wrap (s130+(1:Int))) (s133++[(xP.1,xP.2.1,xP.2.2.1,xP.2.2.2.1,xP.2.2.2.2.1,xP.2.2.2.2.2.1,xP.2.2.2.2.2.2.1,xP.2.2.2.2.2.2.2.1,xP.2.2.2.2.2.2.2.2)]) (9) (si) (s111)
 else
 none)
theorem AC (k:Nat) (v0_0 v0_1 v0_2 v0_3:Int) (v1:Tyt) (v2:List (List Int)) (n56:Nat) (o0:Tyt→List Int→Nat→List Tyw→Int→List Tys→Nat→Nat→List Int→Option (Typ×Bool)) (ho0:∀ (sk:Tyt) (sl:List Int) (s64:Nat) (st:List Tyw) (sK:Int) (sB:List Tys) (sA sm:Nat) (sn:List Int) ⦃s57:List Int⦄ ⦃s58 s59 s60 sv:Bool⦄ ⦃s76 s78 sW:Nat⦄ ⦃j75 j112 j136 j137:V⦄,rt none (itX (xX (xS (k+21)) 23 0 (k+21) false) BH (14) (bF (xX (xS (k+21)) 23 0 (k+21) false) (a7 (xS (k+21)).P Tryz.f23) D9) n56 ⟨(.agg [.lit (.int .i64 v0_0),.lit (.int .i64 v0_1),.lit (.int .i64 v0_2),.lit (.int .i64 v0_3)]::.ro (List.map ak v1)::.ro (List.map cz v2)::.ptr 0 0 0 0::uu::uu::.ptr 5 0 0 0::.lit (.bool false)::.own 6 0 sm::.ptr 11 0 0 0::j75::uu::j112::uu::j136::j137::.agg [.lit (.int .i64 v0_0),.lit (.int .i64 v0_1),.lit (.int .i64 v0_2),.lit (.int .i64 v0_3)]::.lit (.bool s58)::.lit (.bool s59)::.lit (.bool false)::.ro (List.map ak v1)::.lit (.bool s60)::.lit (.bool sv)::.lit (.bool sv)::.lit (.bool false)::.ro (List.map cz v2)::.lit (.int .i64 (↑v2.length:Int))::.lit (.bool (decide ((3:Int)<(↑v2.length:Int))))::.lit (.bool (decide ((3:Int)<(↑v2.length:Int))))::uu::.ro (List.map ak v1)::.own 6 0 s57.length::.agg [.lit (.int .i64 v0_0),.lit (.int .i64 v0_1),.lit (.int .i64 v0_2),.lit (.int .i64 v0_3)]::.ro (List.map ak v1)::.ro (List.map ak sk)::.agg [.lit (.int .i64 v0_0),.lit (.int .i64 v0_1),.lit (.int .i64 v0_2),.lit (.int .i64 v0_3)]::.ro (List.map (av IntKind.u64) sl)::.agg [.lit (.int .i64 v0_0),.lit (.int .i64 v0_1),.lit (.int .i64 v0_2),.lit (.int .i64 v0_3),.ro (List.map ak sk),.ro (List.map (av IntKind.u64) sl),.nil,.nil]::.ptr 0 0 0 0::.lit (.int .i64 v0_0)::.junk::.junk::.junk::.junk::.junk::.junk::.junk::.junk::.junk::.junk::.junk::.ro (List.map cz v2)::.lit (.int .i64 (↑v2.length:Int))::.lit (.int .i64 sK)::.junk::.junk::.junk::.junk::.junk::.junk::.junk::.junk::.junk::.junk::.junk::.junk::.junk::.junk::.junk::.junk::.junk::.junk::.junk::.junk::.junk::.junk::.junk::.junk::.junk::.junk::.junk::.junk::.junk::uu::[]),[.box [.lit (.int .i64 v0_0),.lit (.int .i64 v0_1),.lit (.int .i64 v0_2),.lit (.int .i64 v0_3)],.rows 0 [] 0 true,.rows 0 [] 0 true,.rows 0 [] 0 true,.rows 0 [] 0 true,.box [.lit (.int .i64 (0:Int)),.lit (.int .i64 (0:Int)),.lit (.int .i64 (0:Int)),.lit (.int .i64 (0:Int)),.own 1 0 0,.own 2 0 0,.own 3 0 0,.own 4 0 0],.rows s64 (List.map (av IntKind.i64) sn) 0 true,.rows 0 [] 0 true,.rows 0 [] 0 true,.rows 0 [] 0 true,.rows 0 [] 0 true,.box [.lit (.int .i64 v0_0),.lit (.int .i64 v0_1),.lit (.int .i64 v0_2),.lit (.int .i64 v0_3),.ro (List.map ak sk),.ro (List.map (av IntKind.u64) sl),.own 12 s76 st.length,.own 13 sW sB.length],.rows s78 (List.map aF st) s76 true,.rows sA (List.map bn sB) sW true]⟩)=ob (o0 sk sl s64 st sK sB sA sm sn) fun r=>some ((.tup [.agg [.lit (.int .i64 r.1.1.1),.lit (.int .i64 r.1.1.2.1),.lit (.int .i64 r.1.1.2.2.1),.lit (.int .i64 r.1.1.2.2.2),.ro (List.map ak r.1.2.1),.ro (List.map (av .u64) r.1.2.2.1),.ro (List.map aF r.1.2.2.2.1),.ro (List.map bn r.1.2.2.2.2)],.lit (.bool r.2)]),[])):∀ (n:Nat) (s81:List Int) (sP:Tyt) (sQ:List Int) (sU:Int) (sV:Nat) (s105:List Tyw) (si:Nat) (s110:Int) (s111:List Int) (s130:Int) (s133:List Tys) (s134:Nat) ⦃s80:List Int⦄ ⦃s82 s83 s84 s85:Bool⦄ ⦃s104 s106:Nat⦄ ⦃s131:Bool⦄ ⦃s132:Nat⦄ ⦃j103 j108 j109:V⦄,rt none (itX (xX (xS (k+21)) 23 0 (k+21) false) Mc (14) (bF (xX (xS (k+21)) 23 0 (k+21) false) (oM (xX (xS (k+21)) 23 0 (k+21) false) BH 14 (bF (xX (xS (k+21)) 23 0 (k+21) false) (a7 (xS (k+21)).P Tryz.f23) D9) n56) LS) n ⟨(.agg [.lit (.int .i64 v0_0),.lit (.int .i64 v0_1),.lit (.int .i64 v0_2),.lit (.int .i64 v0_3)]::.ro (List.map ak v1)::.ro (List.map cz v2)::.ptr 0 0 0 0::uu::uu::.ptr 5 0 0 0::.lit (.bool false)::.own 6 0 si::.ptr 11 0 0 0::j103::uu::.ro (List.map (av IntKind.i64) s81)::uu::j108::j109::.agg [.lit (.int .i64 v0_0),.lit (.int .i64 v0_1),.lit (.int .i64 v0_2),.lit (.int .i64 v0_3)]::.lit (.bool s82)::.lit (.bool s83)::.lit (.bool false)::.ro (List.map ak v1)::.lit (.bool s84)::.lit (.bool s85)::.lit (.bool s85)::.lit (.bool false)::.ro (List.map cz v2)::.lit (.int .i64 (↑v2.length:Int))::.lit (.bool (decide ((3:Int)<(↑v2.length:Int))))::.lit (.bool (decide ((3:Int)<(↑v2.length:Int))))::uu::.ro (List.map ak v1)::.own 6 0 s80.length::.agg [.lit (.int .i64 v0_0),.lit (.int .i64 v0_1),.lit (.int .i64 v0_2),.lit (.int .i64 v0_3)]::.ro (List.map ak v1)::.ro (List.map ak sP)::.agg [.lit (.int .i64 v0_0),.lit (.int .i64 v0_1),.lit (.int .i64 v0_2),.lit (.int .i64 v0_3)]::.ro (List.map (av IntKind.u64) sQ)::.agg [.lit (.int .i64 v0_0),.lit (.int .i64 v0_1),.lit (.int .i64 v0_2),.lit (.int .i64 v0_3),.ro (List.map ak sP),.ro (List.map (av IntKind.u64) sQ),.nil,.nil]::.ptr 0 0 0 0::.lit (.int .i64 v0_0)::.junk::.junk::.junk::.junk::.junk::.junk::.junk::.junk::.junk::.junk::.junk::.ro (List.map cz v2)::.lit (.int .i64 (↑v2.length:Int))::.lit (.int .i64 s130)::.lit (.bool s131)::.rp [.ro (List.map (av IntKind.i64) s81)]::.ro (List.map (av IntKind.i64) s81)::.ro (List.map (av IntKind.i64) s81)::.lit (.int .i64 sU)::.lit (.int .i64 s110)::.junk::.junk::.junk::.junk::.junk::.junk::.junk::.junk::.junk::.junk::.junk::.junk::.junk::.junk::.junk::.junk::.junk::.junk::.junk::.junk::.junk::.junk::.junk::uu::[]),[.box [.lit (.int .i64 v0_0),.lit (.int .i64 v0_1),.lit (.int .i64 v0_2),.lit (.int .i64 v0_3)],.rows 0 [] 0 true,.rows 0 [] 0 true,.rows 0 [] 0 true,.rows 0 [] 0 true,.box [.lit (.int .i64 (0:Int)),.lit (.int .i64 (0:Int)),.lit (.int .i64 (0:Int)),.lit (.int .i64 (0:Int)),.own 1 0 0,.own 2 0 0,.own 3 0 0,.own 4 0 0],.rows sV (List.map (av IntKind.i64) s111) 0 true,.rows 0 [] 0 true,.rows 0 [] 0 true,.rows 0 [] 0 true,.rows 0 [] 0 true,.box [.lit (.int .i64 v0_0),.lit (.int .i64 v0_1),.lit (.int .i64 v0_2),.lit (.int .i64 v0_3),.ro (List.map ak sP),.ro (List.map (av IntKind.u64) sQ),.own 12 s104 s105.length,.own 13 s132 s133.length],.rows s106 (List.map aF s105) s104 true,.rows s134 (List.map bn s133) s132 true]⟩)=ob (dd k (v0_0,v0_1,v0_2,v0_3) v1 v2 o0 n s81 sP sQ sU sV s105 si s110 s111 s130 s133 s134) fun r=>some ((.tup [.agg [.lit (.int .i64 r.1.1.1),.lit (.int .i64 r.1.1.2.1),.lit (.int .i64 r.1.1.2.2.1),.lit (.int .i64 r.1.1.2.2.2),.ro (List.map ak r.1.2.1),.ro (List.map (av .u64) r.1.2.2.1),.ro (List.map aF r.1.2.2.2.1),.ro (List.map bn r.1.2.2.2.2)],.lit (.bool r.2)]),[]):=by
 intro n
 induction n with
 | zero=>intros;rfl
 | succ n ih=>
  intro s81 sP sQ sU sV s105 si s110 s111 s130 s133 s134 s80 s82 s83 s84 s85 s104 s106 s131 s132 j103 j108 j109
  rw [dd]
  simp -implicitDefEqProofs only [aej,adZ,adI,GT,Ha,H9,Gn,GV,nJ,ni,nw,nj,afy,adL,agn,GF,nG,aD (g:=57),↓syI,↓syP,syA,syD,simprocAttr,syE,af,ae,aa,syW,xQ,bX,cH,uJ,iE,wj,oY,dj,dz,gu,aeE,ih,ho0]
  all_goals simp -implicitDefEqProofs only [List.map_nil]
def cf (k:Nat) (v0:(Int×Int×Int×Int)) (v1:Tyt) (v2:(List (List Int)))  : Nat→Tyt→List Int→Nat→List Tyw→Int→List Tys→Nat→Nat→List Int→Option (Typ×Bool)
 | 0,_,_,_,_,_,_,_,_,_=>none
 | n+1,sk,sl,s64,st,sK,sB,sA,sm,sn=>
 bif decide (sK<(↑v2.length:Int)) then
 ob (idx v2 sK) fun xl=>
 dd k v0 v1 v2 (fun sk sl s64 st sK sB sA sm sn=>cf k v0 v1 v2  n sk sl s64 st sK sB sA sm sn) (k+21) (xl) (sk) (sl) ((↑xl.length:Int)) (s64) (st) (sm) ((0:Int)) (sn) (sK) (sB) (sA)
 else
 some ((((v0.1),(v0.2.1),(v0.2.2.1),(v0.2.2.2)),(sk),(sl),(st),(sB)),(true))
theorem oI (k:Nat) (v0_0 v0_1 v0_2 v0_3:Int) (v1:Tyt) (v2:List (List Int)):∀ (n:Nat) (sk:Tyt) (sl:List Int) (s64:Nat) (st:List Tyw) (sK:Int) (sB:List Tys) (sA sm:Nat) (sn:List Int) ⦃s57:List Int⦄ ⦃s58 s59 s60 sv:Bool⦄ ⦃s76 s78 sW:Nat⦄ ⦃j75 j112 j136 j137:V⦄,rt none (itX (xX (xS (k+21)) 23 0 (k+21) false) BH (14) (bF (xX (xS (k+21)) 23 0 (k+21) false) (a7 (xS (k+21)).P Tryz.f23) D9) n ⟨(.agg [.lit (.int .i64 v0_0),.lit (.int .i64 v0_1),.lit (.int .i64 v0_2),.lit (.int .i64 v0_3)]::.ro (List.map ak v1)::.ro (List.map cz v2)::.ptr 0 0 0 0::uu::uu::.ptr 5 0 0 0::.lit (.bool false)::.own 6 0 sm::.ptr 11 0 0 0::j75::uu::j112::uu::j136::j137::.agg [.lit (.int .i64 v0_0),.lit (.int .i64 v0_1),.lit (.int .i64 v0_2),.lit (.int .i64 v0_3)]::.lit (.bool s58)::.lit (.bool s59)::.lit (.bool false)::.ro (List.map ak v1)::.lit (.bool s60)::.lit (.bool sv)::.lit (.bool sv)::.lit (.bool false)::.ro (List.map cz v2)::.lit (.int .i64 (↑v2.length:Int))::.lit (.bool (decide ((3:Int)<(↑v2.length:Int))))::.lit (.bool (decide ((3:Int)<(↑v2.length:Int))))::uu::.ro (List.map ak v1)::.own 6 0 s57.length::.agg [.lit (.int .i64 v0_0),.lit (.int .i64 v0_1),.lit (.int .i64 v0_2),.lit (.int .i64 v0_3)]::.ro (List.map ak v1)::.ro (List.map ak sk)::.agg [.lit (.int .i64 v0_0),.lit (.int .i64 v0_1),.lit (.int .i64 v0_2),.lit (.int .i64 v0_3)]::.ro (List.map (av IntKind.u64) sl)::.agg [.lit (.int .i64 v0_0),.lit (.int .i64 v0_1),.lit (.int .i64 v0_2),.lit (.int .i64 v0_3),.ro (List.map ak sk),.ro (List.map (av IntKind.u64) sl),.nil,.nil]::.ptr 0 0 0 0::.lit (.int .i64 v0_0)::.junk::.junk::.junk::.junk::.junk::.junk::.junk::.junk::.junk::.junk::.junk::.ro (List.map cz v2)::.lit (.int .i64 (↑v2.length:Int))::.lit (.int .i64 sK)::.junk::.junk::.junk::.junk::.junk::.junk::.junk::.junk::.junk::.junk::.junk::.junk::.junk::.junk::.junk::.junk::.junk::.junk::.junk::.junk::.junk::.junk::.junk::.junk::.junk::.junk::.junk::.junk::.junk::uu::[]),[.box [.lit (.int .i64 v0_0),.lit (.int .i64 v0_1),.lit (.int .i64 v0_2),.lit (.int .i64 v0_3)],.rows 0 [] 0 true,.rows 0 [] 0 true,.rows 0 [] 0 true,.rows 0 [] 0 true,.box [.lit (.int .i64 (0:Int)),.lit (.int .i64 (0:Int)),.lit (.int .i64 (0:Int)),.lit (.int .i64 (0:Int)),.own 1 0 0,.own 2 0 0,.own 3 0 0,.own 4 0 0],.rows s64 (List.map (av IntKind.i64) sn) 0 true,.rows 0 [] 0 true,.rows 0 [] 0 true,.rows 0 [] 0 true,.rows 0 [] 0 true,.box [.lit (.int .i64 v0_0),.lit (.int .i64 v0_1),.lit (.int .i64 v0_2),.lit (.int .i64 v0_3),.ro (List.map ak sk),.ro (List.map (av IntKind.u64) sl),.own 12 s76 st.length,.own 13 sW sB.length],.rows s78 (List.map aF st) s76 true,.rows sA (List.map bn sB) sW true]⟩)=ob (cf k (v0_0,v0_1,v0_2,v0_3) v1 v2  n sk sl s64 st sK sB sA sm sn) fun r=>some ((.tup [.agg [.lit (.int .i64 r.1.1.1),.lit (.int .i64 r.1.1.2.1),.lit (.int .i64 r.1.1.2.2.1),.lit (.int .i64 r.1.1.2.2.2),.ro (List.map ak r.1.2.1),.ro (List.map (av .u64) r.1.2.2.1),.ro (List.map aF r.1.2.2.2.1),.ro (List.map bn r.1.2.2.2.2)],.lit (.bool r.2)]),[]):=by
 intro n
 induction n with
 | zero=>intros;rfl
 | succ n ih=>
  intro sk sl s64 st sK sB sA sm sn s57 s58 s59 s60 sv s76 s78 sW j75 j112 j136 j137
  rw [cf]
  simp -implicitDefEqProofs only [aej,adZ,adI,GT,Ha,H9,Gn,GV,nJ,ni,nw,nj,afy,adL,agn,GF,nG,aD (g:=57),↓syI,↓syP,syA,syD,simprocAttr,syE,af,ae,aa,syW,xQ,bX,cH,uJ,iE,wj,oY,dj,dz,gu,aec,ih,AC k v0_0 v0_1 v0_2 v0_3 v1 v2 _ (fun sk sl s64 st sK sB sA sm sn=>cf k (v0_0,v0_1,v0_2,v0_3) v1 v2  n sk sl s64 st sK sB sA sm sn) ih]
def di (k:Nat) (v0:(Int×Int×Int×Int)) (v1:Tyt) (v2:(List (List Int)))  : Nat→Tyt→List Int→List Int→Nat→Int→List Tyw→Nat→Option (Typ×Bool)
 | 0,_,_,_,_,_,_,_=>none
 | n+1,sa,sM,sX,s41,s52,s54,s55=>
 bif decide (s52<v0.1) then
 ob (pN s52) fun xJ=>
 ck (s55==11||s55==0) (
 bif room (s54++[(xJ.1,xJ.2.1,(xJ.2.2.1.1,xJ.2.2.1.2.1,xJ.2.2.1.2.2.1,xJ.2.2.1.2.2.2.1,xJ.2.2.1.2.2.2.2.1,xJ.2.2.1.2.2.2.2.2.1,xJ.2.2.1.2.2.2.2.2.2),xJ.2.2.2.1,xJ.2.2.2.2)]).length 104 then
 di k v0 v1 v2  n (sa) (sM) (sX) (s41) (IntKind.i64.wrap (s52+(1:Int))) (s54++[(xJ.1,xJ.2.1,(xJ.2.2.1.1,xJ.2.2.1.2.1,xJ.2.2.1.2.2.1,xJ.2.2.1.2.2.2.1,xJ.2.2.1.2.2.2.2.1,xJ.2.2.1.2.2.2.2.2.1,xJ.2.2.1.2.2.2.2.2.2),xJ.2.2.2.1,xJ.2.2.2.2)]) (11)
 else
 none)
 else
 cf k v0 v1 v2 (k+21) (sa) (sM) (s41) (s54) ((0:Int)) ([]) (0) (sX.length) (sX)
theorem lc (k:Nat) (v0_0 v0_1 v0_2 v0_3:Int) (v1:Tyt) (v2:List (List Int)):∀ (n:Nat) (sa:Tyt) (sM sX:List Int) (s41:Nat) (s52:Int) (s54:List Tyw) (s55:Nat) ⦃sx sy sq sh:Bool⦄ ⦃s53:Nat⦄ ⦃j51:V⦄,rt none (itX (xX (xS (k+21)) 23 0 (k+21) false) Lj (14) (bF (xX (xS (k+21)) 23 0 (k+21) false) (a7 (xS (k+21)).P Tryz.f23) LO) n ⟨(.agg [.lit (.int .i64 v0_0),.lit (.int .i64 v0_1),.lit (.int .i64 v0_2),.lit (.int .i64 v0_3)]::.ro (List.map ak v1)::.ro (List.map cz v2)::.ptr 0 0 0 0::uu::uu::.ptr 5 0 0 0::.lit (.bool false)::.own 6 0 sX.length::.ptr 11 0 0 0::j51::uu::uu::uu::uu::uu::.agg [.lit (.int .i64 v0_0),.lit (.int .i64 v0_1),.lit (.int .i64 v0_2),.lit (.int .i64 v0_3)]::.lit (.bool sx)::.lit (.bool sy)::.lit (.bool false)::.ro (List.map ak v1)::.lit (.bool sq)::.lit (.bool sh)::.lit (.bool sh)::.lit (.bool false)::.ro (List.map cz v2)::.lit (.int .i64 (↑v2.length:Int))::.lit (.bool (decide ((3:Int)<(↑v2.length:Int))))::.lit (.bool (decide ((3:Int)<(↑v2.length:Int))))::uu::.ro (List.map ak v1)::.own 6 0 sX.length::.agg [.lit (.int .i64 v0_0),.lit (.int .i64 v0_1),.lit (.int .i64 v0_2),.lit (.int .i64 v0_3)]::.ro (List.map ak v1)::.ro (List.map ak sa)::.agg [.lit (.int .i64 v0_0),.lit (.int .i64 v0_1),.lit (.int .i64 v0_2),.lit (.int .i64 v0_3)]::.ro (List.map (av IntKind.u64) sM)::.agg [.lit (.int .i64 v0_0),.lit (.int .i64 v0_1),.lit (.int .i64 v0_2),.lit (.int .i64 v0_3),.ro (List.map ak sa),.ro (List.map (av IntKind.u64) sM),.nil,.nil]::.ptr 0 0 0 0::.lit (.int .i64 v0_0)::.lit (.int .i64 s52)::.junk::.junk::.junk::.junk::.junk::.junk::.junk::.junk::.junk::.junk::uu::uu::uu::uu::uu::uu::uu::uu::uu::uu::uu::uu::uu::uu::uu::uu::uu::uu::uu::uu::uu::uu::uu::uu::uu::uu::uu::uu::uu::uu::uu::uu::uu::[]),[.box [.lit (.int .i64 v0_0),.lit (.int .i64 v0_1),.lit (.int .i64 v0_2),.lit (.int .i64 v0_3)],.rows 0 [] 0 true,.rows 0 [] 0 true,.rows 0 [] 0 true,.rows 0 [] 0 true,.box [.lit (.int .i64 (0:Int)),.lit (.int .i64 (0:Int)),.lit (.int .i64 (0:Int)),.lit (.int .i64 (0:Int)),.own 1 0 0,.own 2 0 0,.own 3 0 0,.own 4 0 0],.rows s41 (List.map (av IntKind.i64) sX) 0 true,.rows 0 [] 0 true,.rows 0 [] 0 true,.rows 0 [] 0 true,.rows 0 [] 0 true,.box [.lit (.int .i64 v0_0),.lit (.int .i64 v0_1),.lit (.int .i64 v0_2),.lit (.int .i64 v0_3),.ro (List.map ak sa),.ro (List.map (av IntKind.u64) sM),.own 12 s53 s54.length,.own 13 0 0],.rows s55 (List.map aF s54) s53 true,.rows 0 [] 0 true]⟩)=ob (di k (v0_0,v0_1,v0_2,v0_3) v1 v2  n sa sM sX s41 s52 s54 s55) fun r=>some ((.tup [.agg [.lit (.int .i64 r.1.1.1),.lit (.int .i64 r.1.1.2.1),.lit (.int .i64 r.1.1.2.2.1),.lit (.int .i64 r.1.1.2.2.2),.ro (List.map ak r.1.2.1),.ro (List.map (av .u64) r.1.2.2.1),.ro (List.map aF r.1.2.2.2.1),.ro (List.map bn r.1.2.2.2.2)],.lit (.bool r.2)]),[]):=by
 intro n
 induction n with
 | zero=>intros;rfl
 | succ n ih=>
  intro sa sM sX s41 s52 s54 s55 sx sy sq sh s53 j51
  rw [di]
  have hu2:=oI k v0_0 v0_1 v0_2 v0_3 v1 v2 (k+21) (sa) (sM) (s41) (s54) ((0:Int)) ([]) (0) (sX.length) (sX)
  try simp -implicitDefEqProofs only [List.map_nil,List.length_nil] at hu2
  simp -implicitDefEqProofs only [aej,adZ,adI,GT,Ha,H9,Gn,GV,nJ,ni,nw,nj,afy,adL,agn,GF,nG,aD (g:=57),↓syI,↓syP,syA,syD,simprocAttr,syE,af,ae,aa,syW,xQ,bX,cH,uJ,iE,wj,oY,dj,dz,gu,afP,ih,oI k v0_0 v0_1 v0_2 v0_3 v1 v2,hu2]
def lY (k:Nat) (v0:(Int×Int×Int×Int)) (v1:Tyt) (v2:(List (List Int))):Option (Typ×Bool):=
 ob (cg v0) fun xc=>
 bif !xc then
 some (((0,0,0,0),[],[],[],[]),false)
 else
 ob (bW (k+2) v1) fun xK=>
 bif !xK then
 some (((0,0,0,0),[],[],[],[]),false)
 else
 bif decide (3<(↑v2.length:Int)) then
 some (((0,0,0,0),[],[],[],[]),false)
 else
 ob (bW (k+1) v1) fun xD=>
 bif !xD then
 ob (dO (k+19) v1) fun xL=>
 ob (ng (k+17) v0) fun x166=>
 di k v0 v1 v2 (k+21) xL x166 ([]) 0 0 ([]) 0
 else
 ob (bL k (k+20) v1 (↑v1.length:Int) 0 [] 0 0) fun x167=>
 ob (dO (k+19) v1) fun x168=>
 ob (ng (k+17) v0) fun x169=>
 di k v0 v1 v2 (k+21) x168 x169 x167.2.1 x167.2.2 0 ([]) 0
theorem N7 (k:Nat) (v0_0 v0_1 v0_2 v0_3:Int) (v1:Tyt) (v2:List (List Int)):xC (k+22) none 23 [.agg [.lit (.int .i64 v0_0),.lit (.int .i64 v0_1),.lit (.int .i64 v0_2),.lit (.int .i64 v0_3)],.ro (List.map ak v1),.ro (List.map cz v2)]=ob (lY k (v0_0,v0_1,v0_2,v0_3) v1 v2) fun r=>some ((.tup [.agg [.lit (.int .i64 r.1.1.1),.lit (.int .i64 r.1.1.2.1),.lit (.int .i64 r.1.1.2.2.1),.lit (.int .i64 r.1.1.2.2.2),.ro (List.map ak r.1.2.1),.ro (List.map (av .u64) r.1.2.2.1),.ro (List.map aF r.1.2.2.2.1),.ro (List.map bn r.1.2.2.2.2)],.lit (.bool r.2)]),[]):=by
 rw [aD]
 unfold lY
 have hl0:=fun (x173:Tyt) (x174:List Int)=>lc k v0_0 v0_1 v0_2 v0_3 v1 v2 (k+21) (x173) (x174) ([]) (0) ((0:Int)) ([]) (0)
 try simp -implicitDefEqProofs only [List.map_nil,List.length_nil] at hl0
 have hl1:=fun (x176:Tyt) (x177:List Int) (x175:Nat×List Int×Nat)=>lc k v0_0 v0_1 v0_2 v0_3 v1 v2 (k+21) (x176) (x177) (x175.snd.fst) (x175.snd.snd) ((0:Int)) ([]) (0)
 try simp -implicitDefEqProofs only [List.map_nil,List.length_nil] at hl1
 simp -implicitDefEqProofs only [aej,adZ,adI,GT,Ha,H9,Gn,GV,nJ,ni,nw,nj,afy,adL,agn,GF,nG,aD (g:=57),↓syI,↓syP,syA,syD,simprocAttr,syE,af,ae,aa,syW,xQ,bX,cH,uJ,dj,dz,gu,lc k v0_0 v0_1 v0_2 v0_3 v1 v2,hl0,hl1]
 all_goals simp -implicitDefEqProofs only [List.map_nil]
end Go.Ab
set_option maxRecDepth 100000
set_option linter.unusedVariables false
set_option linter.unusedSimpArgs false
namespace Go.Ab
open Go.Proofs
end Go.Ab
set_option maxRecDepth 100000
set_option linter.unusedVariables false
set_option linter.unusedSimpArgs false
namespace Go.Ab
open Go.Proofs
def aV (k:Nat) (v0:(List (List Int)))  : Nat→Int→Option Bool
 | 0,_=>none
 | n+1,s3=>
 bif decide (s3<(↑v0.length:Int)) then
 bif decide (s3≤(10:Int)) then
 ob (idx v0 s3) fun x6=>
 bif decide ((60:Int)<(↑x6.length:Int)) then
 some (false)
 else
 aV k v0  n (IntKind.i64.wrap (s3+(1:Int)))
 else
 some (decide ((↑v0.length:Int)≤(10:Int)))
 else
 some (decide ((↑v0.length:Int)≤(10:Int)))
theorem lm (k:Nat) (v0:List (List Int)):∀ (n:Nat) (s3:Int),rt none (itX (xX (xS k) 22 0 k false) Ic (0) (bF (xX (xS k) 22 0 k false) (a7 (xS k).P Tryz.f22) MH) n ⟨[.ro (List.map cz v0),uu,.lit (.bool false),.lit (.int .i64 s3),.junk,.junk,.junk,.junk,.junk,.junk,.junk,.junk,.junk,.junk,.junk,.junk,.junk,.junk,.junk,.junk,uu,uu,uu],[]⟩)=ob (aV k v0  n s3) fun r=>some ((.lit (.bool r)),[]):=by
 intro n
 induction n with
 | zero=>intros;rfl
 | succ n ih=>
  intro s3
  rw [aV]
  simp -implicitDefEqProofs only [apb,api,aoR,Xe,WG,D7,Eg,↓syI,↓syP,syA,syD,simprocAttr,syE,af,ae,aa,syW,xQ,ag5,ih]
def cq (k:Nat) (v0:(List (List Int))):Option Bool:=
 aV k v0 k 0
theorem nS (k:Nat) (v0:List (List Int)):xC (k+1) none 22 [.ro (List.map cz v0)]=ob (cq k v0) fun r=>some ((.lit (.bool r)),[]):=by
 rw [aD]
 unfold cq
 simp -implicitDefEqProofs only [apb,api,aoR,Xe,WG,D7,Eg,↓syI,↓syP,syA,syD,simprocAttr,syE,af,ae,aa,syW,xQ,lm k v0]
end Go.Ab
set_option maxRecDepth 100000
set_option linter.unusedVariables false
set_option linter.unusedSimpArgs false
namespace Go.Ab
open Go.Proofs
end Go.Ab
