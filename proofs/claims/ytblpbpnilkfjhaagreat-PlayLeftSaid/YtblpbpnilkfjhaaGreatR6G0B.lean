import Derived.Test.YtblpbpnilkfjhaaGreatR6G0A
import Derived.Test.YtblpbpnilkfjhaaGreatR6B0A
import Derived.Test.YtblpbpnilkfjhaaGreatAbLibC
import Derived.Test.YtblpbpnilkfjhaaGreatR6FacP
set_option linter.unusedVariables false
set_option linter.unusedSimpArgs false
set_option maxRecDepth 100000
set_option linter.unusedVariables false
set_option linter.unusedSimpArgs false
namespace Go.Ab
open Go.Proofs
def aR (k:Nat) (v0:(List Tys))  : Nat→Int→Option Int
 | 0,_=>none
 | n+1,s6=>
 bif decide (s6<(↑v0.length:Int)) then
 ob (idx v0 s6) fun xT=>
 ob (mQ (xT.1,xT.2.1,xT.2.2.1,xT.2.2.2.1,xT.2.2.2.2.1,xT.2.2.2.2.2.1,xT.2.2.2.2.2.2.1,xT.2.2.2.2.2.2.2.1,xT.2.2.2.2.2.2.2.2)) fun xb=>
 bif xb then
 some (s6)
 else
 aR k v0  n (IntKind.i64.wrap (s6+(1:Int)))
 else
 some ((-1:Int))
theorem eu (k:Nat) (v0:List Tys):∀ (n:Nat) (s6:Int) ⦃j5:V⦄,rt none (itX (xX (xS (k+8)) 96 0 (k+8) false) Cs (0) (br (xX (xS (k+8)) 96 0 (k+8) false) (aX (xS (k+8)).P Tryz.f96) CX) n ⟨[.ro (List.map bh v0),.fn (Fn.func (28:FuncId)) [] [],uu,uu,.lit (.int .i64 (0:Int)),j5,.ro (List.map bh v0),.lit (.int .i64 (↑v0.length:Int)),.lit (.int .i64 s6),.junk,.junk,.junk,.junk,.junk,.junk,.junk,.junk,.junk,.junk],[]⟩)=ob (aR k v0  n s6) fun r=>some ((.lit (.int .i64 r)),[]):=by
 intro n
 induction n with
 | zero=>intros;rfl
 | succ n ih=>
  intro s6 j5
  rw [aR]
  simp -implicitDefEqProofs only [Mc,LX,MR,lX,dd,↓syI,↓syP,syA,syD,simprocAttr,syE,af,ae,aa,syW,xQ,EZ,Qn,ih]
def bH (k:Nat) (v0:(List Tys)):Option Int:=
 aR k v0 (k+8) 0
theorem fF (k:Nat) (v0:List Tys):xC (k+9) none 96 [.ro (List.map bh v0),.fn (Fn.func (28:FuncId)) [] []]=ob (bH k v0) fun r=>some ((.lit (.int .i64 r)),[]):=by
 rw [aD]
 unfold bH
 simp -implicitDefEqProofs only [Mc,LX,MR,lX,dd,↓syI,↓syP,syA,syD,simprocAttr,syE,af,ae,aa,syW,xQ,eu k v0]
def bn (k:Nat) (v0:(List Tys)):Option Bool:=
 ob (bH (k+8) v0) fun xp=>
 some (decide (0≤xp))
theorem cC (k:Nat) (v0:List Tys):xC (k+18) none 52 [.ro (List.map bh v0),.fn (Fn.func (28:FuncId)) [] []]=ob (bn k v0) fun r=>some ((.lit (.bool r)),[]):=by
 rw [aD]
 unfold bn
 simp -implicitDefEqProofs only [Tm,TY,Mc,LX,MR,lX,dd,↓syI,↓syP,syA,syD,simprocAttr,syE,af,ae,aa,syW,xQ,fF]
def fO (k : Nat) (v0 : ((Int × Int × Int × Int) × List (Int × List Int) × List Int × List (Int × List (Int × Int × Int) × (Int × Int × Int × Int × Int × Int × Int) × Int × Int) × List (Int × List Int × Int × Int × Int × Int × Int × Int × Int)))  : Nat → Int → Option Bool
 | 0,_ => none
 | n + 1,sZ =>
 bif decide (sZ < (↑v0.2.2.2.1.length : Int)) then
 ob (idx v0.2.2.2.1 sZ) fun xU =>
 ob (nc (xU.1,xU.2.1,(xU.2.2.1.1,xU.2.2.1.2.1,xU.2.2.1.2.2.1,xU.2.2.1.2.2.2.1,xU.2.2.1.2.2.2.2.1,xU.2.2.1.2.2.2.2.2.1,xU.2.2.1.2.2.2.2.2.2),xU.2.2.2.1,xU.2.2.2.2)) fun xq =>
 bif !xq then
 some (false)
 else
 ob (f4 (v0.1.1,v0.1.2.1,v0.1.2.2.1,v0.1.2.2.2) sZ) fun xr =>
 ob (aE v0.2.2.1 xr) fun xs =>
 bif xs != (0 : Int) then
 some (false)
 else
 fO k v0  n (IntKind.i64.wrap (sZ + (1 : Int)))
 else
 some (true)
theorem pz (k:Nat) (v0_0_0 v0_0_1 v0_0_2 v0_0_3:Int) (v0_1:Tyt) (v0_2:List Int) (v0_3:List Tyw) (v0_4:List Tys):∀ (n:Nat) (sZ:Int) ⦃sA sq sn:Bool⦄ ⦃j28 j29:V⦄,rt none (itX (xX (xS (k+35)) 25 0 (k+35) false) Fj (1) (br (xX (xS (k+35)) 25 0 (k+35) false) (aX (xS (k+35)).P Tryz.f25) K7) n ⟨[.agg [.lit (.int .i64 v0_0_0),.lit (.int .i64 v0_0_1),.lit (.int .i64 v0_0_2),.lit (.int .i64 v0_0_3),.ro (List.map ak v0_1),.ro (List.map (aw IntKind.u64) v0_2),.ro (List.map aC v0_3),.ro (List.map bh v0_4)],.ptr 0 0 0 0,.lit (.bool false),j28,j29,.agg [.lit (.int .i64 v0_0_0),.lit (.int .i64 v0_0_1),.lit (.int .i64 v0_0_2),.lit (.int .i64 v0_0_3),.ro (List.map ak v0_1),.ro (List.map (aw IntKind.u64) v0_2),.ro (List.map aC v0_3),.ro (List.map bh v0_4)],.lit (.bool sA),.lit (.bool sq),.lit (.bool false),.ptr 0 0 0 7,.ro (List.map bh v0_4),.lit (.bool sn),.lit (.bool sn),.ptr 0 0 0 6,.ro (List.map aC v0_3),.lit (.int .i64 (↑v0_3.length:Int)),.lit (.int .i64 sZ),.junk,.junk,.junk,.junk,.junk,.junk,.junk,.junk,.junk,.junk,.junk,.junk,.junk,.junk,.junk,.junk,.junk,.junk],[.box [.lit (.int .i64 v0_0_0),.lit (.int .i64 v0_0_1),.lit (.int .i64 v0_0_2),.lit (.int .i64 v0_0_3),.ro (List.map ak v0_1),.ro (List.map (aw IntKind.u64) v0_2),.ro (List.map aC v0_3),.ro (List.map bh v0_4)]]⟩)=ob (fO k ((v0_0_0,v0_0_1,v0_0_2,v0_0_3),v0_1,v0_2,v0_3,v0_4)  n sZ) fun r=>some ((.lit (.bool r)),[]):=by
 intro n
 induction n with
 | zero=>intros;rfl
 | succ n ih=>
  intro sZ sA sq sn j28 j29
  rw [fO]
  simp -implicitDefEqProofs only [anB,ane,anl,WI,We,Ws,Du,Dg,C0,Tm,TY,Mc,LX,MR,lX,dd,↓syI,↓syP,syA,syD,simprocAttr,syE,af,ae,aa,syW,xQ,dk,uU,Ee,dP,cC,ad3,ih]
def mR (k:Nat) (v0:Typ):Option Bool:=
 ob (eH k v0) fun xc=>
 bif !xc then
 some false
 else
 ob (bn (k+17) v0.2.2.2.2) fun xd=>
 bif xd then
 some false
 else
 fO k v0 (k+35) 0
theorem Er (k:Nat) (v0_0_0 v0_0_1 v0_0_2 v0_0_3:Int) (v0_1:Tyt) (v0_2:List Int) (v0_3:List Tyw) (v0_4:List Tys):xC (k+36) none 25 [.agg [.lit (.int .i64 v0_0_0),.lit (.int .i64 v0_0_1),.lit (.int .i64 v0_0_2),.lit (.int .i64 v0_0_3),.ro (List.map ak v0_1),.ro (List.map (aw .u64) v0_2),.ro (List.map aC v0_3),.ro (List.map bh v0_4)]]=ob (mR k ((v0_0_0,v0_0_1,v0_0_2,v0_0_3),v0_1,v0_2,v0_3,v0_4)) fun r=>some ((.lit (.bool r)),[]):=by
 rw [aD]
 unfold mR
 simp -implicitDefEqProofs only [anB,ane,anl,WI,We,Ws,Du,Dg,C0,Tm,TY,Mc,LX,MR,lX,dd,↓syI,↓syP,syA,syD,simprocAttr,syE,af,ae,aa,syW,xQ,dP,cC,pz k v0_0_0 v0_0_1 v0_0_2 v0_0_3 v0_1 v0_2 v0_3 v0_4]
def k7 (v0:Tys):Option Bool:=
 some (decide (0<(↑v0.2.1.length:Int)))
theorem AS (k:Nat) (v0_0:Int) (v0_1:List Int) (v0_2_0 v0_2_1 v0_2_2 v0_2_3 v0_2_4 v0_2_5 v0_2_6:Int):xC (k+1) none 67 [.agg [.lit (.int .i64 v0_0),.ro (List.map (aw .i64) v0_1),.lit (.int .i64 v0_2_0),.lit (.int .i64 v0_2_1),.lit (.int .i64 v0_2_2),.lit (.int .u64 v0_2_3),.lit (.int .u64 v0_2_4),.lit (.int .u64 v0_2_5),.lit (.int .i64 v0_2_6)]]=ob (k7 (v0_0,v0_1,(v0_2_0,v0_2_1,v0_2_2,v0_2_3,v0_2_4,v0_2_5,v0_2_6))) fun r=>some ((.lit (.bool r)),[]):=by
 rw [aD]
 unfold k7
 simp -implicitDefEqProofs only [anS,anW,↓syI,↓syP,syA,syD,simprocAttr,syE,af,ae,aa,syW,xQ]
def aP (k:Nat) (v0:(List Tys))  : Nat→Int→Option Int
 | 0,_=>none
 | n+1,sJ=>
 bif decide (sJ<(↑v0.length:Int)) then
 ob (idx v0 sJ) fun xW=>
 ob (k7 (xW.1,xW.2.1,xW.2.2.1,xW.2.2.2.1,xW.2.2.2.2.1,xW.2.2.2.2.2.1,xW.2.2.2.2.2.2.1,xW.2.2.2.2.2.2.2.1,xW.2.2.2.2.2.2.2.2)) fun xt=>
 bif xt then
 some (sJ)
 else
 aP k v0  n (IntKind.i64.wrap (sJ+(1:Int)))
 else
 some ((-1:Int))
theorem dX (k:Nat) (v0:List Tys):∀ (n:Nat) (sJ:Int) ⦃j55:V⦄,rt none (itX (xX (xS (k+8)) 96 0 (k+8) false) Cs (0) (br (xX (xS (k+8)) 96 0 (k+8) false) (aX (xS (k+8)).P Tryz.f96) CX) n ⟨[.ro (List.map bh v0),.fn (Fn.func (67:FuncId)) [] [],uu,uu,.lit (.int .i64 (0:Int)),j55,.ro (List.map bh v0),.lit (.int .i64 (↑v0.length:Int)),.lit (.int .i64 sJ),.junk,.junk,.junk,.junk,.junk,.junk,.junk,.junk,.junk,.junk],[]⟩)=ob (aP k v0  n sJ) fun r=>some ((.lit (.int .i64 r)),[]):=by
 intro n
 induction n with
 | zero=>intros;rfl
 | succ n ih=>
  intro sJ j55
  rw [aP]
  simp -implicitDefEqProofs only [Mc,LX,MR,lX,dd,↓syI,↓syP,syA,syD,simprocAttr,syE,af,ae,aa,syW,xQ,AS,Qn,ih]
def bA (k:Nat) (v0:(List Tys)):Option Int:=
 aP k v0 (k+8) 0
theorem fc (k:Nat) (v0:List Tys):xC (k+9) none 96 [.ro (List.map bh v0),.fn (Fn.func (67:FuncId)) [] []]=ob (bA k v0) fun r=>some ((.lit (.int .i64 r)),[]):=by
 rw [aD]
 unfold bA
 simp -implicitDefEqProofs only [Mc,LX,MR,lX,dd,↓syI,↓syP,syA,syD,simprocAttr,syE,af,ae,aa,syW,xQ,dX k v0]
def bf (k:Nat) (v0:(List Tys)):Option Bool:=
 ob (bA (k+8) v0) fun xu=>
 some (decide (0≤xu))
theorem eA (k:Nat) (v0:List Tys):xC (k+18) none 52 [.ro (List.map bh v0),.fn (Fn.func (67:FuncId)) [] []]=ob (bf k v0) fun r=>some ((.lit (.bool r)),[]):=by
 rw [aD]
 unfold bf
 simp -implicitDefEqProofs only [Tm,TY,Mc,LX,MR,lX,dd,↓syI,↓syP,syA,syD,simprocAttr,syE,af,ae,aa,syW,xQ,fc]
def mP (k:Nat) (v0:Typ):Option Bool:=
 ob (mR k v0) fun xv=>
 bif xv then
 ob (aE v0.2.2.1 0) fun xw=>
 bif xw==0 then
 ob (bf (k+18) v0.2.2.2.2) fun xx=>
 some (!xx)
 else
 some false
 else
 some false
theorem pV (k:Nat) (v0_0_0 v0_0_1 v0_0_2 v0_0_3:Int) (v0_1:Tyt) (v0_2:List Int) (v0_3:List Tyw) (v0_4:List Tys):xC (k+37) none 29 [.agg [.lit (.int .i64 v0_0_0),.lit (.int .i64 v0_0_1),.lit (.int .i64 v0_0_2),.lit (.int .i64 v0_0_3),.ro (List.map ak v0_1),.ro (List.map (aw .u64) v0_2),.ro (List.map aC v0_3),.ro (List.map bh v0_4)]]=ob (mP k ((v0_0_0,v0_0_1,v0_0_2,v0_0_3),v0_1,v0_2,v0_3,v0_4)) fun r=>some ((.lit (.bool r)),[]):=by
 rw [aD]
 unfold mP
 simp -implicitDefEqProofs only [aok,aon,aca,aeN,Mj,Tm,TY,anS,anW,Mc,LX,MR,lX,dd,↓syI,↓syP,syA,syD,simprocAttr,syE,af,ae,aa,syW,xQ,dk,Er,eA]
end Go.Ab
set_option maxRecDepth 100000
set_option linter.unusedVariables false
set_option linter.unusedSimpArgs false
namespace Go.Ab
open Go.Proofs
def cp (k:Nat) (v0:(List Int))  : Nat→Int→Nat→Tye→Option Tye
 | 0,_,_,_=>none
 | n+1,s5,s7,s8=>
 bif decide (s5<(↑v0.length:Int)) then
 bif decide ((0:Int)≤s5∧s5≤(↑v0.length:Int)) then
 bif decide ((0:Int)≤s5∧s5≤IntKind.i64.wrap (s5+bif decide ((↑(List.drop s5.toNat v0).length:Int)<(3:Int)) then (↑(List.drop s5.toNat v0).length:Int) else (3:Int))∧IntKind.i64.wrap (s5+bif decide ((↑(List.drop s5.toNat v0).length:Int)<(3:Int)) then (↑(List.drop s5.toNat v0).length:Int) else (3:Int))≤IntKind.i64.wrap (s5+bif decide ((↑(List.drop s5.toNat v0).length:Int)<(3:Int)) then (↑(List.drop s5.toNat v0).length:Int) else (3:Int))∧IntKind.i64.wrap (s5+bif decide ((↑(List.drop s5.toNat v0).length:Int)<(3:Int)) then (↑(List.drop s5.toNat v0).length:Int) else (3:Int))≤(↑v0.length:Int)) then
 bif (↑(List.drop s5.toNat (List.take (IntKind.i64.wrap (s5+bif decide ((↑(List.drop s5.toNat v0).length:Int)<(3:Int)) then (↑(List.drop s5.toNat v0).length:Int) else (3:Int))).toNat v0)).length:Int)==(3:Int) then
 ob (idx (List.drop s5.toNat (List.take (IntKind.i64.wrap (s5+bif decide ((↑(List.drop s5.toNat v0).length:Int)<(3:Int)) then (↑(List.drop s5.toNat v0).length:Int) else (3:Int))).toNat v0)) (0:Int)) fun xf=>
 ob (idx (List.drop s5.toNat (List.take (IntKind.i64.wrap (s5+bif decide ((↑(List.drop s5.toNat v0).length:Int)<(3:Int)) then (↑(List.drop s5.toNat v0).length:Int) else (3:Int))).toNat v0)) (1:Int)) fun xg=>
 ob (idx (List.drop s5.toNat (List.take (IntKind.i64.wrap (s5+bif decide ((↑(List.drop s5.toNat v0).length:Int)<(3:Int)) then (↑(List.drop s5.toNat v0).length:Int) else (3:Int))).toNat v0)) (2:Int)) fun xh=>
 ck (s7==3||s7==0) (
 bif room (s8++[(IntKind.i64.wrap (xf.tmod (4:Int)),IntKind.i64.wrap xg,IntKind.u64.wrap xh)]).length 24 then
 cp k v0  n (IntKind.i64.wrap (s5+(3:Int))) (3) (s8++[(IntKind.i64.wrap (xf.tmod (4:Int)),IntKind.i64.wrap xg,IntKind.u64.wrap xh)])
 else
 none)
 else
 cp k v0  n (IntKind.i64.wrap (s5+(3:Int))) (s7) (s8)
 else
 none
 else
 none
 else
 some (s8)
theorem kN (k:Nat) (v0:List Int):∀ (n:Nat) (s5:Int) (s7:Nat) (s8:Tye) ⦃s9:Nat⦄ ⦃j6:V⦄,rt none (bq (itX (xX (xS (k+22)) 152 0 (k+22) false) DY (6) (br (xX (xS (k+22)) 152 0 (k+22) false) (aX (xS (k+22)).P Tryz.f152) EC) n ⟨[.yld 5,.ptr 3 0 0 0,.ptr 4 0 0 0,uu,.lit (.int .i64 s5),j6,.junk,.junk,.junk,.junk,.junk,.junk,.junk,.junk,.junk,.junk,.junk,.junk,.junk,.junk,.junk,.junk,.junk,.junk,.junk,.junk,.junk,.junk,.junk,.junk,.junk],[.rows 0 [] 0 true,.rows s7 (List.map gh s8) s9 true,.box [.own 1 s9 s8.length],.box [.ro (List.map (aw IntKind.u8) v0)],.box [.lit (.int .i64 (3:Int))],(.loop ⟨LoopState.ready,none,73,[.ro (List.map (aw IntKind.u8) v0),uu,.own 0 0 0,.ptr 2 0 0 0,uu,.ro (List.map (aw IntKind.u8) v0),.fn (Fn.func (152:FuncId)) [] [.ptr 3 0 0 0,.ptr 4 0 0 0],uu,uu,uu,uu,uu,uu,uu,uu,uu,uu,uu,uu,uu,uu,uu,uu,uu,uu,uu,uu,uu,uu],[(7:Tmp)],OS,PH⟩)]⟩) (rfK (br (xX (xS (k+23)) 73 0 (k+23) false) (aX (xS (k+23)).P Tryz.f73) JN) [.ro (List.map (aw IntKind.u8) v0),uu,.own 0 0 0,.ptr 2 0 0 0,uu,.ro (List.map (aw IntKind.u8) v0),.fn (Fn.func (152:FuncId)) [] [.ptr 3 0 0 0,.ptr 4 0 0 0],uu,uu,uu,uu,uu,uu,uu,uu,uu,uu,uu,uu,uu,uu,uu,uu,uu,uu,uu,uu,uu,uu] (5)))=ob (cp k v0  n s5 s7 s8) fun r=>some ((.ro (List.map gh r)),[]):=by
 intro n
 induction n with
 | zero=>intros;rfl
 | succ n ih=>
  intro s5 s7 s8 s9 j6
  rw [cp]
  simp -implicitDefEqProofs only [an1,anV,ann,WH,nm,nj,CJ,Fi,acI,abU,Q1,Ao,aD (g:=111),acV,acY,ab3,N6,AN,↓syI,↓syP,syA,syD,simprocAttr,syE,af,ae,aa,syW,xFP,mS,xQ,Zj,ih]
def gk (k:Nat) (v0:(List Int)):Option Tye:=
 cp k v0 (k+22) ((0:Int)) (0) ([])
theorem EY (k:Nat) (v0:List Int):xC (k+24) none 73 [.ro (List.map (aw .u8) v0)]=ob (gk k v0) fun r=>some ((.ro (List.map gh r)),[]):=by
 rw [aD]
 unfold gk
 have hl0:=kN k v0 (k+22) ((0:Int)) (0) ([])
 try simp -implicitDefEqProofs only [List.map_nil,List.length_nil] at hl0
 simp -implicitDefEqProofs only [an1,anV,ann,WH,nm,nj,CJ,Fi,acI,abU,Q1,Ao,aD (g:=111),acV,acY,ab3,N6,AN,↓syI,↓syP,syA,syD,simprocAttr,syE,af,ae,aa,syW,xFP,mS,xQ,kN k v0,hl0]
end Go.Ab
set_option maxRecDepth 100000
set_option linter.unusedVariables false
set_option linter.unusedSimpArgs false
namespace Go.Ab
open Go.Proofs
def cF (k:Nat) (v0:Typ) (v1:Tye)  : Nat→Int→Int→Int→Int→Tyt→List Tyw→List Tys→List Tyw→List Tys→Tye→Int→List Int→Nat→Option (Typ×Tye×Nat)
 | 0,_,_,_,_,_,_,_,_,_,_,_,_,_=>none
 | n+1,sN,sO,sP,sQ,sR,sS,sM,sW,sT,sH,sK,sL,sI=>
 bif decide (sK<(↑v1.length:Int)) then
 ob (idx v1 sK) fun xE=>
 ob (gR (xE.1,xE.2.1,xE.2.2) v0.1.1 (↑v0.2.2.2.2.length:Int)) fun xi=>
 bif xi then
 bif xE.1==(0:Int) then
 bif decide ((0:Int)≤xE.2.1∧xE.2.1.toNat<sS.length) then
 ob (sW[xE.2.1.toNat]?) fun xN=>
 ob (gV k (sN,sO,sP,sQ) sR sL xE.2.1 (xN.1,xN.2.1,(xN.2.2.1.1,xN.2.2.1.2.1,xN.2.2.1.2.2.1,xN.2.2.1.2.2.2.1,xN.2.2.1.2.2.2.2.1,xN.2.2.1.2.2.2.2.2.1,xN.2.2.1.2.2.2.2.2.2),xN.2.2.2.1,xN.2.2.2.2) xE.2.2) fun xI=>
 bif decide ((0:Int)≤xE.2.1∧xE.2.1.toNat<sS.length) then
 ob (sW[xE.2.1.toNat]?) fun x153=>
 ck (sI==3||sI==0) (
 bif room (sH++xI.2.2).length 24 then
 cF k v0 v1  n (sN) (sO) (sP) (sQ) (sR) (sS) (sM) (sW.set xE.2.1.toNat (xI.2.1.1,xI.2.1.2.1,(xI.2.1.2.2.1.1,xI.2.1.2.2.1.2.1,xI.2.1.2.2.1.2.2.1,xI.2.1.2.2.1.2.2.2.1,xI.2.1.2.2.1.2.2.2.2.1,xI.2.1.2.2.1.2.2.2.2.2.1,xI.2.1.2.2.1.2.2.2.2.2.2),xI.2.1.2.2.2.1,xI.2.1.2.2.2.2)) (sT) (sH++xI.2.2) (IntKind.i64.wrap (sK+(1:Int))) (xI.1) (3)
 else
 none)
 else
 none
 else
 none
 else
 bif xE.1==(1:Int) then
 bif decide ((0:Int)≤xE.2.1∧xE.2.1.toNat<sM.length) then
 ob (sT[xE.2.1.toNat]?) fun xO=>
 ob (eP (k+36) (sN,sO,sP,sQ) sR sL (xO.1,xO.2.1,xO.2.2.1,xO.2.2.2.1,xO.2.2.2.2.1,xO.2.2.2.2.2.1,xO.2.2.2.2.2.2.1,xO.2.2.2.2.2.2.2.1,xO.2.2.2.2.2.2.2.2)) fun xj=>
 bif xj then
 bif decide ((0:Int)≤xE.2.1∧xE.2.1.toNat<sM.length) then
 ob (sT[xE.2.1.toNat]?) fun xP=>
 ob (fl (k+20) (sN,sO,sP,sQ) sR sL xE.2.1 (xP.1,xP.2.1,xP.2.2.1,xP.2.2.2.1,xP.2.2.2.2.1,xP.2.2.2.2.2.1,xP.2.2.2.2.2.2.1,xP.2.2.2.2.2.2.2.1,xP.2.2.2.2.2.2.2.2)) fun xJ=>
 bif decide ((0:Int)≤xE.2.1∧xE.2.1.toNat<sM.length) then
 ob (sT[xE.2.1.toNat]?) fun x158=>
 ck (sI==3||sI==0) (
 bif room (sH++xJ.2.2).length 24 then
 cF k v0 v1  n (sN) (sO) (sP) (sQ) (sR) (sS) (sM) (sW) (sT.set xE.2.1.toNat (xJ.2.1.1,xJ.2.1.2.1,xJ.2.1.2.2.1,xJ.2.1.2.2.2.1,xJ.2.1.2.2.2.2.1,xJ.2.1.2.2.2.2.2.1,xJ.2.1.2.2.2.2.2.2.1,xJ.2.1.2.2.2.2.2.2.2.1,xJ.2.1.2.2.2.2.2.2.2.2)) (sH++xJ.2.2) (IntKind.i64.wrap (sK+(1:Int))) (xJ.1) (3)
 else
 none)
 else
 none
 else
 none
 else
 ck (sI==3||sI==0) (
 bif room sH.length 24 then
 cF k v0 v1  n (sN) (sO) (sP) (sQ) (sR) (sS) (sM) (sW) (sT) (sH) (IntKind.i64.wrap (sK+(1:Int))) (sL) (3)
 else
 none)
 else
 none
 else
 bif xE.1==(2:Int) then
 ob (bg sL (3:Int) (1:Int)) fun xk=>
 ck (sI==3||sI==0) (
 bif room sH.length 24 then
 cF k v0 v1  n (sN) (sO) (sP) (sQ) (sR) (sS) (sM) (sW) (sT) (sH) (IntKind.i64.wrap (sK+(1:Int))) (xk) (3)
 else
 none)
 else
 ck (sI==3||sI==0) (
 bif room sH.length 24 then
 cF k v0 v1  n (sN) (sO) (sP) (sQ) (sR) (sS) (sM) (sW) (sT) (sH) (IntKind.i64.wrap (sK+(1:Int))) (sL) (3)
 else
 none)
 else
 cF k v0 v1  n (sN) (sO) (sP) (sQ) (sR) (sS) (sM) (sW) (sT) (sH) (IntKind.i64.wrap (sK+(1:Int))) (sL) (sI)
 else
 ck (decide (sS.length≤sW.length)) (
 ck (decide (sM.length≤sT.length)) (
 some ((((sN),(sO),(sP),(sQ)),(sR),(sL),(List.take sS.length sW),(List.take sM.length sT)),(sH),sI)))
theorem ma (k:Nat) (v0_0_0 v0_0_1 v0_0_2 v0_0_3:Int) (v0_1:Tyt) (v0_2:List Int) (v0_3:List Tyw) (v0_4:List Tys) (v1:Tye):∀ (n:Nat) (sN sO sP sQ:Int) (sR:Tyt) (sS:List Tyw) (sM:List Tys) (sW:List Tyw) (sT:List Tys) (sH:Tye) (sK:Int) (sL:List Int) (sI:Nat) ⦃sx:List Int⦄ ⦃sy sz:Bool⦄ ⦃sr:Nat⦄ ⦃j117:V⦄,rt (some fun i=>i==1) (itX (xX (xS (k+62)) 17 0 (k+62) false) Bz (15) (br (xX (xS (k+62)) 17 0 (k+62) false) (aX (xS (k+62)).P Tryz.f17) Cg) n ⟨[.agg [.lit (.int .i64 v0_0_0),.lit (.int .i64 v0_0_1),.lit (.int .i64 v0_0_2),.lit (.int .i64 v0_0_3),.ro (List.map ak v0_1),.ro (List.map (aw IntKind.u64) v0_2),.ro (List.map aC v0_3),.ro (List.map bh v0_4)],.ro (List.map gh v1),.ptr 0 0 0 0,uu,.ptr 5 0 0 0,.own 6 0 0,.ptr 13 0 0 0,.own 14 sr sH.length,uu,j117,.agg [.lit (.int .i64 v0_0_0),.lit (.int .i64 v0_0_1),.lit (.int .i64 v0_0_2),.lit (.int .i64 v0_0_3),.ro (List.map ak v0_1),.ro (List.map (aw IntKind.u64) v0_2),.ro (List.map aC v0_3),.ro (List.map bh v0_4)],.agg [.lit (.int .i64 sN),.lit (.int .i64 sO),.lit (.int .i64 sP),.lit (.int .i64 sQ),.ro (List.map ak sR),.ro (List.map (aw IntKind.u64) sx),.own 7 0 sS.length,.own 8 0 sM.length],.agg [.lit (.int .i64 v0_0_0),.lit (.int .i64 v0_0_1),.lit (.int .i64 v0_0_2),.lit (.int .i64 v0_0_3),.ro (List.map ak v0_1),.ro (List.map (aw IntKind.u64) v0_2),.ro (List.map aC v0_3),.ro (List.map bh v0_4)],.lit (.bool sy),.lit (.bool sz),uu,.ro (List.map gh v1),.lit (.int .i64 (↑v1.length:Int)),.lit (.int .i64 sK),.junk,.junk,.junk,.junk,.junk,.junk,.junk,.junk,.junk,.junk,.junk,.junk,.junk,.junk,.junk,.junk,uu,uu],[.box [.lit (.int .i64 v0_0_0),.lit (.int .i64 v0_0_1),.lit (.int .i64 v0_0_2),.lit (.int .i64 v0_0_3),.ro (List.map ak v0_1),.ro (List.map (aw IntKind.u64) v0_2),.ro (List.map aC v0_3),.ro (List.map bh v0_4)],.rows 0 [] 0 true,.rows 0 [] 0 true,.rows 0 [] 0 true,.rows 0 [] 0 true,.box [.lit (.int .i64 (0:Int)),.lit (.int .i64 (0:Int)),.lit (.int .i64 (0:Int)),.lit (.int .i64 (0:Int)),.own 1 0 0,.own 2 0 0,.own 3 0 0,.own 4 0 0],.rows 0 [] 0 true,.rows 11 (List.map aC sW) 0 true,.rows 9 (List.map bh sT) 0 true,.rows 0 [] 0 true,.rows 0 [] 0 true,.rows 0 [] 0 true,.rows 0 [] 0 true,.box [.lit (.int .i64 sN),.lit (.int .i64 sO),.lit (.int .i64 sP),.lit (.int .i64 sQ),.ro (List.map ak sR),.ro (List.map (aw IntKind.u64) sL),.own 7 0 sS.length,.own 8 0 sM.length],.rows sI (List.map aB sH) sr true]⟩)=ob (cF k ((v0_0_0,v0_0_1,v0_0_2,v0_0_3),v0_1,v0_2,v0_3,v0_4) v1  n sN sO sP sQ sR sS sM sW sT sH sK sL sI) fun r=>some ((.tup [.agg [.lit (.int .i64 r.1.1.1),.lit (.int .i64 r.1.1.2.1),.lit (.int .i64 r.1.1.2.2.1),.lit (.int .i64 r.1.1.2.2.2),.ro (List.map ak r.1.2.1),.ro (List.map (aw .u64) r.1.2.2.1),.ro (List.map aC r.1.2.2.2.1),.ro (List.map bh r.1.2.2.2.2)],.own 0 0 r.2.1.length]),[.rows r.2.2 (List.map aB r.2.1) 0 true]):=by
 intro n
 induction n with
 | zero=>intros;rfl
 | succ n ih=>
  intro sN sO sP sQ sR sS sM sW sT sH sK sL sI sx sy sz sr j117
  rw [cF]
  simp -implicitDefEqProofs only [WC,VF,VV,wa,f7,V0,VO,VG,wi,wn,f6,gg,aD (g:=41),VL,Wy,wb,f8,V2,VX,VT,VB,Wk,Wr,↓syI,↓syP,syA,syD,simprocAttr,syE,af,ae,aa,syW,wO,wN,rW,xQ,ee,ny,rJ,AV,cZ,dP,Bw,cz,PV,ih]
  all_goals try simp -implicitDefEqProofs only [List.map_nil,List.length_nil]
def pG (k:Nat) (v0:Typ) (v1:Tye):Option (Typ×Tye×Nat):=
 ob (dE (k+59) v0.2.1) fun xl=>
 ob (aK 8 v0.2.2.1) fun xm=>
 ob (aK 104 v0.2.2.2.1) fun xa=>
 ob (aK 88 v0.2.2.2.2) fun xn=>
 ob (bO k (k+61) v0.1.1 v0.1.2.1 v0.1.2.2.1 v0.1.2.2.2 xl xm xa xn (↑xa.length:Int) 0 xa) fun xB=>
 ck (decide (xB.2.2.2.2.2.2.1.length≤xB.2.2.2.2.2.2.2.2.1.length)) (
 ck (decide (xB.2.2.2.2.2.2.2.1.length≤xB.2.2.2.2.2.2.2.2.2.length)) (
 ob (eH (k+27) v0) fun xo=>
 bif !xo then
 ck (decide (xB.2.2.2.2.2.2.1.length≤(List.take xB.2.2.2.2.2.2.1.length xB.2.2.2.2.2.2.2.2.1).length)) (
 ck (decide (xB.2.2.2.2.2.2.2.1.length≤(List.take xB.2.2.2.2.2.2.2.1.length xB.2.2.2.2.2.2.2.2.2).length)) (
 some (((xB.1,xB.2.1,xB.2.2.1,xB.2.2.2.1),xB.2.2.2.2.1,xB.2.2.2.2.2.1,(List.take xB.2.2.2.2.2.2.1.length (List.take xB.2.2.2.2.2.2.1.length xB.2.2.2.2.2.2.2.2.1)),(List.take xB.2.2.2.2.2.2.2.1.length (List.take xB.2.2.2.2.2.2.2.1.length xB.2.2.2.2.2.2.2.2.2))),[],0)))
 else
 cF k v0 v1 (k+62) xB.1 xB.2.1 xB.2.2.1 xB.2.2.2.1 xB.2.2.2.2.1 xB.2.2.2.2.2.2.1 xB.2.2.2.2.2.2.2.1 (List.take xB.2.2.2.2.2.2.1.length xB.2.2.2.2.2.2.2.2.1) (List.take xB.2.2.2.2.2.2.2.1.length xB.2.2.2.2.2.2.2.2.2) ([]) 0 xB.2.2.2.2.2.1 0))
theorem cA (k:Nat) (v0_0_0 v0_0_1 v0_0_2 v0_0_3:Int) (v0_1:Tyt) (v0_2:List Int) (v0_3:List Tyw) (v0_4:List Tys) (v1:Tye):xC (k+63) (some fun i=>i==1) 17 [.agg [.lit (.int .i64 v0_0_0),.lit (.int .i64 v0_0_1),.lit (.int .i64 v0_0_2),.lit (.int .i64 v0_0_3),.ro (List.map ak v0_1),.ro (List.map (aw .u64) v0_2),.ro (List.map aC v0_3),.ro (List.map bh v0_4)],.ro (List.map gh v1)]=ob (pG k ((v0_0_0,v0_0_1,v0_0_2,v0_0_3),v0_1,v0_2,v0_3,v0_4) v1) fun r=>some ((.tup [.agg [.lit (.int .i64 r.1.1.1),.lit (.int .i64 r.1.1.2.1),.lit (.int .i64 r.1.1.2.2.1),.lit (.int .i64 r.1.1.2.2.2),.ro (List.map ak r.1.2.1),.ro (List.map (aw .u64) r.1.2.2.1),.ro (List.map aC r.1.2.2.2.1),.ro (List.map bh r.1.2.2.2.2)],.own 0 0 r.2.1.length]),[.rows r.2.2 (List.map aB r.2.1) 0 true]):=by
 rw [aD]
 unfold pG
 have hl0:=fun (xK:Int×Int×Int×Int×Tyt×List Int×List Tyw×List Tys×List Tyw×List Tys)=>ma k v0_0_0 v0_0_1 v0_0_2 v0_0_3 v0_1 v0_2 v0_3 v0_4 v1 (k+62) (xK.fst) (xK.snd.fst) (xK.snd.snd.fst) (xK.snd.snd.snd.fst) (xK.snd.snd.snd.snd.fst) (xK.snd.snd.snd.snd.snd.snd.fst) (xK.snd.snd.snd.snd.snd.snd.snd.fst) (List.take xK.snd.snd.snd.snd.snd.snd.fst.length xK.snd.snd.snd.snd.snd.snd.snd.snd.fst) (List.take xK.snd.snd.snd.snd.snd.snd.snd.fst.length xK.snd.snd.snd.snd.snd.snd.snd.snd.snd) ([]) ((0:Int)) (xK.snd.snd.snd.snd.snd.fst) (0)
 try simp -implicitDefEqProofs only [List.map_nil,List.length_nil] at hl0
 simp -implicitDefEqProofs only [WC,VF,VV,wa,f7,V0,VO,VG,wi,wn,f6,gg,aD (g:=41),VL,Wy,wb,f8,V2,VX,VT,VB,Wk,Wr,↓syI,↓syP,syA,syD,simprocAttr,syE,af,ae,aa,syW,wO,wN,rW,xQ,cZ,dP,cz,ma k v0_0_0 v0_0_1 v0_0_2 v0_0_3 v0_1 v0_2 v0_3 v0_4 v1,hl0]
 all_goals try simp -implicitDefEqProofs only [List.map_nil,List.length_nil]
end Go.Ab
set_option maxRecDepth 100000
set_option linter.unusedVariables false
set_option linter.unusedSimpArgs false
namespace Go.Ab
open Go.Proofs
def gI (k:Nat) (v0:Typ)  : Nat→Int→Int→Int→Int→Tyt→List Int→List Tyw→List Tys→List Tyw→List Tys→Option (Typ×Tye)
 | 0,_,_,_,_,_,_,_,_,_,_=>none
 | n+1,s8,s9,sU,sV,sX,sB,sC,sD,sE,sA=>
 ck (decide (sC.length≤sE.length)) (
 ck (decide (sD.length≤sA.length)) (
 some ((((s8),(s9),(sU),(sV)),(sX),(sB),(List.take sC.length sE),(List.take sD.length sA)),[])))
def kW (k:Nat) (v0:Typ):Option (Typ×Tye):=
 ob (dE (k+59) v0.2.1) fun xy=>
 ob (aK 8 v0.2.2.1) fun xz=>
 ob (aK 104 v0.2.2.2.1) fun xe=>
 ob (aK 88 v0.2.2.2.2) fun x29=>
 ob (bO k (k+61) v0.1.1 v0.1.2.1 v0.1.2.2.1 v0.1.2.2.2 xy xz xe x29 (↑xe.length:Int) (0:Int) xe) fun xH=>
 ck (decide (xH.2.2.2.2.2.2.1.length≤xH.2.2.2.2.2.2.2.2.1.length)) (
 ck (decide (xH.2.2.2.2.2.2.2.1.length≤xH.2.2.2.2.2.2.2.2.2.length)) (
 ob (eH (k+27) ((v0.1.1,v0.1.2.1,v0.1.2.2.1,v0.1.2.2.2),v0.2.1,v0.2.2.1,v0.2.2.2.1,v0.2.2.2.2)) fun x31=>
 bif !x31 then
 ck (decide (xH.2.2.2.2.2.2.1.length≤(List.take xH.2.2.2.2.2.2.1.length xH.2.2.2.2.2.2.2.2.1).length)) (
 ck (decide (xH.2.2.2.2.2.2.2.1.length≤(List.take xH.2.2.2.2.2.2.2.1.length xH.2.2.2.2.2.2.2.2.2).length)) (
 some ((((xH.1),(xH.2.1),(xH.2.2.1),(xH.2.2.2.1)),(xH.2.2.2.2.1),(xH.2.2.2.2.2.1),(List.take xH.2.2.2.2.2.2.1.length (List.take xH.2.2.2.2.2.2.1.length xH.2.2.2.2.2.2.2.2.1)),(List.take xH.2.2.2.2.2.2.2.1.length (List.take xH.2.2.2.2.2.2.2.1.length xH.2.2.2.2.2.2.2.2.2))),[])))
 else
 gI k v0 (k+62) (xH.1) (xH.2.1) (xH.2.2.1) (xH.2.2.2.1) (xH.2.2.2.2.1) (xH.2.2.2.2.2.1) (xH.2.2.2.2.2.2.1) (xH.2.2.2.2.2.2.2.1) (List.take xH.2.2.2.2.2.2.1.length xH.2.2.2.2.2.2.2.2.1) (List.take xH.2.2.2.2.2.2.2.1.length xH.2.2.2.2.2.2.2.2.2)))
theorem rT (k:Nat) (v0_0_0 v0_0_1 v0_0_2 v0_0_3:Int) (v0_1:Tyt) (v0_2:List Int) (v0_3:List Tyw) (v0_4:List Tys):∀ (n:Nat) (s8 s9 sU sV:Int) (sX:Tyt) (sB:List Int) (sC:List Tyw) (sD:List Tys) (sE:List Tyw) (sA:List Tys) ⦃sF sG:Bool⦄,rt (some fun i=>i==1) (itX (xX (xS (k+62)) 17 0 (k+62) false) Bz (15) (br (xX (xS (k+62)) 17 0 (k+62) false) (aX (xS (k+62)).P Tryz.f17) Cg) n ⟨[.agg [.lit (.int .i64 v0_0_0),.lit (.int .i64 v0_0_1),.lit (.int .i64 v0_0_2),.lit (.int .i64 v0_0_3),.ro (List.map ak v0_1),.ro (List.map (aw IntKind.u64) v0_2),.ro (List.map aC v0_3),.ro (List.map bh v0_4)],.nil,.ptr 0 0 0 0,uu,.ptr 5 0 0 0,.own 6 0 0,.ptr 13 0 0 0,.own 14 0 0,uu,uu,.agg [.lit (.int .i64 v0_0_0),.lit (.int .i64 v0_0_1),.lit (.int .i64 v0_0_2),.lit (.int .i64 v0_0_3),.ro (List.map ak v0_1),.ro (List.map (aw IntKind.u64) v0_2),.ro (List.map aC v0_3),.ro (List.map bh v0_4)],.agg [.lit (.int .i64 s8),.lit (.int .i64 s9),.lit (.int .i64 sU),.lit (.int .i64 sV),.ro (List.map ak sX),.ro (List.map (aw IntKind.u64) sB),.own 7 0 sC.length,.own 8 0 sD.length],.agg [.lit (.int .i64 v0_0_0),.lit (.int .i64 v0_0_1),.lit (.int .i64 v0_0_2),.lit (.int .i64 v0_0_3),.ro (List.map ak v0_1),.ro (List.map (aw IntKind.u64) v0_2),.ro (List.map aC v0_3),.ro (List.map bh v0_4)],.lit (.bool sF),.lit (.bool sG),uu,.nil,.lit (.int .i64 (0:Int)),.lit (.int .i64 (0:Int)),.junk,.junk,.junk,.junk,.junk,.junk,.junk,.junk,.junk,.junk,.junk,.junk,.junk,.junk,.junk,.junk,uu,uu],[.box [.lit (.int .i64 v0_0_0),.lit (.int .i64 v0_0_1),.lit (.int .i64 v0_0_2),.lit (.int .i64 v0_0_3),.ro (List.map ak v0_1),.ro (List.map (aw IntKind.u64) v0_2),.ro (List.map aC v0_3),.ro (List.map bh v0_4)],.rows 0 [] 0 true,.rows 0 [] 0 true,.rows 0 [] 0 true,.rows 0 [] 0 true,.box [.lit (.int .i64 (0:Int)),.lit (.int .i64 (0:Int)),.lit (.int .i64 (0:Int)),.lit (.int .i64 (0:Int)),.own 1 0 0,.own 2 0 0,.own 3 0 0,.own 4 0 0],.rows 0 [] 0 true,.rows 11 (List.map aC sE) 0 true,.rows 9 (List.map bh sA) 0 true,.rows 0 [] 0 true,.rows 0 [] 0 true,.rows 0 [] 0 true,.rows 0 [] 0 true,.box [.lit (.int .i64 s8),.lit (.int .i64 s9),.lit (.int .i64 sU),.lit (.int .i64 sV),.ro (List.map ak sX),.ro (List.map (aw IntKind.u64) sB),.own 7 0 sC.length,.own 8 0 sD.length],.rows 0 [] 0 true]⟩)=ob (gI k ((v0_0_0,v0_0_1,v0_0_2,v0_0_3),v0_1,v0_2,v0_3,v0_4)  n s8 s9 sU sV sX sB sC sD sE sA) fun r=>some ((.tup [.agg [.lit (.int .i64 r.1.1.1),.lit (.int .i64 r.1.1.2.1),.lit (.int .i64 r.1.1.2.2.1),.lit (.int .i64 r.1.1.2.2.2),.ro (List.map ak r.1.2.1),.ro (List.map (aw .u64) r.1.2.2.1),.ro (List.map aC r.1.2.2.2.1),.ro (List.map bh r.1.2.2.2.2)],.own 0 0 0]),[.rows 0 [] 0 true]):=by
 intro n
 induction n with
 | zero=>intros;rfl
 | succ n ih=>
  intro s8 s9 sU sV sX sB sC sD sE sA sF sG
  rw [gI]
  simp -implicitDefEqProofs only [WC,VF,VV,wa,f7,V0,VO,VG,wi,wn,f6,gg,aD (g:=41),VL,Wy,wb,f8,V2,VX,VT,VB,Wk,Wr,↓syI,↓syP,syA,syD,simprocAttr,syE,af,ae,aa,syW,wO,wN,rW,xFP,mS,yI,xQ,cZ,dP,cz,PV,ih]
theorem bP (k:Nat) (v0_0_0 v0_0_1 v0_0_2 v0_0_3:Int) (v0_1:Tyt) (v0_2:List Int) (v0_3:List Tyw) (v0_4:List Tys):xC (k+63) (some fun i=>i==1) 17 [.agg [.lit (.int .i64 v0_0_0),.lit (.int .i64 v0_0_1),.lit (.int .i64 v0_0_2),.lit (.int .i64 v0_0_3),.ro (List.map ak v0_1),.ro (List.map (aw .u64) v0_2),.ro (List.map aC v0_3),.ro (List.map bh v0_4)],.nil]=ob (kW k ((v0_0_0,v0_0_1,v0_0_2,v0_0_3),v0_1,v0_2,v0_3,v0_4)) fun r=>some ((.tup [.agg [.lit (.int .i64 r.1.1.1),.lit (.int .i64 r.1.1.2.1),.lit (.int .i64 r.1.1.2.2.1),.lit (.int .i64 r.1.1.2.2.2),.ro (List.map ak r.1.2.1),.ro (List.map (aw .u64) r.1.2.2.1),.ro (List.map aC r.1.2.2.2.1),.ro (List.map bh r.1.2.2.2.2)],.own 0 0 0]),[.rows 0 [] 0 true]):=by
 rw [aD]
 unfold kW
 simp -implicitDefEqProofs only [WC,VF,VV,wa,f7,V0,VO,VG,wi,wn,f6,gg,aD (g:=41),VL,Wy,wb,f8,V2,VX,VT,VB,Wk,Wr,↓syI,↓syP,syA,syD,simprocAttr,syE,af,ae,aa,syW,wO,wN,rW,xFP,mS,yI,xQ,cZ,dP,cz,rT k v0_0_0 v0_0_1 v0_0_2 v0_0_3 v0_1 v0_2 v0_3 v0_4]
end Go.Ab
set_option maxRecDepth 100000
set_option linter.unusedVariables false
set_option linter.unusedSimpArgs false
namespace Go.Ab
open Go.Proofs
def gK (k:Nat) (v0:Int) (v1:Int) (v2:Int)  : Nat→Tye→Nat→Int→Option Tye
 | 0,_,_,_=>none
 | n+1,sa,so,sb=>
 bif decide (sb<v1) then
 ck (so==3||so==0) (
 bif room (sa++[((1:Int),sb,v2)]).length 24 then
 gK k v0 v1 v2  n (sa++[((1:Int),sb,v2)]) (3) (IntKind.i64.wrap (sb+(1:Int)))
 else
 none)
 else
 some (sa)
theorem rD (k:Nat) (v0 v1 v2:Int):∀ (n:Nat) (sa:Tye) (so:Nat) (sb:Int) ⦃s31 s32 s33 ss:Bool⦄ ⦃st:Nat⦄ ⦃j39 j41:V⦄,rt none (itX (xX (xS (k+1)) 113 0 (k+1) false) Dw (2) (br (xX (xS (k+1)) 113 0 (k+1) false) (aX (xS (k+1)).P Tryz.f113) Es) n ⟨[.lit (.int .i64 v0),.lit (.int .i64 v1),.lit (.int .u64 v2),uu,uu,uu,.own 0 0 0,.own 1 st sa.length,j39,j41,.lit (.int .i64 v0),.lit (.bool s31),.lit (.bool s32),.lit (.bool false),.lit (.int .i64 v1),.lit (.bool s33),.lit (.bool ss),.lit (.bool ss),.lit (.int .i64 v0),.junk,.junk,.junk,.junk,.junk,.junk,.junk,.junk,.junk,.junk,.lit (.int .i64 v1),.lit (.int .i64 sb),.junk,.junk,.junk,.junk,.junk,.junk,.junk,.junk,.junk,uu],[.rows 0 [] 0 true,.rows so (List.map gh sa) st true]⟩)=ob (gK k v0 v1 v2  n sa so sb) fun r=>some ((.ro (List.map gh r)),[]):=by
 intro n
 induction n with
 | zero=>intros;rfl
 | succ n ih=>
  intro sa so sb s31 s32 s33 ss st j39 j41
  rw [gK]
  simp -implicitDefEqProofs only [Xp,ZE,Xs,H0,Jn,HR,pr,pL,pj,↓syI,↓syP,syA,syD,simprocAttr,syE,af,ae,aa,syW,xFP,mS,yI,xQ,cA,bP,iB,YV,ih]
def gl (k:Nat) (v0:Int) (v1:Int) (v2:Int)  : Nat→Tye→Int→Nat→Option Tye
 | 0,_,_,_=>none
 | n+1,sc,sd,se=>
 bif decide (sd<v0) then
 ck (se==3||se==0) (
 bif room (sc++[((0:Int),sd,v2)]).length 24 then
 gl k v0 v1 v2  n (sc++[((0:Int),sd,v2)]) (IntKind.i64.wrap (sd+(1:Int))) (3)
 else
 none)
 else
 gK k v0 v1 v2 (k+1) (sc) (se) ((0:Int))
theorem lF (k:Nat) (v0 v1 v2:Int):∀ (n:Nat) (sc:Tye) (sd:Int) (se:Nat) ⦃sA sq sn su:Bool⦄ ⦃sv:Nat⦄ ⦃j27:V⦄,rt none (itX (xX (xS (k+1)) 113 0 (k+1) false) D9 (2) (br (xX (xS (k+1)) 113 0 (k+1) false) (aX (xS (k+1)).P Tryz.f113) Dz) n ⟨[.lit (.int .i64 v0),.lit (.int .i64 v1),.lit (.int .u64 v2),uu,uu,uu,.own 0 0 0,.own 1 sv sc.length,j27,uu,.lit (.int .i64 v0),.lit (.bool sA),.lit (.bool sq),.lit (.bool false),.lit (.int .i64 v1),.lit (.bool sn),.lit (.bool su),.lit (.bool su),.lit (.int .i64 v0),.lit (.int .i64 sd),.junk,.junk,.junk,.junk,.junk,.junk,.junk,.junk,.junk,uu,uu,uu,uu,uu,uu,uu,uu,uu,uu,uu,uu],[.rows 0 [] 0 true,.rows se (List.map gh sc) sv true]⟩)=ob (gl k v0 v1 v2  n sc sd se) fun r=>some ((.ro (List.map gh r)),[]):=by
 intro n
 induction n with
 | zero=>intros;rfl
 | succ n ih=>
  intro sc sd se sA sq sn su sv j27
  rw [gl]
  simp -implicitDefEqProofs only [Xp,ZE,Xs,H0,Jn,HR,pr,pL,pj,↓syI,↓syP,syA,syD,simprocAttr,syE,af,ae,aa,syW,xFP,mS,yI,xQ,cA,bP,iB,abb,ih,rD k v0 v1 v2]
def nT (k:Nat) (v0:Int) (v1:Int) (v2:Int):Option Tye:=
 ob (cI v0 (21:Int)) fun xc=>
 bif !xc then
 some []
 else
 ob (cI v1 (21:Int)) fun xd=>
 bif !xd then
 some []
 else
 gl k v0 v1 v2 (k+1) ([]) ((0:Int)) (0)
theorem FG (k:Nat) (v0 v1 v2:Int):xC (k+2) none 113 [.lit (.int .i64 v0),.lit (.int .i64 v1),.lit (.int .u64 v2)]=ob (nT k v0 v1 v2) fun r=>some ((.ro (List.map gh r)),[]):=by
 rw [aD]
 unfold nT
 have hl0:=lF k v0 v1 v2 (k+1) ([]) ((0:Int)) (0)
 try simp -implicitDefEqProofs only [List.map_nil,List.length_nil] at hl0
 simp -implicitDefEqProofs only [Xp,ZE,Xs,H0,Jn,HR,pr,pL,pj,↓syI,↓syP,syA,syD,simprocAttr,syE,af,ae,aa,syW,xFP,mS,yI,xQ,cA,bP,iB,lF k v0 v1 v2,hl0]
 all_goals simp -implicitDefEqProofs only [List.map_nil]
def gq (k:Nat) (v0:Typ) (v1:Int)  : Nat→Int→Int→Int→Int→Tyt→List Int→List Tyw→List Tys→Int→Nat→Tye→Option (Typ×Tye×Int)
 | 0,_,_,_,_,_,_,_,_,_,_,_=>none
 | n+1,s4,s5,s6,s7,s8,s9,sU,sV,sY,sp,sJ=>
 bif decide (sY<bif decide ((5000:Int)<v1) then (5000:Int) else v1) then
 ob (nT (k+86) v0.1.1 (↑v0.2.2.2.2.length:Int) (IntKind.u64.wrap sY)) fun x74=>
 ob (mP (k+50) ((s4,s5,s6,s7),s8,s9,sU,sV)) fun x75=>
 bif x75 then
 some ((((s4),(s5),(s6),(s7)),(s8),(s9),(sU),(sV)),(sJ),(sY))
 else
 ob (pG (k+24) ((s4,s5,s6,s7),s8,s9,sU,sV) x74) fun xV=>
 ck (sp==3||sp==0) (
 bif room (sJ++xV.2.1).length 24 then
 gq k v0 v1  n (xV.1.1.1) (xV.1.1.2.1) (xV.1.1.2.2.1) (xV.1.1.2.2.2) (xV.1.2.1) (xV.1.2.2.1) (xV.1.2.2.2.1) (xV.1.2.2.2.2) (IntKind.i64.wrap (sY+(1:Int))) (3) (sJ++xV.2.1)
 else
 none)
 else
 some ((((s4),(s5),(s6),(s7)),(s8),(s9),(sU),(sV)),(sJ),(sY))
theorem lB (k:Nat) (v0_0_0 v0_0_1 v0_0_2 v0_0_3:Int) (v0_1:Tyt) (v0_2:List Int) (v0_3:List Tyw) (v0_4:List Tys) (v1:Int):∀ (n:Nat) (s4 s5 s6 s7:Int) (s8:Tyt) (s9:List Int) (sU:List Tyw) (sV:List Tys) (sY:Int) (sp:Nat) (sJ:Tye) ⦃sX sB:Bool⦄ ⦃sw:Nat⦄ ⦃sf sg sh si:Int⦄ ⦃sj:Tyt⦄ ⦃sk:List Int⦄ ⦃sl:List Tyw⦄ ⦃sm:List Tys⦄,rt none (bq (itX (xX (xS (k+88)) 112 0 (k+88) false) DJ (19) (br (xX (xS (k+88)) 112 0 (k+88) false) (aX (xS (k+88)).P Tryz.f112) EB) n ⟨[.yld 18,.ptr 17 0 0 0,.ptr 16 0 0 0,uu,.lit (.int .i64 sY),.junk,.junk,.junk,.junk,.junk,.junk,.junk,.junk,.junk,.junk,.junk,.junk,.junk,.junk,.junk,.junk,.junk,.junk,.junk],[.box [.lit (.int .i64 v0_0_0),.lit (.int .i64 v0_0_1),.lit (.int .i64 v0_0_2),.lit (.int .i64 v0_0_3),.ro (List.map ak v0_1),.ro (List.map (aw IntKind.u64) v0_2),.ro (List.map aC v0_3),.ro (List.map bh v0_4)],.rows 0 [] 0 true,.rows 0 [] 0 true,.rows 0 [] 0 true,.rows 0 [] 0 true,.box [.lit (.int .i64 (0:Int)),.lit (.int .i64 (0:Int)),.lit (.int .i64 (0:Int)),.lit (.int .i64 (0:Int)),.own 1 0 0,.own 2 0 0,.own 3 0 0,.own 4 0 0],.rows 0 [] 0 true,.rows sp (List.map aB sJ) sw true,.rows 0 [] 0 true,.rows 0 [] 0 true,.rows 0 [] 0 true,.rows 0 [] 0 true,.box [.lit (.int .i64 s4),.lit (.int .i64 s5),.lit (.int .i64 s6),.lit (.int .i64 s7),.ro (List.map ak s8),.ro (List.map (aw IntKind.u64) s9),.ro (List.map aC sU),.ro (List.map bh sV)],.rows 0 [] 0 true,.box [.own 7 sw sJ.length],.box [.lit (.int .i64 sY)],.box [.lit (.int .i64 v0_0_0),.lit (.int .i64 v0_0_1),.lit (.int .i64 v0_0_2),.lit (.int .i64 v0_0_3),.ro (List.map ak v0_1),.ro (List.map (aw IntKind.u64) v0_2),.ro (List.map aC v0_3),.ro (List.map bh v0_4)],.box [.lit (.int .i64 v1)],(.loop ⟨LoopState.ready,none,36,[.agg [.lit (.int .i64 v0_0_0),.lit (.int .i64 v0_0_1),.lit (.int .i64 v0_0_2),.lit (.int .i64 v0_0_3),.ro (List.map ak v0_1),.ro (List.map (aw IntKind.u64) v0_2),.ro (List.map aC v0_3),.ro (List.map bh v0_4)],.lit (.int .i64 v1),.ptr 0 0 0 0,uu,.ptr 5 0 0 0,.own 6 0 0,.lit (.int .i64 (0:Int)),.ptr 12 0 0 0,.ptr 14 0 0 0,.ptr 15 0 0 0,uu,uu,uu,uu,.tup [.agg [.lit (.int .i64 sf),.lit (.int .i64 sg),.lit (.int .i64 sh),.lit (.int .i64 si),.ro (List.map ak sj),.ro (List.map (aw IntKind.u64) sk),.ro (List.map aC sl),.ro (List.map bh sm)],.own 7 0 0],.agg [.lit (.int .i64 v0_0_0),.lit (.int .i64 v0_0_1),.lit (.int .i64 v0_0_2),.lit (.int .i64 v0_0_3),.ro (List.map ak v0_1),.ro (List.map (aw IntKind.u64) v0_2),.ro (List.map aC v0_3),.ro (List.map bh v0_4)],.tup [.agg [.lit (.int .i64 sf),.lit (.int .i64 sg),.lit (.int .i64 sh),.lit (.int .i64 si),.ro (List.map ak sj),.ro (List.map (aw IntKind.u64) sk),.ro (List.map aC sl),.ro (List.map bh sm)],.own 7 0 0],.agg [.lit (.int .i64 sf),.lit (.int .i64 sg),.lit (.int .i64 sh),.lit (.int .i64 si),.ro (List.map ak sj),.ro (List.map (aw IntKind.u64) sk),.ro (List.map aC sl),.ro (List.map bh sm)],.own 7 0 0,.agg [.lit (.int .i64 v0_0_0),.lit (.int .i64 v0_0_1),.lit (.int .i64 v0_0_2),.lit (.int .i64 v0_0_3),.ro (List.map ak v0_1),.ro (List.map (aw IntKind.u64) v0_2),.ro (List.map aC v0_3),.ro (List.map bh v0_4)],.lit (.bool sX),.lit (.bool sB),uu,.agg [.lit (.int .i64 v0_0_0),.lit (.int .i64 v0_0_1),.lit (.int .i64 v0_0_2),.lit (.int .i64 v0_0_3),.ro (List.map ak v0_1),.ro (List.map (aw IntKind.u64) v0_2),.ro (List.map aC v0_3),.ro (List.map bh v0_4)],.lit (.int .i64 v1),.fn (Fn.func (112:FuncId)) [] [.ptr 17 0 0 0,.ptr 16 0 0 0],uu,uu,uu,uu,uu,uu,uu,uu,uu,uu,uu,uu,uu,uu,uu,uu,uu,uu,uu],[(26:Tmp),(27:Tmp)],Og,PT⟩)]⟩) (rfK (br (xX (xS (k+89)) 36 0 (k+89) false) (aX (xS (k+89)).P Tryz.f36) FW) [.agg [.lit (.int .i64 v0_0_0),.lit (.int .i64 v0_0_1),.lit (.int .i64 v0_0_2),.lit (.int .i64 v0_0_3),.ro (List.map ak v0_1),.ro (List.map (aw IntKind.u64) v0_2),.ro (List.map aC v0_3),.ro (List.map bh v0_4)],.lit (.int .i64 v1),.ptr 0 0 0 0,uu,.ptr 5 0 0 0,.own 6 0 0,.lit (.int .i64 (0:Int)),.ptr 12 0 0 0,.ptr 14 0 0 0,.ptr 15 0 0 0,uu,uu,uu,uu,.tup [.agg [.lit (.int .i64 sf),.lit (.int .i64 sg),.lit (.int .i64 sh),.lit (.int .i64 si),.ro (List.map ak sj),.ro (List.map (aw IntKind.u64) sk),.ro (List.map aC sl),.ro (List.map bh sm)],.own 7 0 0],.agg [.lit (.int .i64 v0_0_0),.lit (.int .i64 v0_0_1),.lit (.int .i64 v0_0_2),.lit (.int .i64 v0_0_3),.ro (List.map ak v0_1),.ro (List.map (aw IntKind.u64) v0_2),.ro (List.map aC v0_3),.ro (List.map bh v0_4)],.tup [.agg [.lit (.int .i64 sf),.lit (.int .i64 sg),.lit (.int .i64 sh),.lit (.int .i64 si),.ro (List.map ak sj),.ro (List.map (aw IntKind.u64) sk),.ro (List.map aC sl),.ro (List.map bh sm)],.own 7 0 0],.agg [.lit (.int .i64 sf),.lit (.int .i64 sg),.lit (.int .i64 sh),.lit (.int .i64 si),.ro (List.map ak sj),.ro (List.map (aw IntKind.u64) sk),.ro (List.map aC sl),.ro (List.map bh sm)],.own 7 0 0,.agg [.lit (.int .i64 v0_0_0),.lit (.int .i64 v0_0_1),.lit (.int .i64 v0_0_2),.lit (.int .i64 v0_0_3),.ro (List.map ak v0_1),.ro (List.map (aw IntKind.u64) v0_2),.ro (List.map aC v0_3),.ro (List.map bh v0_4)],.lit (.bool sX),.lit (.bool sB),uu,.agg [.lit (.int .i64 v0_0_0),.lit (.int .i64 v0_0_1),.lit (.int .i64 v0_0_2),.lit (.int .i64 v0_0_3),.ro (List.map ak v0_1),.ro (List.map (aw IntKind.u64) v0_2),.ro (List.map aC v0_3),.ro (List.map bh v0_4)],.lit (.int .i64 v1),.fn (Fn.func (112:FuncId)) [] [.ptr 17 0 0 0,.ptr 16 0 0 0],uu,uu,uu,uu,uu,uu,uu,uu,uu,uu,uu,uu,uu,uu,uu,uu,uu,uu,uu] (18)))=ob (gq k ((v0_0_0,v0_0_1,v0_0_2,v0_0_3),v0_1,v0_2,v0_3,v0_4) v1  n s4 s5 s6 s7 s8 s9 sU sV sY sp sJ) fun r=>some ((.tup [.agg [.lit (.int .i64 r.1.1.1),.lit (.int .i64 r.1.1.2.1),.lit (.int .i64 r.1.1.2.2.1),.lit (.int .i64 r.1.1.2.2.2),.ro (List.map ak r.1.2.1),.ro (List.map (aw .u64) r.1.2.2.1),.ro (List.map aC r.1.2.2.2.1),.ro (List.map bh r.1.2.2.2.2)],.ro (List.map aB r.2.1),.lit (.int .i64 r.2.2)]),[]):=by
 intro n
 induction n with
 | zero=>intros;rfl
 | succ n ih=>
  intro s4 s5 s6 s7 s8 s9 sU sV sY sp sJ sX sB sw sf sg sh si sj sk sl sm
  rw [gq]
  simp -implicitDefEqProofs only [anp,anG,anw,WG,VE,iY,iZ,C1,G8,anO,ant,aD (g:=74),ac6,adH,ado,PD,BB,↓syI,↓syP,syA,syD,simprocAttr,syE,af,ae,aa,syW,xFP,mS,yI,xQ,cA,bP,dP,pV,FG,Yr,ih]
def lJ (k:Nat) (v0:Typ) (v1:Int):Option (Typ×Tye×Int):=
 ob (kW (k+26) ((v0.1.1,v0.1.2.1,v0.1.2.2.1,v0.1.2.2.2),v0.2.1,v0.2.2.1,v0.2.2.2.1,v0.2.2.2.2)) fun xL=>
 ob (eH (k+54) ((v0.1.1,v0.1.2.1,v0.1.2.2.1,v0.1.2.2.2),v0.2.1,v0.2.2.1,v0.2.2.2.1,v0.2.2.2.2)) fun x78=>
 bif !x78 then
 some ((((xL.1.1.1),(xL.1.1.2.1),(xL.1.1.2.2.1),(xL.1.1.2.2.2)),(xL.1.2.1),(xL.1.2.2.1),(xL.1.2.2.2.1),(xL.1.2.2.2.2)),[],((0:Int)))
 else
 gq k v0 v1 (k+88) (xL.1.1.1) (xL.1.1.2.1) (xL.1.1.2.2.1) (xL.1.1.2.2.2) (xL.1.2.1) (xL.1.2.2.1) (xL.1.2.2.2.1) (xL.1.2.2.2.2) ((0:Int)) (0) ([])
theorem GO (k:Nat) (v0_0_0 v0_0_1 v0_0_2 v0_0_3:Int) (v0_1:Tyt) (v0_2:List Int) (v0_3:List Tyw) (v0_4:List Tys) (v1:Int):xC (k+90) none 36 [.agg [.lit (.int .i64 v0_0_0),.lit (.int .i64 v0_0_1),.lit (.int .i64 v0_0_2),.lit (.int .i64 v0_0_3),.ro (List.map ak v0_1),.ro (List.map (aw .u64) v0_2),.ro (List.map aC v0_3),.ro (List.map bh v0_4)],.lit (.int .i64 v1)]=ob (lJ k ((v0_0_0,v0_0_1,v0_0_2,v0_0_3),v0_1,v0_2,v0_3,v0_4) v1) fun r=>some ((.tup [.agg [.lit (.int .i64 r.1.1.1),.lit (.int .i64 r.1.1.2.1),.lit (.int .i64 r.1.1.2.2.1),.lit (.int .i64 r.1.1.2.2.2),.ro (List.map ak r.1.2.1),.ro (List.map (aw .u64) r.1.2.2.1),.ro (List.map aC r.1.2.2.2.1),.ro (List.map bh r.1.2.2.2.2)],.ro (List.map aB r.2.1),.lit (.int .i64 r.2.2)]),[]):=by
 rw [aD]
 unfold lJ
 have hl0:=fun (xZ:Typ×Tye)=>lB k v0_0_0 v0_0_1 v0_0_2 v0_0_3 v0_1 v0_2 v0_3 v0_4 v1 (k+88) (xZ.fst.fst.fst) (xZ.fst.fst.snd.fst) (xZ.fst.fst.snd.snd.fst) (xZ.fst.fst.snd.snd.snd) (xZ.fst.snd.fst) (xZ.fst.snd.snd.fst) (xZ.fst.snd.snd.snd.fst) (xZ.fst.snd.snd.snd.snd) ((0:Int)) (0) ([])
 try simp -implicitDefEqProofs only [List.map_nil,List.length_nil] at hl0
 simp -implicitDefEqProofs only [anp,anG,anw,WG,VE,iY,iZ,C1,G8,anO,ant,aD (g:=74),ac6,adH,ado,PD,BB,↓syI,↓syP,syA,syD,simprocAttr,syE,af,ae,aa,syW,xFP,mS,yI,xQ,cA,bP,dP,lB k v0_0_0 v0_0_1 v0_0_2 v0_0_3 v0_1 v0_2 v0_3 v0_4 v1,hl0]
 all_goals simp -implicitDefEqProofs only [List.map_nil]
end Go.Ab
set_option maxRecDepth 100000
set_option linter.unusedVariables false
set_option linter.unusedSimpArgs false
namespace Go.Ab
open Go.Proofs
def gU (k:Nat) (v0:(Int×Int×Int×Int)) (v1:Tyt) (v2:(List (List Int))) (v3:(List Int)):Option (Typ×Tye×Bool):=
 ob (kK (k+41) (v0.1,v0.2.1,v0.2.2.1,v0.2.2.2) v1 v2) fun x4=>
 bif !x4.2 then
 some (((((0:Int)),((0:Int)),((0:Int)),((0:Int))),[],[],[],[]),[],(false))
 else
 ob (gk (k+39) v3) fun x5=>
 ob (mq k ((x4.1.1.1,x4.1.1.2.1,x4.1.1.2.2.1,x4.1.1.2.2.2),x4.1.2.1,x4.1.2.2.1,x4.1.2.2.2.1,x4.1.2.2.2.2) x5) fun x6=>
 some ((((x6.1.1.1),(x6.1.1.2.1),(x6.1.1.2.2.1),(x6.1.1.2.2.2)),(x6.1.2.1),(x6.1.2.2.1),(x6.1.2.2.2.1),(x6.1.2.2.2.2)),(x6.2),(true))
theorem pE (k:Nat) (v0_0 v0_1 v0_2 v0_3:Int) (v1:Tyt) (v2:List (List Int)) (v3:List Int):xC (k+64) none 34 [.agg [.lit (.int .i64 v0_0),.lit (.int .i64 v0_1),.lit (.int .i64 v0_2),.lit (.int .i64 v0_3)],.ro (List.map ak v1),.ro (List.map cR v2),.ro (List.map (aw .u8) v3)]=ob (gU k (v0_0,v0_1,v0_2,v0_3) v1 v2 v3) fun r=>some ((.tup [.agg [.lit (.int .i64 r.1.1.1),.lit (.int .i64 r.1.1.2.1),.lit (.int .i64 r.1.1.2.2.1),.lit (.int .i64 r.1.1.2.2.2),.ro (List.map ak r.1.2.1),.ro (List.map (aw .u64) r.1.2.2.1),.ro (List.map aC r.1.2.2.2.1),.ro (List.map bh r.1.2.2.2.2)],.ro (List.map aB r.2.1),.lit (.bool r.2.2)]),[]):=by
 rw [aD]
 unfold gU
 simp -implicitDefEqProofs only [apc,aom,↓syI,↓syP,syA,syD,simprocAttr,syE,af,ae,aa,syW,xFP,mS,yI,xQ,cA,bP,LG,LC,EY]
 all_goals simp -implicitDefEqProofs only [List.map_nil]
def am (k:Nat) (v0:Tyt) (v1:Tye)  : Nat→Int→Int→Int→Int→Int→Int→Int→Option (Int×Int×Int)
 | 0,_,_,_,_,_,_,_=>none
 | n+1,sB,sC,sD,sF,sG,sE,sA=>
 bif decide (sB<(↑v1.length:Int)) then
 ob (idx v1 sB) fun xD=>
 bif decide (xD.1<(0:Int)) then
 am k v0 v1  n (IntKind.i64.wrap (sB+(1:Int))) (sC) (sD) (sF) (sG) (sE) (sA)
 else
 bif decide ((6:Int)≤xD.1) then
 am k v0 v1  n (IntKind.i64.wrap (sB+(1:Int))) (sC) (sD) (sF) (sG) (sE) (sA)
 else
 bif xD.1==(0:Int) then
 bif xD.1==(0:Int) then
 am k v0 v1  n (IntKind.i64.wrap (sB+(1:Int))) (IntKind.i64.wrap (sC+(1:Int))) (sD) (sF) (sG) (sE) (sA)
 else
 bif xD.1==(1:Int) then
 am k v0 v1  n (IntKind.i64.wrap (sB+(1:Int))) (sC) (IntKind.i64.wrap (sC+(1:Int))) (sF) (sG) (sE) (sA)
 else
 bif xD.1==(2:Int) then
 am k v0 v1  n (IntKind.i64.wrap (sB+(1:Int))) (sC) (sD) (IntKind.i64.wrap (sC+(1:Int))) (sG) (sE) (sA)
 else
 bif xD.1==(3:Int) then
 am k v0 v1  n (IntKind.i64.wrap (sB+(1:Int))) (sC) (sD) (sF) (IntKind.i64.wrap (sC+(1:Int))) (sE) (sA)
 else
 bif xD.1==(4:Int) then
 am k v0 v1  n (IntKind.i64.wrap (sB+(1:Int))) (sC) (sD) (sF) (sG) (IntKind.i64.wrap (sC+(1:Int))) (sA)
 else
 bif xD.1==(5:Int) then
 am k v0 v1  n (IntKind.i64.wrap (sB+(1:Int))) (sC) (sD) (sF) (sG) (sE) (IntKind.i64.wrap (sC+(1:Int)))
 else
 none
 else
 bif xD.1==(1:Int) then
 bif xD.1==(0:Int) then
 am k v0 v1  n (IntKind.i64.wrap (sB+(1:Int))) (IntKind.i64.wrap (sD+(1:Int))) (sD) (sF) (sG) (sE) (sA)
 else
 bif xD.1==(1:Int) then
 am k v0 v1  n (IntKind.i64.wrap (sB+(1:Int))) (sC) (IntKind.i64.wrap (sD+(1:Int))) (sF) (sG) (sE) (sA)
 else
 bif xD.1==(2:Int) then
 am k v0 v1  n (IntKind.i64.wrap (sB+(1:Int))) (sC) (sD) (IntKind.i64.wrap (sD+(1:Int))) (sG) (sE) (sA)
 else
 bif xD.1==(3:Int) then
 am k v0 v1  n (IntKind.i64.wrap (sB+(1:Int))) (sC) (sD) (sF) (IntKind.i64.wrap (sD+(1:Int))) (sE) (sA)
 else
 bif xD.1==(4:Int) then
 am k v0 v1  n (IntKind.i64.wrap (sB+(1:Int))) (sC) (sD) (sF) (sG) (IntKind.i64.wrap (sD+(1:Int))) (sA)
 else
 bif xD.1==(5:Int) then
 am k v0 v1  n (IntKind.i64.wrap (sB+(1:Int))) (sC) (sD) (sF) (sG) (sE) (IntKind.i64.wrap (sD+(1:Int)))
 else
 none
 else
 bif xD.1==(2:Int) then
 bif xD.1==(0:Int) then
 am k v0 v1  n (IntKind.i64.wrap (sB+(1:Int))) (IntKind.i64.wrap (sF+(1:Int))) (sD) (sF) (sG) (sE) (sA)
 else
 bif xD.1==(1:Int) then
 am k v0 v1  n (IntKind.i64.wrap (sB+(1:Int))) (sC) (IntKind.i64.wrap (sF+(1:Int))) (sF) (sG) (sE) (sA)
 else
 bif xD.1==(2:Int) then
 am k v0 v1  n (IntKind.i64.wrap (sB+(1:Int))) (sC) (sD) (IntKind.i64.wrap (sF+(1:Int))) (sG) (sE) (sA)
 else
 bif xD.1==(3:Int) then
 am k v0 v1  n (IntKind.i64.wrap (sB+(1:Int))) (sC) (sD) (sF) (IntKind.i64.wrap (sF+(1:Int))) (sE) (sA)
 else
 bif xD.1==(4:Int) then
 am k v0 v1  n (IntKind.i64.wrap (sB+(1:Int))) (sC) (sD) (sF) (sG) (IntKind.i64.wrap (sF+(1:Int))) (sA)
 else
 bif xD.1==(5:Int) then
 am k v0 v1  n (IntKind.i64.wrap (sB+(1:Int))) (sC) (sD) (sF) (sG) (sE) (IntKind.i64.wrap (sF+(1:Int)))
 else
 none
 else
 bif xD.1==(3:Int) then
 bif xD.1==(0:Int) then
 am k v0 v1  n (IntKind.i64.wrap (sB+(1:Int))) (IntKind.i64.wrap (sG+(1:Int))) (sD) (sF) (sG) (sE) (sA)
 else
 bif xD.1==(1:Int) then
 am k v0 v1  n (IntKind.i64.wrap (sB+(1:Int))) (sC) (IntKind.i64.wrap (sG+(1:Int))) (sF) (sG) (sE) (sA)
 else
 bif xD.1==(2:Int) then
 am k v0 v1  n (IntKind.i64.wrap (sB+(1:Int))) (sC) (sD) (IntKind.i64.wrap (sG+(1:Int))) (sG) (sE) (sA)
 else
 bif xD.1==(3:Int) then
 am k v0 v1  n (IntKind.i64.wrap (sB+(1:Int))) (sC) (sD) (sF) (IntKind.i64.wrap (sG+(1:Int))) (sE) (sA)
 else
 bif xD.1==(4:Int) then
 am k v0 v1  n (IntKind.i64.wrap (sB+(1:Int))) (sC) (sD) (sF) (sG) (IntKind.i64.wrap (sG+(1:Int))) (sA)
 else
 bif xD.1==(5:Int) then
 am k v0 v1  n (IntKind.i64.wrap (sB+(1:Int))) (sC) (sD) (sF) (sG) (sE) (IntKind.i64.wrap (sG+(1:Int)))
 else
 none
 else
 bif xD.1==(4:Int) then
 bif xD.1==(0:Int) then
 am k v0 v1  n (IntKind.i64.wrap (sB+(1:Int))) (IntKind.i64.wrap (sE+(1:Int))) (sD) (sF) (sG) (sE) (sA)
 else
 bif xD.1==(1:Int) then
 am k v0 v1  n (IntKind.i64.wrap (sB+(1:Int))) (sC) (IntKind.i64.wrap (sE+(1:Int))) (sF) (sG) (sE) (sA)
 else
 bif xD.1==(2:Int) then
 am k v0 v1  n (IntKind.i64.wrap (sB+(1:Int))) (sC) (sD) (IntKind.i64.wrap (sE+(1:Int))) (sG) (sE) (sA)
 else
 bif xD.1==(3:Int) then
 am k v0 v1  n (IntKind.i64.wrap (sB+(1:Int))) (sC) (sD) (sF) (IntKind.i64.wrap (sE+(1:Int))) (sE) (sA)
 else
 bif xD.1==(4:Int) then
 am k v0 v1  n (IntKind.i64.wrap (sB+(1:Int))) (sC) (sD) (sF) (sG) (IntKind.i64.wrap (sE+(1:Int))) (sA)
 else
 bif xD.1==(5:Int) then
 am k v0 v1  n (IntKind.i64.wrap (sB+(1:Int))) (sC) (sD) (sF) (sG) (sE) (IntKind.i64.wrap (sE+(1:Int)))
 else
 none
 else
 bif xD.1==(5:Int) then
 bif xD.1==(0:Int) then
 am k v0 v1  n (IntKind.i64.wrap (sB+(1:Int))) (IntKind.i64.wrap (sA+(1:Int))) (sD) (sF) (sG) (sE) (sA)
 else
 bif xD.1==(1:Int) then
 am k v0 v1  n (IntKind.i64.wrap (sB+(1:Int))) (sC) (IntKind.i64.wrap (sA+(1:Int))) (sF) (sG) (sE) (sA)
 else
 bif xD.1==(2:Int) then
 am k v0 v1  n (IntKind.i64.wrap (sB+(1:Int))) (sC) (sD) (IntKind.i64.wrap (sA+(1:Int))) (sG) (sE) (sA)
 else
 bif xD.1==(3:Int) then
 am k v0 v1  n (IntKind.i64.wrap (sB+(1:Int))) (sC) (sD) (sF) (IntKind.i64.wrap (sA+(1:Int))) (sE) (sA)
 else
 bif xD.1==(4:Int) then
 am k v0 v1  n (IntKind.i64.wrap (sB+(1:Int))) (sC) (sD) (sF) (sG) (IntKind.i64.wrap (sA+(1:Int))) (sA)
 else
 bif xD.1==(5:Int) then
 am k v0 v1  n (IntKind.i64.wrap (sB+(1:Int))) (sC) (sD) (sF) (sG) (sE) (IntKind.i64.wrap (sA+(1:Int)))
 else
 none
 else
 none
 else
 some ((sC),(sD),(sE))
theorem rG (k:Nat) (v0:Tyt) (v1:Tye):∀ (n:Nat) (sB sC sD sF sG sE sA:Int) ⦃j12:V⦄,rt none (itX (xX (xS k) 37 0 k false) Cj (1) (br (xX (xS k) 37 0 k false) (aX (xS k).P Tryz.f37) Lj) n ⟨[.ro (List.map ak v0),.ro (List.map aB v1),uu,uu,.lit (.int .i64 (0:Int)),.lit (.int .i64 (0:Int)),.lit (.int .i64 (0:Int)),.ptr 0 0 0 0,uu,j12,.ro (List.map aB v1),.lit (.int .i64 (↑v1.length:Int)),.lit (.int .i64 sB),.junk,.junk,.junk,.junk,.junk,.junk,.junk,.junk,.junk,.junk,.junk,.junk,.junk,.junk,.junk,.junk,.junk,.junk,uu,uu,uu,uu,uu,uu],[.box [.lit (.int .i64 sC),.lit (.int .i64 sD),.lit (.int .i64 sF),.lit (.int .i64 sG),.lit (.int .i64 sE),.lit (.int .i64 sA)]]⟩)=ob (am k v0 v1  n sB sC sD sF sG sE sA) fun r=>some ((.tup [.lit (.int .i64 r.1),.lit (.int .i64 r.2.1),.lit (.int .i64 r.2.2)]),[]):=by
 intro n
 induction n with
 | zero=>intros;rfl
 | succ n ih=>
  intro sB sC sD sF sG sE sA j12
  rw [am]
  simp -implicitDefEqProofs only [anR,an0,anI,Wc,V3,Dn,Ct,↓syI,↓syP,syA,syD,simprocAttr,syE,af,ae,aa,syW,xFP,mS,yI,xQ,cA,bP,adY,ih]
def fj (k:Nat) (v0:Tyt) (v1:Tye):Option (Int×Int×Int):=
 am k v0 v1 (k) ((0:Int)) ((0:Int)) ((0:Int)) ((0:Int)) ((0:Int)) ((0:Int)) ((0:Int))
theorem nW (k:Nat) (v0:Tyt) (v1:Tye):xC (k+1) none 37 [.ro (List.map ak v0),.ro (List.map aB v1)]=ob (fj k v0 v1) fun r=>some ((.tup [.lit (.int .i64 r.1),.lit (.int .i64 r.2.1),.lit (.int .i64 r.2.2)]),[]):=by
 rw [aD]
 unfold fj
 simp -implicitDefEqProofs only [anR,an0,anI,Wc,V3,Dn,Ct,↓syI,↓syP,syA,syD,simprocAttr,syE,af,ae,aa,syW,xFP,mS,yI,xQ,cA,bP,rG k v0 v1]
end Go.Ab
set_option maxRecDepth 100000
set_option linter.unusedVariables false
set_option linter.unusedSimpArgs false
namespace Go.Ab
open Go.Proofs
def dJ (k:Nat) (v0:Typ)  : Nat→Int→Int→Option Int
 | 0,_,_=>none
 | n+1,s4,s6=>
 bif decide (s6<(↑v0.2.2.2.2.length:Int)) then
 ob (idx v0.2.2.2.2 s6) fun xT=>
 dJ k v0  n (IntKind.i64.wrap (s4+(↑xT.2.1.length:Int))) (IntKind.i64.wrap (s6+(1:Int)))
 else
 ob (eH k ((v0.1.1,v0.1.2.1,v0.1.2.2.1,v0.1.2.2.2),v0.2.1,v0.2.2.1,v0.2.2.2.1,v0.2.2.2.2)) fun xb=>
 bif !xb then
 some ((0:Int))
 else
 some (s4)
theorem uh (k:Nat) (v0_0_0 v0_0_1 v0_0_2 v0_0_3:Int) (v0_1:Tyt) (v0_2:List Int) (v0_3:List Tyw) (v0_4:List Tys):∀ (n:Nat) (s4 s6:Int) ⦃j5:V⦄,rt none (itX (xX (xS (k+35)) 39 0 (k+35) false) Ln (1) (br (xX (xS (k+35)) 39 0 (k+35) false) (aX (xS (k+35)).P Tryz.f39) JF) n ⟨[.agg [.lit (.int .i64 v0_0_0),.lit (.int .i64 v0_0_1),.lit (.int .i64 v0_0_2),.lit (.int .i64 v0_0_3),.ro (List.map ak v0_1),.ro (List.map (aw IntKind.u64) v0_2),.ro (List.map aC v0_3),.ro (List.map bh v0_4)],.ptr 0 0 0 0,.lit (.int .i64 (0:Int)),.lit (.int .i64 s4),uu,j5,.ptr 0 0 0 7,.ro (List.map bh v0_4),.lit (.int .i64 (↑v0_4.length:Int)),.lit (.int .i64 s6),.junk,.junk,.junk,.junk,.junk,.junk,.junk,.junk,.junk,uu,uu,uu,uu],[.box [.lit (.int .i64 v0_0_0),.lit (.int .i64 v0_0_1),.lit (.int .i64 v0_0_2),.lit (.int .i64 v0_0_3),.ro (List.map ak v0_1),.ro (List.map (aw IntKind.u64) v0_2),.ro (List.map aC v0_3),.ro (List.map bh v0_4)]]⟩)=ob (dJ k ((v0_0_0,v0_0_1,v0_0_2,v0_0_3),v0_1,v0_2,v0_3,v0_4)  n s4 s6) fun r=>some ((.lit (.int .i64 r)),[]):=by
 intro n
 induction n with
 | zero=>intros;rfl
 | succ n ih=>
  intro s4 s6 j5
  rw [dJ]
  simp -implicitDefEqProofs only [anj,anr,ano,VQ,Dq,↓syI,↓syP,syA,syD,simprocAttr,syE,af,ae,aa,syW,xFP,mS,yI,xQ,dP,afK,ih]
def gO (k:Nat) (v0:Typ):Option Int:=
 dJ k v0 (k+35) ((0:Int)) ((0:Int))
theorem pg (k:Nat) (v0_0_0 v0_0_1 v0_0_2 v0_0_3:Int) (v0_1:Tyt) (v0_2:List Int) (v0_3:List Tyw) (v0_4:List Tys):xC (k+36) none 39 [.agg [.lit (.int .i64 v0_0_0),.lit (.int .i64 v0_0_1),.lit (.int .i64 v0_0_2),.lit (.int .i64 v0_0_3),.ro (List.map ak v0_1),.ro (List.map (aw .u64) v0_2),.ro (List.map aC v0_3),.ro (List.map bh v0_4)]]=ob (gO k ((v0_0_0,v0_0_1,v0_0_2,v0_0_3),v0_1,v0_2,v0_3,v0_4)) fun r=>some ((.lit (.int .i64 r)),[]):=by
 rw [aD]
 unfold gO
 simp -implicitDefEqProofs only [anj,anr,ano,VQ,Dq,↓syI,↓syP,syA,syD,simprocAttr,syE,af,ae,aa,syW,xFP,mS,yI,xQ,uh k v0_0_0 v0_0_1 v0_0_2 v0_0_3 v0_1 v0_2 v0_3 v0_4]
end Go.Ab
set_option maxRecDepth 100000
set_option linter.unusedVariables false
set_option linter.unusedSimpArgs false
namespace Go.Ab
open Go.Proofs
end Go.Ab
set_option maxRecDepth 100000
set_option maxHeartbeats 4000000
set_option linter.unusedVariables false
set_option linter.unusedSimpArgs false
namespace Go.Ab
open Go.Proofs
abbrev axA:Typ:=
 ((1,1,1,0),[(1,[])],[0,0,0,0,0,0,0,0,0,0,0,0],[(0,[],(1,0,0,0,0,0,0),0,0)],[(0,[0],0,0,0,0,0,0,0)])
abbrev axE:Typ:=
 ((1,1,1,0),[(1,[])],[0,0,65537,0,1,1,2,0,0,0,0,0],[(8,[],(5,3,0,0,65536,65536,0),0,0)],[(0,[],0,0,0,0,0,0,0)])
abbrev axL:Tye:=[(0,0,0),(2,0,0),(4,0,0),(5,0,0)]
section
variable (j:Nat)
theorem aoh:xC (j+91) none 34 [.agg [.lit (.int .i64 1),.lit (.int .i64 1),.lit (.int .i64 1),.lit (.int .i64 0)],.ro (List.map ak [(1,[])]),.ro (List.map cR [[0]]),.nil] =
  some (.tup [.agg [.lit (.int .i64 1),.lit (.int .i64 1),.lit (.int .i64 1),.lit (.int .i64 0),.ro (List.map ak [(1,[])]),.ro (List.map (aw .u64) [0,0,0,0,0,0,0,0,0,0,0,0]),.ro (List.map aC [(0,[],(1,0,0,0,0,0,0),0,0)]),.ro (List.map bh [(0,[0],0,0,0,0,0,0,0)])],.ro [],.lit (.bool true)],[]):=by kernel_rfl
theorem axD:lJ (j+1) axA 500=some (axE,axL,38):=by kernel_rfl
theorem an7:xC (j+91) none 36 [.agg [.lit (.int .i64 1),.lit (.int .i64 1),.lit (.int .i64 1),.lit (.int .i64 0),.ro (List.map ak [(1,[])]),.ro (List.map (aw .u64) [0,0,0,0,0,0,0,0,0,0,0,0]),.ro (List.map aC [(0,[],(1,0,0,0,0,0,0),0,0)]),.ro (List.map bh [(0,[0],0,0,0,0,0,0,0)])],.lit (.int .i64 500)]=some (.tup [.agg [.lit (.int .i64 1),.lit (.int .i64 1),.lit (.int .i64 1),.lit (.int .i64 0),.ro (List.map ak [(1,[])]),.ro (List.map (aw .u64) [0,0,65537,0,1,1,2,0,0,0,0,0]),.ro (List.map aC [(8,[],(5,3,0,0,65536,65536,0),0,0)]),.ro (List.map bh [(0,[],0,0,0,0,0,0,0)])],.ro (List.map aB [(0,0,0),(2,0,0),(4,0,0),(5,0,0)]),.lit (.int .i64 38)],[]):=by
 refine (GO (j+1) _ _ _ _ _ _ _ _ _).trans ?_
 show ob (lJ (j+1) axA 500) _=_
 rw [axD,ab]
theorem apj:xC (j+91) none 37 [.ro (List.map ak [(1,[])]),.ro (List.map aB [(0,0,0),(2,0,0),(4,0,0),(5,0,0)])]=some (.tup [.lit (.int .i64 1),.lit (.int .i64 0),.lit (.int .i64 1)],[]):=(nW (j+90) [(1,[])] axL).trans (by kernel_rfl)
theorem ao6:xC (j+91) none 39 [.agg [.lit (.int .i64 1),.lit (.int .i64 1),.lit (.int .i64 1),.lit (.int .i64 0),.ro (List.map ak [(1,[])]),.ro (List.map (aw .u64) [0,0,0,0,0,0,0,0,0,0,0,0]),.ro (List.map aC [(0,[],(1,0,0,0,0,0,0),0,0)]),.ro (List.map bh [(0,[0],0,0,0,0,0,0,0)])]]=some (.lit (.int .i64 1),[]):=(pg (j+55) _ _ _ _ _ _ _ _).trans (by kernel_rfl)
theorem aoy:xC (j+91) none 29 [.agg [.lit (.int .i64 1),.lit (.int .i64 1),.lit (.int .i64 1),.lit (.int .i64 0),.ro (List.map ak [(1,[])]),.ro (List.map (aw .u64) [0,0,65537,0,1,1,2,0,0,0,0,0]),.ro (List.map aC [(8,[],(5,3,0,0,65536,65536,0),0,0)]),.ro (List.map bh [(0,[],0,0,0,0,0,0,0)])]]=some (.lit (.bool true),[]):=(pV (j+54) _ _ _ _ _ _ _ _).trans (by kernel_rfl)
theorem apr:xC (j+91) none 35 [.agg [.lit (.int .i64 1),.lit (.int .i64 1),.lit (.int .i64 1),.lit (.int .i64 0),.ro (List.map ak [(1,[])]),.ro (List.map (aw .u64) [0,0,0,0,0,0,0,0,0,0,0,0]),.ro (List.map aC [(0,[],(1,0,0,0,0,0,0),0,0)]),.ro (List.map bh [(0,[0],0,0,0,0,0,0,0)])],.nil]=some (.lit (.bool true),[]):=by kernel_rfl
end
theorem FE (j:Nat):xC (j+92) none 33 []=some (.lit (.bool true),[]):=by
 rw [aD]
 simp -implicitDefEqProofs only [apb,aod,afx,acN,adM,adv,ac5,adc,afX,aeZ,acC,ae4,ZQ,M0,↓syI,↓syP,syA,syD,simprocAttr,syE,af,ae,aa,syW,xQ,xFP,List.length_cons,List.length_nil,aoh,an7,apj,ao6,aoy,apr,decide_true,decide_false,cond_true,cond_false]
 rfl
end Go.Ab
