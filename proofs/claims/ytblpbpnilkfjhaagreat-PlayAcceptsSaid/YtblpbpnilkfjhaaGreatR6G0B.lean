import Derived.Test.YtblpbpnilkfjhaaGreatR6G0A
import Derived.Test.YtblpbpnilkfjhaaGreatR6B0A
import Derived.Test.YtblpbpnilkfjhaaGreatAbLibC
import Derived.Test.YtblpbpnilkfjhaaGreatR6FacP
import Derived.Test.YtblpbpnilkfjhaaGreatR6Man
import Derived.Test.YtblpbpnilkfjhaaGreatR6FacM
set_option linter.unusedVariables false
set_option linter.unusedSimpArgs false
set_option maxRecDepth 100000
set_option linter.unusedVariables false
set_option linter.unusedSimpArgs false
namespace Go.Ab
open Go.Proofs
def au (k:Nat) (v0:(List Tys))  : Nat→Int→Option Int
 | 0,_=>none
 | n+1,s6=>
 bif decide (s6<(↑v0.length:Int)) then
 ob (idx v0 s6) fun xU=>
 ob (iK (xU.1,xU.2.1,xU.2.2.1,xU.2.2.2.1,xU.2.2.2.2.1,xU.2.2.2.2.2.1,xU.2.2.2.2.2.2.1,xU.2.2.2.2.2.2.2.1,xU.2.2.2.2.2.2.2.2)) fun xg=>
 bif xg then
 some (s6)
 else
 au k v0  n (IntKind.i64.wrap (s6+(1:Int)))
 else
 some ((-1:Int))
theorem eI (k:Nat) (v0:List Tys):∀ (n:Nat) (s6:Int) ⦃j5:V⦄,rt none (itX (xX (xS (k+8)) 96 0 (k+8) false) Ea (0) (bF (xX (xS (k+8)) 96 0 (k+8) false) (a7 (xS (k+8)).P Tryz.f96) D6) n ⟨[.ro (List.map bn v0),.fn (Fn.func (28:FuncId)) [] [],uu,uu,.lit (.int .i64 (0:Int)),j5,.ro (List.map bn v0),.lit (.int .i64 (↑v0.length:Int)),.lit (.int .i64 s6),.junk,.junk,.junk,.junk,.junk,.junk,.junk,.junk,.junk,.junk],[]⟩)=ob (au k v0  n s6) fun r=>some ((.lit (.int .i64 r)),[]):=by
 intro n
 induction n with
 | zero=>intros;rfl
 | succ n ih=>
  intro s6 j5
  rw [au]
  simp -implicitDefEqProofs only [NK,NL,Nc,na,dm,↓syI,↓syP,syA,syD,simprocAttr,syE,af,ae,aa,syW,xQ,Fa,Ri,ih]
def bc (k:Nat) (v0:(List Tys)):Option Int:=
 au k v0 (k+8) 0
theorem gb (k:Nat) (v0:List Tys):xC (k+9) none 96 [.ro (List.map bn v0),.fn (Fn.func (28:FuncId)) [] []]=ob (bc k v0) fun r=>some ((.lit (.int .i64 r)),[]):=by
 rw [aD]
 unfold bc
 simp -implicitDefEqProofs only [NK,NL,Nc,na,dm,↓syI,↓syP,syA,syD,simprocAttr,syE,af,ae,aa,syW,xQ,eI k v0]
def aQ (k:Nat) (v0:(List Tys)):Option Bool:=
 ob (bc (k+8) v0) fun x14=>
 some (decide (0≤x14))
theorem cL (k:Nat) (v0:List Tys):xC (k+18) none 52 [.ro (List.map bn v0),.fn (Fn.func (28:FuncId)) [] []]=ob (aQ k v0) fun r=>some ((.lit (.bool r)),[]):=by
 rw [aD]
 unfold aQ
 simp -implicitDefEqProofs only [S2,Sq,NK,NL,Nc,na,dm,↓syI,↓syP,syA,syD,simprocAttr,syE,af,ae,aa,syW,xQ,gb]
def cS (k : Nat) (v0 : ((Int × Int × Int × Int) × List (Int × List Int) × List Int × List (Int × List (Int × Int × Int) × (Int × Int × Int × Int × Int × Int × Int) × Int × Int) × List (Int × List Int × Int × Int × Int × Int × Int × Int × Int)))  : Nat → Int → Option Bool
 | 0,_ => none
 | n + 1,sb =>
 bif decide (sb < (↑v0.2.2.2.1.length : Int)) then
 ob (idx v0.2.2.2.1 sb) fun xV =>
 ob (ib (xV.1,xV.2.1,(xV.2.2.1.1,xV.2.2.1.2.1,xV.2.2.1.2.2.1,xV.2.2.1.2.2.2.1,xV.2.2.1.2.2.2.2.1,xV.2.2.1.2.2.2.2.2.1,xV.2.2.1.2.2.2.2.2.2),xV.2.2.2.1,xV.2.2.2.2)) fun xh =>
 bif !xh then
 some (false)
 else
 ob (fX (v0.1.1,v0.1.2.1,v0.1.2.2.1,v0.1.2.2.2) sb) fun xi =>
 ob (aJ v0.2.2.1 xi) fun x44 =>
 bif x44 != (0 : Int) then
 some (false)
 else
 cS k v0  n (IntKind.i64.wrap (sb + (1 : Int)))
 else
 some (true)
theorem r7 (k:Nat) (v0_0_0 v0_0_1 v0_0_2 v0_0_3:Int) (v0_1:Tyt) (v0_2:List Int) (v0_3:List Tyw) (v0_4:List Tys):∀ (n:Nat) (sb:Int) ⦃sA sv sr:Bool⦄ ⦃j28 j29:V⦄,rt none (itX (xX (xS (k+35)) 25 0 (k+35) false) GI (1) (bF (xX (xS (k+35)) 25 0 (k+35) false) (a7 (xS (k+35)).P Tryz.f25) Kz) n ⟨[.agg [.lit (.int .i64 v0_0_0),.lit (.int .i64 v0_0_1),.lit (.int .i64 v0_0_2),.lit (.int .i64 v0_0_3),.ro (List.map ak v0_1),.ro (List.map (av IntKind.u64) v0_2),.ro (List.map aF v0_3),.ro (List.map bn v0_4)],.ptr 0 0 0 0,.lit (.bool false),j28,j29,.agg [.lit (.int .i64 v0_0_0),.lit (.int .i64 v0_0_1),.lit (.int .i64 v0_0_2),.lit (.int .i64 v0_0_3),.ro (List.map ak v0_1),.ro (List.map (av IntKind.u64) v0_2),.ro (List.map aF v0_3),.ro (List.map bn v0_4)],.lit (.bool sA),.lit (.bool sv),.lit (.bool false),.ptr 0 0 0 7,.ro (List.map bn v0_4),.lit (.bool sr),.lit (.bool sr),.ptr 0 0 0 6,.ro (List.map aF v0_3),.lit (.int .i64 (↑v0_3.length:Int)),.lit (.int .i64 sb),.junk,.junk,.junk,.junk,.junk,.junk,.junk,.junk,.junk,.junk,.junk,.junk,.junk,.junk,.junk,.junk,.junk,.junk],[.box [.lit (.int .i64 v0_0_0),.lit (.int .i64 v0_0_1),.lit (.int .i64 v0_0_2),.lit (.int .i64 v0_0_3),.ro (List.map ak v0_1),.ro (List.map (av IntKind.u64) v0_2),.ro (List.map aF v0_3),.ro (List.map bn v0_4)]]⟩)=ob (cS k ((v0_0_0,v0_0_1,v0_0_2,v0_0_3),v0_1,v0_2,v0_3,v0_4)  n sb) fun r=>some ((.lit (.bool r)),[]):=by
 intro n
 induction n with
 | zero=>intros;rfl
 | succ n ih=>
  intro sb sA sv sr j28 j29
  rw [cS]
  simp -implicitDefEqProofs only [apJ,aph,apj,XH,W3,Xs,Eo,DG,D8,S2,Sq,NK,NL,Nc,na,dm,↓syI,↓syP,syA,syD,simprocAttr,syE,af,ae,aa,syW,xQ,dE,wK,FL,eu,cL,ag1,ih]
def gY (k:Nat) (v0:Typ):Option Bool:=
 ob (fh k v0) fun xc=>
 bif !xc then
 some false
 else
 ob (aQ (k+17) v0.2.2.2.2) fun xj=>
 bif xj then
 some false
 else
 cS k v0 (k+35) 0
theorem FD (k:Nat) (v0_0_0 v0_0_1 v0_0_2 v0_0_3:Int) (v0_1:Tyt) (v0_2:List Int) (v0_3:List Tyw) (v0_4:List Tys):xC (k+36) none 25 [.agg [.lit (.int .i64 v0_0_0),.lit (.int .i64 v0_0_1),.lit (.int .i64 v0_0_2),.lit (.int .i64 v0_0_3),.ro (List.map ak v0_1),.ro (List.map (av .u64) v0_2),.ro (List.map aF v0_3),.ro (List.map bn v0_4)]]=ob (gY k ((v0_0_0,v0_0_1,v0_0_2,v0_0_3),v0_1,v0_2,v0_3,v0_4)) fun r=>some ((.lit (.bool r)),[]):=by
 rw [aD]
 unfold gY
 simp -implicitDefEqProofs only [apJ,aph,apj,XH,W3,Xs,Eo,DG,D8,S2,Sq,NK,NL,Nc,na,dm,↓syI,↓syP,syA,syD,simprocAttr,syE,af,ae,aa,syW,xQ,eu,cL,r7 k v0_0_0 v0_0_1 v0_0_2 v0_0_3 v0_1 v0_2 v0_3 v0_4]
def ic (v0:Tys):Option Bool:=
 some (decide (0<(↑v0.2.1.length:Int)))
theorem CR (k:Nat) (v0_0:Int) (v0_1:List Int) (v0_2_0 v0_2_1 v0_2_2 v0_2_3 v0_2_4 v0_2_5 v0_2_6:Int):xC (k+1) none 67 [.agg [.lit (.int .i64 v0_0),.ro (List.map (av .i64) v0_1),.lit (.int .i64 v0_2_0),.lit (.int .i64 v0_2_1),.lit (.int .i64 v0_2_2),.lit (.int .u64 v0_2_3),.lit (.int .u64 v0_2_4),.lit (.int .u64 v0_2_5),.lit (.int .i64 v0_2_6)]]=ob (ic (v0_0,v0_1,(v0_2_0,v0_2_1,v0_2_2,v0_2_3,v0_2_4,v0_2_5,v0_2_6))) fun r=>some ((.lit (.bool r)),[]):=by
 rw [aD]
 unfold ic
 simp -implicitDefEqProofs only [aoT,apE,↓syI,↓syP,syA,syD,simprocAttr,syE,af,ae,aa,syW,xQ]
def ar (k:Nat) (v0:(List Tys))  : Nat→Int→Option Int
 | 0,_=>none
 | n+1,sO=>
 bif decide (sO<(↑v0.length:Int)) then
 ob (idx v0 sO) fun xZ=>
 ob (ic (xZ.1,xZ.2.1,xZ.2.2.1,xZ.2.2.2.1,xZ.2.2.2.2.1,xZ.2.2.2.2.2.1,xZ.2.2.2.2.2.2.1,xZ.2.2.2.2.2.2.2.1,xZ.2.2.2.2.2.2.2.2)) fun x62=>
 bif x62 then
 some (sO)
 else
 ar k v0  n (IntKind.i64.wrap (sO+(1:Int)))
 else
 some ((-1:Int))
theorem ew (k:Nat) (v0:List Tys):∀ (n:Nat) (sO:Int) ⦃j55:V⦄,rt none (itX (xX (xS (k+8)) 96 0 (k+8) false) Ea (0) (bF (xX (xS (k+8)) 96 0 (k+8) false) (a7 (xS (k+8)).P Tryz.f96) D6) n ⟨[.ro (List.map bn v0),.fn (Fn.func (67:FuncId)) [] [],uu,uu,.lit (.int .i64 (0:Int)),j55,.ro (List.map bn v0),.lit (.int .i64 (↑v0.length:Int)),.lit (.int .i64 sO),.junk,.junk,.junk,.junk,.junk,.junk,.junk,.junk,.junk,.junk],[]⟩)=ob (ar k v0  n sO) fun r=>some ((.lit (.int .i64 r)),[]):=by
 intro n
 induction n with
 | zero=>intros;rfl
 | succ n ih=>
  intro sO j55
  rw [ar]
  simp -implicitDefEqProofs only [NK,NL,Nc,na,dm,↓syI,↓syP,syA,syD,simprocAttr,syE,af,ae,aa,syW,xQ,CR,Ri,ih]
def aZ (k:Nat) (v0:(List Tys)):Option Int:=
 ar k v0 (k+8) 0
theorem fQ (k:Nat) (v0:List Tys):xC (k+9) none 96 [.ro (List.map bn v0),.fn (Fn.func (67:FuncId)) [] []]=ob (aZ k v0) fun r=>some ((.lit (.int .i64 r)),[]):=by
 rw [aD]
 unfold aZ
 simp -implicitDefEqProofs only [NK,NL,Nc,na,dm,↓syI,↓syP,syA,syD,simprocAttr,syE,af,ae,aa,syW,xQ,ew k v0]
def aP (k:Nat) (v0:(List Tys)):Option Bool:=
 ob (aZ (k+8) v0) fun x64=>
 some (decide (0≤x64))
theorem fc (k:Nat) (v0:List Tys):xC (k+18) none 52 [.ro (List.map bn v0),.fn (Fn.func (67:FuncId)) [] []]=ob (aP k v0) fun r=>some ((.lit (.bool r)),[]):=by
 rw [aD]
 unfold aP
 simp -implicitDefEqProofs only [S2,Sq,NK,NL,Nc,na,dm,↓syI,↓syP,syA,syD,simprocAttr,syE,af,ae,aa,syW,xQ,fQ]
def iR (k:Nat) (v0:Typ):Option Bool:=
 ob (gY k v0) fun x69=>
 bif x69 then
 ob (aJ v0.2.2.1 0) fun x70=>
 bif x70==0 then
 ob (aP (k+18) v0.2.2.2.2) fun x71=>
 some (!x71)
 else
 some false
 else
 some false
theorem ue (k:Nat) (v0_0_0 v0_0_1 v0_0_2 v0_0_3:Int) (v0_1:Tyt) (v0_2:List Int) (v0_3:List Tyw) (v0_4:List Tys):xC (k+37) none 29 [.agg [.lit (.int .i64 v0_0_0),.lit (.int .i64 v0_0_1),.lit (.int .i64 v0_0_2),.lit (.int .i64 v0_0_3),.ro (List.map ak v0_1),.ro (List.map (av .u64) v0_2),.ro (List.map aF v0_3),.ro (List.map bn v0_4)]]=ob (iR k ((v0_0_0,v0_0_1,v0_0_2,v0_0_3),v0_1,v0_2,v0_3,v0_4)) fun r=>some ((.lit (.bool r)),[]):=by
 rw [aD]
 unfold iR
 simp -implicitDefEqProofs only [aqB,aqm,afW,ae9,OF,S2,Sq,aoT,apE,NK,NL,Nc,na,dm,↓syI,↓syP,syA,syD,simprocAttr,syE,af,ae,aa,syW,xQ,dE,FD,fc]
end Go.Ab
set_option maxRecDepth 100000
set_option linter.unusedVariables false
set_option linter.unusedSimpArgs false
namespace Go.Ab
open Go.Proofs
def cu (k:Nat) (v0:(List Int))  : Nat→Int→Nat→Tye→Option Tye
 | 0,_,_,_=>none
 | n+1,s5,s7,s8=>
 bif decide (s5<(↑v0.length:Int)) then
 bif decide ((0:Int)≤s5∧s5≤(↑v0.length:Int)) then
 bif decide ((0:Int)≤s5∧s5≤IntKind.i64.wrap (s5+bif decide ((↑(List.drop s5.toNat v0).length:Int)<(3:Int)) then (↑(List.drop s5.toNat v0).length:Int) else (3:Int))∧IntKind.i64.wrap (s5+bif decide ((↑(List.drop s5.toNat v0).length:Int)<(3:Int)) then (↑(List.drop s5.toNat v0).length:Int) else (3:Int))≤IntKind.i64.wrap (s5+bif decide ((↑(List.drop s5.toNat v0).length:Int)<(3:Int)) then (↑(List.drop s5.toNat v0).length:Int) else (3:Int))∧IntKind.i64.wrap (s5+bif decide ((↑(List.drop s5.toNat v0).length:Int)<(3:Int)) then (↑(List.drop s5.toNat v0).length:Int) else (3:Int))≤(↑v0.length:Int)) then
 bif (↑(List.drop s5.toNat (List.take (IntKind.i64.wrap (s5+bif decide ((↑(List.drop s5.toNat v0).length:Int)<(3:Int)) then (↑(List.drop s5.toNat v0).length:Int) else (3:Int))).toNat v0)).length:Int)==(3:Int) then
 ob (idx (List.drop s5.toNat (List.take (IntKind.i64.wrap (s5+bif decide ((↑(List.drop s5.toNat v0).length:Int)<(3:Int)) then (↑(List.drop s5.toNat v0).length:Int) else (3:Int))).toNat v0)) (0:Int)) fun xm=>
 ob (idx (List.drop s5.toNat (List.take (IntKind.i64.wrap (s5+bif decide ((↑(List.drop s5.toNat v0).length:Int)<(3:Int)) then (↑(List.drop s5.toNat v0).length:Int) else (3:Int))).toNat v0)) (1:Int)) fun xn=>
 ob (idx (List.drop s5.toNat (List.take (IntKind.i64.wrap (s5+bif decide ((↑(List.drop s5.toNat v0).length:Int)<(3:Int)) then (↑(List.drop s5.toNat v0).length:Int) else (3:Int))).toNat v0)) (2:Int)) fun xo=>
 ck (s7==3||s7==0) (
 bif room (s8++[(IntKind.i64.wrap (xm.tmod (4:Int)),IntKind.i64.wrap xn,IntKind.u64.wrap xo)]).length 24 then
 cu k v0  n (IntKind.i64.wrap (s5+(3:Int))) (3) (s8++[(IntKind.i64.wrap (xm.tmod (4:Int)),IntKind.i64.wrap xn,IntKind.u64.wrap xo)])
 else
 none)
 else
 cu k v0  n (IntKind.i64.wrap (s5+(3:Int))) (s7) (s8)
 else
 none
 else
 none
 else
 some (s8)
theorem mh (k:Nat) (v0:List Int):∀ (n:Nat) (s5:Int) (s7:Nat) (s8:Tye) ⦃s9:Nat⦄ ⦃j6:V⦄,rt none (bq (itX (xX (xS (k+22)) 152 0 (k+22) false) Fo (6) (bF (xX (xS (k+22)) 152 0 (k+22) false) (a7 (xS (k+22)).P Tryz.f152) F7) n ⟨[.yld 5,.ptr 3 0 0 0,.ptr 4 0 0 0,uu,.lit (.int .i64 s5),j6,.junk,.junk,.junk,.junk,.junk,.junk,.junk,.junk,.junk,.junk,.junk,.junk,.junk,.junk,.junk,.junk,.junk,.junk,.junk,.junk,.junk,.junk,.junk,.junk,.junk],[.rows 0 [] 0 true,.rows s7 (List.map gT s8) s9 true,.box [.own 1 s9 s8.length],.box [.ro (List.map (av IntKind.u8) v0)],.box [.lit (.int .i64 (3:Int))],(.loop ⟨LoopState.ready,none,73,[.ro (List.map (av IntKind.u8) v0),uu,.own 0 0 0,.ptr 2 0 0 0,uu,.ro (List.map (av IntKind.u8) v0),.fn (Fn.func (152:FuncId)) [] [.ptr 3 0 0 0,.ptr 4 0 0 0],uu,uu,uu,uu,uu,uu,uu,uu,uu,uu,uu,uu,uu,uu,uu,uu,uu,uu,uu,uu,uu,uu],[(7:Tmp)],QL,QB⟩)]⟩) (rfK (bF (xX (xS (k+23)) 73 0 (k+23) false) (a7 (xS (k+23)).P Tryz.f73) Lw) [.ro (List.map (av IntKind.u8) v0),uu,.own 0 0 0,.ptr 2 0 0 0,uu,.ro (List.map (av IntKind.u8) v0),.fn (Fn.func (152:FuncId)) [] [.ptr 3 0 0 0,.ptr 4 0 0 0],uu,uu,uu,uu,uu,uu,uu,uu,uu,uu,uu,uu,uu,uu,uu,uu,uu,uu,uu,uu,uu,uu] (5)))=ob (cu k v0  n s5 s7 s8) fun r=>some ((.ro (List.map gT r)),[]):=by
 intro n
 induction n with
 | zero=>intros;rfl
 | succ n ih=>
  intro s5 s7 s8 s9 j6
  rw [cu]
  simp -implicitDefEqProofs only [apl,apx,aoQ,XD,oJ,oG,Ee,HY,afX,ahJ,Qk,CL,aD (g:=111),ae4,adP,adR,Rk,BJ,↓syI,↓syP,syA,syD,simprocAttr,syE,af,ae,aa,syW,xFP,r6,xQ,aal,ih]
def iI (k:Nat) (v0:(List Int)):Option Tye:=
 cu k v0 (k+22) ((0:Int)) (0) ([])
theorem FY (k:Nat) (v0:List Int):xC (k+24) none 73 [.ro (List.map (av .u8) v0)]=ob (iI k v0) fun r=>some ((.ro (List.map gT r)),[]):=by
 rw [aD]
 unfold iI
 have hl0:=mh k v0 (k+22) ((0:Int)) (0) ([])
 try simp -implicitDefEqProofs only [List.map_nil,List.length_nil] at hl0
 simp -implicitDefEqProofs only [apl,apx,aoQ,XD,oJ,oG,Ee,HY,afX,ahJ,Qk,CL,aD (g:=111),ae4,adP,adR,Rk,BJ,↓syI,↓syP,syA,syD,simprocAttr,syE,af,ae,aa,syW,xFP,r6,xQ,mh k v0,hl0]
end Go.Ab
set_option maxRecDepth 100000
set_option linter.unusedVariables false
set_option linter.unusedSimpArgs false
namespace Go.Ab
open Go.Proofs
def bR (k:Nat) (v0:Typ) (v1:Tye)  : Nat→Int→Int→Int→Int→Tyt→List Tyw→List Tys→List Tyw→List Tys→Tye→Int→List Int→Nat→Option (Typ×Tye×Nat)
 | 0,_,_,_,_,_,_,_,_,_,_,_,_,_=>none
 | n+1,sL,sM,sI,sN,sR,sS,sH,sW,sT,sJ,sP,sQ,sK=>
 bif decide (sP<(↑v1.length:Int)) then
 ob (idx v1 sP) fun xH=>
 ob (kA (xH.1,xH.2.1,xH.2.2) v0.1.1 (↑v0.2.2.2.2.length:Int)) fun xp=>
 bif xp then
 bif xH.1==(0:Int) then
 bif decide ((0:Int)≤xH.2.1∧xH.2.1.toNat<sS.length) then
 ob (sW[xH.2.1.toNat]?) fun xO=>
 ob (iY k (sL,sM,sI,sN) sR sQ xH.2.1 (xO.1,xO.2.1,(xO.2.2.1.1,xO.2.2.1.2.1,xO.2.2.1.2.2.1,xO.2.2.1.2.2.2.1,xO.2.2.1.2.2.2.2.1,xO.2.2.1.2.2.2.2.2.1,xO.2.2.1.2.2.2.2.2.2),xO.2.2.2.1,xO.2.2.2.2) xH.2.2) fun xK=>
 bif decide ((0:Int)≤xH.2.1∧xH.2.1.toNat<sS.length) then
 ob (sW[xH.2.1.toNat]?) fun x153=>
 ck (sK==3||sK==0) (
 bif room (sJ++xK.2.2).length 24 then
 bR k v0 v1  n (sL) (sM) (sI) (sN) (sR) (sS) (sH) (sW.set xH.2.1.toNat (xK.2.1.1,xK.2.1.2.1,(xK.2.1.2.2.1.1,xK.2.1.2.2.1.2.1,xK.2.1.2.2.1.2.2.1,xK.2.1.2.2.1.2.2.2.1,xK.2.1.2.2.1.2.2.2.2.1,xK.2.1.2.2.1.2.2.2.2.2.1,xK.2.1.2.2.1.2.2.2.2.2.2),xK.2.1.2.2.2.1,xK.2.1.2.2.2.2)) (sT) (sJ++xK.2.2) (IntKind.i64.wrap (sP+(1:Int))) (xK.1) (3)
 else
 none)
 else
 none
 else
 none
 else
 bif xH.1==(1:Int) then
 bif decide ((0:Int)≤xH.2.1∧xH.2.1.toNat<sH.length) then
 ob (sT[xH.2.1.toNat]?) fun xP=>
 ob (fC (k+36) (sL,sM,sI,sN) sR sQ (xP.1,xP.2.1,xP.2.2.1,xP.2.2.2.1,xP.2.2.2.2.1,xP.2.2.2.2.2.1,xP.2.2.2.2.2.2.1,xP.2.2.2.2.2.2.2.1,xP.2.2.2.2.2.2.2.2)) fun xq=>
 bif xq then
 bif decide ((0:Int)≤xH.2.1∧xH.2.1.toNat<sH.length) then
 ob (sT[xH.2.1.toNat]?) fun xT=>
 ob (fS (k+20) (sL,sM,sI,sN) sR sQ xH.2.1 (xT.1,xT.2.1,xT.2.2.1,xT.2.2.2.1,xT.2.2.2.2.1,xT.2.2.2.2.2.1,xT.2.2.2.2.2.2.1,xT.2.2.2.2.2.2.2.1,xT.2.2.2.2.2.2.2.2)) fun xL=>
 bif decide ((0:Int)≤xH.2.1∧xH.2.1.toNat<sH.length) then
 ob (sT[xH.2.1.toNat]?) fun x158=>
 ck (sK==3||sK==0) (
 bif room (sJ++xL.2.2).length 24 then
 bR k v0 v1  n (sL) (sM) (sI) (sN) (sR) (sS) (sH) (sW) (sT.set xH.2.1.toNat (xL.2.1.1,xL.2.1.2.1,xL.2.1.2.2.1,xL.2.1.2.2.2.1,xL.2.1.2.2.2.2.1,xL.2.1.2.2.2.2.2.1,xL.2.1.2.2.2.2.2.2.1,xL.2.1.2.2.2.2.2.2.2.1,xL.2.1.2.2.2.2.2.2.2.2)) (sJ++xL.2.2) (IntKind.i64.wrap (sP+(1:Int))) (xL.1) (3)
 else
 none)
 else
 none
 else
 none
 else
 ck (sK==3||sK==0) (
 bif room sJ.length 24 then
 bR k v0 v1  n (sL) (sM) (sI) (sN) (sR) (sS) (sH) (sW) (sT) (sJ) (IntKind.i64.wrap (sP+(1:Int))) (sQ) (3)
 else
 none)
 else
 none
 else
 bif xH.1==(2:Int) then
 ob (bB sQ (3:Int) (1:Int)) fun xr=>
 ck (sK==3||sK==0) (
 bif room sJ.length 24 then
 bR k v0 v1  n (sL) (sM) (sI) (sN) (sR) (sS) (sH) (sW) (sT) (sJ) (IntKind.i64.wrap (sP+(1:Int))) (xr) (3)
 else
 none)
 else
 ck (sK==3||sK==0) (
 bif room sJ.length 24 then
 bR k v0 v1  n (sL) (sM) (sI) (sN) (sR) (sS) (sH) (sW) (sT) (sJ) (IntKind.i64.wrap (sP+(1:Int))) (sQ) (3)
 else
 none)
 else
 bR k v0 v1  n (sL) (sM) (sI) (sN) (sR) (sS) (sH) (sW) (sT) (sJ) (IntKind.i64.wrap (sP+(1:Int))) (sQ) (sK)
 else
 ck (decide (sS.length≤sW.length)) (
 ck (decide (sH.length≤sT.length)) (
 some ((((sL),(sM),(sI),(sN)),(sR),(sQ),(List.take sS.length sW),(List.take sH.length sT)),(sJ),sK)))
theorem nb (k:Nat) (v0_0_0 v0_0_1 v0_0_2 v0_0_3:Int) (v0_1:Tyt) (v0_2:List Int) (v0_3:List Tyw) (v0_4:List Tys) (v1:Tye):∀ (n:Nat) (sL sM sI sN:Int) (sR:Tyt) (sS:List Tyw) (sH:List Tys) (sW:List Tyw) (sT:List Tys) (sJ:Tye) (sP:Int) (sQ:List Int) (sK:Nat) ⦃s91:List Int⦄ ⦃s94 s95:Bool⦄ ⦃sx:Nat⦄ ⦃j117:V⦄,rt (some fun i=>i==1) (itX (xX (xS (k+62)) 17 0 (k+62) false) Cq (15) (bF (xX (xS (k+62)) 17 0 (k+62) false) (a7 (xS (k+62)).P Tryz.f17) DW) n ⟨[.agg [.lit (.int .i64 v0_0_0),.lit (.int .i64 v0_0_1),.lit (.int .i64 v0_0_2),.lit (.int .i64 v0_0_3),.ro (List.map ak v0_1),.ro (List.map (av IntKind.u64) v0_2),.ro (List.map aF v0_3),.ro (List.map bn v0_4)],.ro (List.map gT v1),.ptr 0 0 0 0,uu,.ptr 5 0 0 0,.own 6 0 0,.ptr 13 0 0 0,.own 14 sx sJ.length,uu,j117,.agg [.lit (.int .i64 v0_0_0),.lit (.int .i64 v0_0_1),.lit (.int .i64 v0_0_2),.lit (.int .i64 v0_0_3),.ro (List.map ak v0_1),.ro (List.map (av IntKind.u64) v0_2),.ro (List.map aF v0_3),.ro (List.map bn v0_4)],.agg [.lit (.int .i64 sL),.lit (.int .i64 sM),.lit (.int .i64 sI),.lit (.int .i64 sN),.ro (List.map ak sR),.ro (List.map (av IntKind.u64) s91),.own 7 0 sS.length,.own 8 0 sH.length],.agg [.lit (.int .i64 v0_0_0),.lit (.int .i64 v0_0_1),.lit (.int .i64 v0_0_2),.lit (.int .i64 v0_0_3),.ro (List.map ak v0_1),.ro (List.map (av IntKind.u64) v0_2),.ro (List.map aF v0_3),.ro (List.map bn v0_4)],.lit (.bool s94),.lit (.bool s95),uu,.ro (List.map gT v1),.lit (.int .i64 (↑v1.length:Int)),.lit (.int .i64 sP),.junk,.junk,.junk,.junk,.junk,.junk,.junk,.junk,.junk,.junk,.junk,.junk,.junk,.junk,.junk,.junk,uu,uu],[.box [.lit (.int .i64 v0_0_0),.lit (.int .i64 v0_0_1),.lit (.int .i64 v0_0_2),.lit (.int .i64 v0_0_3),.ro (List.map ak v0_1),.ro (List.map (av IntKind.u64) v0_2),.ro (List.map aF v0_3),.ro (List.map bn v0_4)],.rows 0 [] 0 true,.rows 0 [] 0 true,.rows 0 [] 0 true,.rows 0 [] 0 true,.box [.lit (.int .i64 (0:Int)),.lit (.int .i64 (0:Int)),.lit (.int .i64 (0:Int)),.lit (.int .i64 (0:Int)),.own 1 0 0,.own 2 0 0,.own 3 0 0,.own 4 0 0],.rows 0 [] 0 true,.rows 11 (List.map aF sW) 0 true,.rows 9 (List.map bn sT) 0 true,.rows 0 [] 0 true,.rows 0 [] 0 true,.rows 0 [] 0 true,.rows 0 [] 0 true,.box [.lit (.int .i64 sL),.lit (.int .i64 sM),.lit (.int .i64 sI),.lit (.int .i64 sN),.ro (List.map ak sR),.ro (List.map (av IntKind.u64) sQ),.own 7 0 sS.length,.own 8 0 sH.length],.rows sK (List.map az sJ) sx true]⟩)=ob (bR k ((v0_0_0,v0_0_1,v0_0_2,v0_0_3),v0_1,v0_2,v0_3,v0_4) v1  n sL sM sI sN sR sS sH sW sT sJ sP sQ sK) fun r=>some ((.tup [.agg [.lit (.int .i64 r.1.1.1),.lit (.int .i64 r.1.1.2.1),.lit (.int .i64 r.1.1.2.2.1),.lit (.int .i64 r.1.1.2.2.2),.ro (List.map ak r.1.2.1),.ro (List.map (av .u64) r.1.2.2.1),.ro (List.map aF r.1.2.2.2.1),.ro (List.map bn r.1.2.2.2.2)],.own 0 0 r.2.1.length]),[.rows r.2.2 (List.map az r.2.1) 0 true]):=by
 intro n
 induction n with
 | zero=>intros;rfl
 | succ n ih=>
  intro sL sM sI sN sR sS sH sW sT sJ sP sQ sK s91 s94 s95 sx j117
  rw [bR]
  simp -implicitDefEqProofs only [Xl,WH,XF,Ae,gN,XJ,XL,Xw,Ao,wZ,gJ,gM,aD (g:=41),WV,Xn,Al,gR,W9,XC,WX,WZ,Xf,WU,↓syI,↓syP,syA,syD,simprocAttr,syE,af,ae,aa,syW,AR,AT,u6,xQ,eF,pw,ug,B7,dj,eu,B5,cJ,P0,ih]
  all_goals try simp -implicitDefEqProofs only [List.map_nil,List.length_nil]
def i5 (k:Nat) (v0:Typ) (v1:Tye):Option (Typ×Tye×Nat):=
 ob (dO (k+59) v0.2.1) fun xs=>
 ob (aN 8 v0.2.2.1) fun xt=>
 ob (aN 104 v0.2.2.2.1) fun xe=>
 ob (aN 88 v0.2.2.2.2) fun xu=>
 ob (bV k (k+61) v0.1.1 v0.1.2.1 v0.1.2.2.1 v0.1.2.2.2 xs xt xe xu (↑xe.length:Int) 0 xe) fun xD=>
 ck (decide (xD.2.2.2.2.2.2.1.length≤xD.2.2.2.2.2.2.2.2.1.length)) (
 ck (decide (xD.2.2.2.2.2.2.2.1.length≤xD.2.2.2.2.2.2.2.2.2.length)) (
 ob (fh (k+27) v0) fun xv=>
 bif !xv then
 ck (decide (xD.2.2.2.2.2.2.1.length≤(List.take xD.2.2.2.2.2.2.1.length xD.2.2.2.2.2.2.2.2.1).length)) (
 ck (decide (xD.2.2.2.2.2.2.2.1.length≤(List.take xD.2.2.2.2.2.2.2.1.length xD.2.2.2.2.2.2.2.2.2).length)) (
 some (((xD.1,xD.2.1,xD.2.2.1,xD.2.2.2.1),xD.2.2.2.2.1,xD.2.2.2.2.2.1,(List.take xD.2.2.2.2.2.2.1.length (List.take xD.2.2.2.2.2.2.1.length xD.2.2.2.2.2.2.2.2.1)),(List.take xD.2.2.2.2.2.2.2.1.length (List.take xD.2.2.2.2.2.2.2.1.length xD.2.2.2.2.2.2.2.2.2))),[],0)))
 else
 bR k v0 v1 (k+62) xD.1 xD.2.1 xD.2.2.1 xD.2.2.2.1 xD.2.2.2.2.1 xD.2.2.2.2.2.2.1 xD.2.2.2.2.2.2.2.1 (List.take xD.2.2.2.2.2.2.1.length xD.2.2.2.2.2.2.2.2.1) (List.take xD.2.2.2.2.2.2.2.1.length xD.2.2.2.2.2.2.2.2.2) ([]) 0 xD.2.2.2.2.2.1 0))
theorem eN (k:Nat) (v0_0_0 v0_0_1 v0_0_2 v0_0_3:Int) (v0_1:Tyt) (v0_2:List Int) (v0_3:List Tyw) (v0_4:List Tys) (v1:Tye):xC (k+63) (some fun i=>i==1) 17 [.agg [.lit (.int .i64 v0_0_0),.lit (.int .i64 v0_0_1),.lit (.int .i64 v0_0_2),.lit (.int .i64 v0_0_3),.ro (List.map ak v0_1),.ro (List.map (av .u64) v0_2),.ro (List.map aF v0_3),.ro (List.map bn v0_4)],.ro (List.map gT v1)]=ob (i5 k ((v0_0_0,v0_0_1,v0_0_2,v0_0_3),v0_1,v0_2,v0_3,v0_4) v1) fun r=>some ((.tup [.agg [.lit (.int .i64 r.1.1.1),.lit (.int .i64 r.1.1.2.1),.lit (.int .i64 r.1.1.2.2.1),.lit (.int .i64 r.1.1.2.2.2),.ro (List.map ak r.1.2.1),.ro (List.map (av .u64) r.1.2.2.1),.ro (List.map aF r.1.2.2.2.1),.ro (List.map bn r.1.2.2.2.2)],.own 0 0 r.2.1.length]),[.rows r.2.2 (List.map az r.2.1) 0 true]):=by
 rw [aD]
 unfold i5
 have hl0:=fun (xJ:Int×Int×Int×Int×Tyt×List Int×List Tyw×List Tys×List Tyw×List Tys)=>nb k v0_0_0 v0_0_1 v0_0_2 v0_0_3 v0_1 v0_2 v0_3 v0_4 v1 (k+62) (xJ.fst) (xJ.snd.fst) (xJ.snd.snd.fst) (xJ.snd.snd.snd.fst) (xJ.snd.snd.snd.snd.fst) (xJ.snd.snd.snd.snd.snd.snd.fst) (xJ.snd.snd.snd.snd.snd.snd.snd.fst) (List.take xJ.snd.snd.snd.snd.snd.snd.fst.length xJ.snd.snd.snd.snd.snd.snd.snd.snd.fst) (List.take xJ.snd.snd.snd.snd.snd.snd.snd.fst.length xJ.snd.snd.snd.snd.snd.snd.snd.snd.snd) ([]) ((0:Int)) (xJ.snd.snd.snd.snd.snd.fst) (0)
 try simp -implicitDefEqProofs only [List.map_nil,List.length_nil] at hl0
 simp -implicitDefEqProofs only [Xl,WH,XF,Ae,gN,XJ,XL,Xw,Ao,wZ,gJ,gM,aD (g:=41),WV,Xn,Al,gR,W9,XC,WX,WZ,Xf,WU,↓syI,↓syP,syA,syD,simprocAttr,syE,af,ae,aa,syW,AR,AT,u6,xQ,dj,eu,cJ,nb k v0_0_0 v0_0_1 v0_0_2 v0_0_3 v0_1 v0_2 v0_3 v0_4 v1,hl0]
 all_goals try simp -implicitDefEqProofs only [List.map_nil,List.length_nil]
end Go.Ab
set_option maxRecDepth 100000
set_option linter.unusedVariables false
set_option linter.unusedSimpArgs false
namespace Go.Ab
open Go.Proofs
def ft (k:Nat) (v0:Typ)  : Nat→Int→Int→Int→Int→Tyt→List Int→List Tyw→List Tys→List Tyw→List Tys→Option (Typ×Tye)
 | 0,_,_,_,_,_,_,_,_,_,_=>none
 | n+1,s8,s9,sU,sV,sY,sB,sD,sE,sF,sA=>
 ck (decide (sD.length≤sF.length)) (
 ck (decide (sE.length≤sA.length)) (
 some ((((s8),(s9),(sU),(sV)),(sY),(sB),(List.take sD.length sF),(List.take sE.length sA)),[])))
def fN (k:Nat) (v0:Typ):Option (Typ×Tye):=
 ob (dO (k+59) v0.2.1) fun x26=>
 ob (aN 8 v0.2.2.1) fun x27=>
 ob (aN 104 v0.2.2.2.1) fun xd=>
 ob (aN 88 v0.2.2.2.2) fun xk=>
 ob (bV k (k+61) v0.1.1 v0.1.2.1 v0.1.2.2.1 v0.1.2.2.2 x26 x27 xd xk (↑xd.length:Int) (0:Int) xd) fun xI=>
 ck (decide (xI.2.2.2.2.2.2.1.length≤xI.2.2.2.2.2.2.2.2.1.length)) (
 ck (decide (xI.2.2.2.2.2.2.2.1.length≤xI.2.2.2.2.2.2.2.2.2.length)) (
 ob (fh (k+27) ((v0.1.1,v0.1.2.1,v0.1.2.2.1,v0.1.2.2.2),v0.2.1,v0.2.2.1,v0.2.2.2.1,v0.2.2.2.2)) fun x31=>
 bif !x31 then
 ck (decide (xI.2.2.2.2.2.2.1.length≤(List.take xI.2.2.2.2.2.2.1.length xI.2.2.2.2.2.2.2.2.1).length)) (
 ck (decide (xI.2.2.2.2.2.2.2.1.length≤(List.take xI.2.2.2.2.2.2.2.1.length xI.2.2.2.2.2.2.2.2.2).length)) (
 some ((((xI.1),(xI.2.1),(xI.2.2.1),(xI.2.2.2.1)),(xI.2.2.2.2.1),(xI.2.2.2.2.2.1),(List.take xI.2.2.2.2.2.2.1.length (List.take xI.2.2.2.2.2.2.1.length xI.2.2.2.2.2.2.2.2.1)),(List.take xI.2.2.2.2.2.2.2.1.length (List.take xI.2.2.2.2.2.2.2.1.length xI.2.2.2.2.2.2.2.2.2))),[])))
 else
 ft k v0 (k+62) (xI.1) (xI.2.1) (xI.2.2.1) (xI.2.2.2.1) (xI.2.2.2.2.1) (xI.2.2.2.2.2.1) (xI.2.2.2.2.2.2.1) (xI.2.2.2.2.2.2.2.1) (List.take xI.2.2.2.2.2.2.1.length xI.2.2.2.2.2.2.2.2.1) (List.take xI.2.2.2.2.2.2.2.1.length xI.2.2.2.2.2.2.2.2.2)))
theorem u4 (k:Nat) (v0_0_0 v0_0_1 v0_0_2 v0_0_3:Int) (v0_1:Tyt) (v0_2:List Int) (v0_3:List Tyw) (v0_4:List Tys):∀ (n:Nat) (s8 s9 sU sV:Int) (sY:Tyt) (sB:List Int) (sD:List Tyw) (sE:List Tys) (sF:List Tyw) (sA:List Tys) ⦃sC sG:Bool⦄,rt (some fun i=>i==1) (itX (xX (xS (k+62)) 17 0 (k+62) false) Cq (15) (bF (xX (xS (k+62)) 17 0 (k+62) false) (a7 (xS (k+62)).P Tryz.f17) DW) n ⟨[.agg [.lit (.int .i64 v0_0_0),.lit (.int .i64 v0_0_1),.lit (.int .i64 v0_0_2),.lit (.int .i64 v0_0_3),.ro (List.map ak v0_1),.ro (List.map (av IntKind.u64) v0_2),.ro (List.map aF v0_3),.ro (List.map bn v0_4)],.nil,.ptr 0 0 0 0,uu,.ptr 5 0 0 0,.own 6 0 0,.ptr 13 0 0 0,.own 14 0 0,uu,uu,.agg [.lit (.int .i64 v0_0_0),.lit (.int .i64 v0_0_1),.lit (.int .i64 v0_0_2),.lit (.int .i64 v0_0_3),.ro (List.map ak v0_1),.ro (List.map (av IntKind.u64) v0_2),.ro (List.map aF v0_3),.ro (List.map bn v0_4)],.agg [.lit (.int .i64 s8),.lit (.int .i64 s9),.lit (.int .i64 sU),.lit (.int .i64 sV),.ro (List.map ak sY),.ro (List.map (av IntKind.u64) sB),.own 7 0 sD.length,.own 8 0 sE.length],.agg [.lit (.int .i64 v0_0_0),.lit (.int .i64 v0_0_1),.lit (.int .i64 v0_0_2),.lit (.int .i64 v0_0_3),.ro (List.map ak v0_1),.ro (List.map (av IntKind.u64) v0_2),.ro (List.map aF v0_3),.ro (List.map bn v0_4)],.lit (.bool sC),.lit (.bool sG),uu,.nil,.lit (.int .i64 (0:Int)),.lit (.int .i64 (0:Int)),.junk,.junk,.junk,.junk,.junk,.junk,.junk,.junk,.junk,.junk,.junk,.junk,.junk,.junk,.junk,.junk,uu,uu],[.box [.lit (.int .i64 v0_0_0),.lit (.int .i64 v0_0_1),.lit (.int .i64 v0_0_2),.lit (.int .i64 v0_0_3),.ro (List.map ak v0_1),.ro (List.map (av IntKind.u64) v0_2),.ro (List.map aF v0_3),.ro (List.map bn v0_4)],.rows 0 [] 0 true,.rows 0 [] 0 true,.rows 0 [] 0 true,.rows 0 [] 0 true,.box [.lit (.int .i64 (0:Int)),.lit (.int .i64 (0:Int)),.lit (.int .i64 (0:Int)),.lit (.int .i64 (0:Int)),.own 1 0 0,.own 2 0 0,.own 3 0 0,.own 4 0 0],.rows 0 [] 0 true,.rows 11 (List.map aF sF) 0 true,.rows 9 (List.map bn sA) 0 true,.rows 0 [] 0 true,.rows 0 [] 0 true,.rows 0 [] 0 true,.rows 0 [] 0 true,.box [.lit (.int .i64 s8),.lit (.int .i64 s9),.lit (.int .i64 sU),.lit (.int .i64 sV),.ro (List.map ak sY),.ro (List.map (av IntKind.u64) sB),.own 7 0 sD.length,.own 8 0 sE.length],.rows 0 [] 0 true]⟩)=ob (ft k ((v0_0_0,v0_0_1,v0_0_2,v0_0_3),v0_1,v0_2,v0_3,v0_4)  n s8 s9 sU sV sY sB sD sE sF sA) fun r=>some ((.tup [.agg [.lit (.int .i64 r.1.1.1),.lit (.int .i64 r.1.1.2.1),.lit (.int .i64 r.1.1.2.2.1),.lit (.int .i64 r.1.1.2.2.2),.ro (List.map ak r.1.2.1),.ro (List.map (av .u64) r.1.2.2.1),.ro (List.map aF r.1.2.2.2.1),.ro (List.map bn r.1.2.2.2.2)],.own 0 0 0]),[.rows 0 [] 0 true]):=by
 intro n
 induction n with
 | zero=>intros;rfl
 | succ n ih=>
  intro s8 s9 sU sV sY sB sD sE sF sA sC sG
  rw [ft]
  simp -implicitDefEqProofs only [Xl,WH,XF,Ae,gN,XJ,XL,Xw,Ao,wZ,gJ,gM,aD (g:=41),WV,Xn,Al,gR,W9,XC,WX,WZ,Xf,WU,↓syI,↓syP,syA,syD,simprocAttr,syE,af,ae,aa,syW,AR,AT,u6,xFP,r6,yI,xQ,dj,eu,cJ,P0,ih]
theorem dM (k:Nat) (v0_0_0 v0_0_1 v0_0_2 v0_0_3:Int) (v0_1:Tyt) (v0_2:List Int) (v0_3:List Tyw) (v0_4:List Tys):xC (k+63) (some fun i=>i==1) 17 [.agg [.lit (.int .i64 v0_0_0),.lit (.int .i64 v0_0_1),.lit (.int .i64 v0_0_2),.lit (.int .i64 v0_0_3),.ro (List.map ak v0_1),.ro (List.map (av .u64) v0_2),.ro (List.map aF v0_3),.ro (List.map bn v0_4)],.nil]=ob (fN k ((v0_0_0,v0_0_1,v0_0_2,v0_0_3),v0_1,v0_2,v0_3,v0_4)) fun r=>some ((.tup [.agg [.lit (.int .i64 r.1.1.1),.lit (.int .i64 r.1.1.2.1),.lit (.int .i64 r.1.1.2.2.1),.lit (.int .i64 r.1.1.2.2.2),.ro (List.map ak r.1.2.1),.ro (List.map (av .u64) r.1.2.2.1),.ro (List.map aF r.1.2.2.2.1),.ro (List.map bn r.1.2.2.2.2)],.own 0 0 0]),[.rows 0 [] 0 true]):=by
 rw [aD]
 unfold fN
 simp -implicitDefEqProofs only [Xl,WH,XF,Ae,gN,XJ,XL,Xw,Ao,wZ,gJ,gM,aD (g:=41),WV,Xn,Al,gR,W9,XC,WX,WZ,Xf,WU,↓syI,↓syP,syA,syD,simprocAttr,syE,af,ae,aa,syW,AR,AT,u6,xFP,r6,yI,xQ,dj,eu,cJ,u4 k v0_0_0 v0_0_1 v0_0_2 v0_0_3 v0_1 v0_2 v0_3 v0_4]
end Go.Ab
set_option maxRecDepth 100000
set_option linter.unusedVariables false
set_option linter.unusedSimpArgs false
namespace Go.Ab
open Go.Proofs
def dA (k:Nat) (v0:Int) (v1:Int) (v2:Int)  : Nat→Tye→Nat→Int→Option Tye
 | 0,_,_,_=>none
 | n+1,sc,ss,sd=>
 bif decide (sd<v1) then
 ck (ss==3||ss==0) (
 bif room (sc++[((1:Int),sd,v2)]).length 24 then
 dA k v0 v1 v2  n (sc++[((1:Int),sd,v2)]) (3) (IntKind.i64.wrap (sd+(1:Int)))
 else
 none)
 else
 some (sc)
theorem uz (k:Nat) (v0 v1 v2:Int):∀ (n:Nat) (sc:Tye) (ss:Nat) (sd:Int) ⦃s31 s32 s33 sy:Bool⦄ ⦃sX:Nat⦄ ⦃j39 j41:V⦄,rt none (itX (xX (xS (k+1)) 113 0 (k+1) false) Et (2) (bF (xX (xS (k+1)) 113 0 (k+1) false) (a7 (xS (k+1)).P Tryz.f113) Ev) n ⟨[.lit (.int .i64 v0),.lit (.int .i64 v1),.lit (.int .u64 v2),uu,uu,uu,.own 0 0 0,.own 1 sX sc.length,j39,j41,.lit (.int .i64 v0),.lit (.bool s31),.lit (.bool s32),.lit (.bool false),.lit (.int .i64 v1),.lit (.bool s33),.lit (.bool sy),.lit (.bool sy),.lit (.int .i64 v0),.junk,.junk,.junk,.junk,.junk,.junk,.junk,.junk,.junk,.junk,.lit (.int .i64 v1),.lit (.int .i64 sd),.junk,.junk,.junk,.junk,.junk,.junk,.junk,.junk,.junk,uu],[.rows 0 [] 0 true,.rows ss (List.map gT sc) sX true]⟩)=ob (dA k v0 v1 v2  n sc ss sd) fun r=>some ((.ro (List.map gT r)),[]):=by
 intro n
 induction n with
 | zero=>intros;rfl
 | succ n ih=>
  intro sc ss sd s31 s32 s33 sy sX j39 j41
  rw [dA]
  simp -implicitDefEqProofs only [abl,ach,acb,IG,JU,IY,rF,rG,r8,↓syI,↓syP,syA,syD,simprocAttr,syE,af,ae,aa,syW,xFP,r6,yI,xQ,eN,dM,kF,ZV,ih]
def dy (k:Nat) (v0:Int) (v1:Int) (v2:Int)  : Nat→Tye→Int→Nat→Option Tye
 | 0,_,_,_=>none
 | n+1,se,sf,sg=>
 bif decide (sf<v0) then
 ck (sg==3||sg==0) (
 bif room (se++[((0:Int),sf,v2)]).length 24 then
 dy k v0 v1 v2  n (se++[((0:Int),sf,v2)]) (IntKind.i64.wrap (sf+(1:Int))) (3)
 else
 none)
 else
 dA k v0 v1 v2 (k+1) (se) (sg) ((0:Int))
theorem mP (k:Nat) (v0 v1 v2:Int):∀ (n:Nat) (se:Tye) (sf:Int) (sg:Nat) ⦃sA sv sr sz:Bool⦄ ⦃s25:Nat⦄ ⦃j27:V⦄,rt none (itX (xX (xS (k+1)) 113 0 (k+1) false) Ep (2) (bF (xX (xS (k+1)) 113 0 (k+1) false) (a7 (xS (k+1)).P Tryz.f113) Er) n ⟨[.lit (.int .i64 v0),.lit (.int .i64 v1),.lit (.int .u64 v2),uu,uu,uu,.own 0 0 0,.own 1 s25 se.length,j27,uu,.lit (.int .i64 v0),.lit (.bool sA),.lit (.bool sv),.lit (.bool false),.lit (.int .i64 v1),.lit (.bool sr),.lit (.bool sz),.lit (.bool sz),.lit (.int .i64 v0),.lit (.int .i64 sf),.junk,.junk,.junk,.junk,.junk,.junk,.junk,.junk,.junk,uu,uu,uu,uu,uu,uu,uu,uu,uu,uu,uu,uu],[.rows 0 [] 0 true,.rows sg (List.map gT se) s25 true]⟩)=ob (dy k v0 v1 v2  n se sf sg) fun r=>some ((.ro (List.map gT r)),[]):=by
 intro n
 induction n with
 | zero=>intros;rfl
 | succ n ih=>
  intro se sf sg sA sv sr sz s25 j27
  rw [dy]
  simp -implicitDefEqProofs only [abl,ach,acb,IG,JU,IY,rF,rG,r8,↓syI,↓syP,syA,syD,simprocAttr,syE,af,ae,aa,syW,xFP,r6,yI,xQ,eN,dM,kF,acm,ih,uz k v0 v1 v2]
def gK (k:Nat) (v0:Int) (v1:Int) (v2:Int):Option Tye:=
 ob (cM v0 (21:Int)) fun xc=>
 bif !xc then
 some []
 else
 ob (cM v1 (21:Int)) fun xj=>
 bif !xj then
 some []
 else
 dy k v0 v1 v2 (k+1) ([]) ((0:Int)) (0)
theorem Hk (k:Nat) (v0 v1 v2:Int):xC (k+2) none 113 [.lit (.int .i64 v0),.lit (.int .i64 v1),.lit (.int .u64 v2)]=ob (gK k v0 v1 v2) fun r=>some ((.ro (List.map gT r)),[]):=by
 rw [aD]
 unfold gK
 have hl0:=mP k v0 v1 v2 (k+1) ([]) ((0:Int)) (0)
 try simp -implicitDefEqProofs only [List.map_nil,List.length_nil] at hl0
 simp -implicitDefEqProofs only [abl,ach,acb,IG,JU,IY,rF,rG,r8,↓syI,↓syP,syA,syD,simprocAttr,syE,af,ae,aa,syW,xFP,r6,yI,xQ,eN,dM,kF,mP k v0 v1 v2,hl0]
 all_goals simp -implicitDefEqProofs only [List.map_nil]
def dC (k:Nat) (v0:Typ) (v1:Int)  : Nat→Int→Int→Int→Int→Tyt→List Int→List Tyw→List Tys→Int→Nat→Tye→Option (Typ×Tye×Int)
 | 0,_,_,_,_,_,_,_,_,_,_,_=>none
 | n+1,s4,s5,s6,s7,s8,s9,sU,sV,sZ,st,sO=>
 bif decide (sZ<bif decide ((5000:Int)<v1) then (5000:Int) else v1) then
 ob (gK (k+86) v0.1.1 (↑v0.2.2.2.2.length:Int) (IntKind.u64.wrap sZ)) fun x74=>
 ob (iR (k+50) ((s4,s5,s6,s7),s8,s9,sU,sV)) fun x75=>
 bif x75 then
 some ((((s4),(s5),(s6),(s7)),(s8),(s9),(sU),(sV)),(sO),(sZ))
 else
 ob (i5 (k+24) ((s4,s5,s6,s7),s8,s9,sU,sV) x74) fun xW=>
 ck (st==3||st==0) (
 bif room (sO++xW.2.1).length 24 then
 dC k v0 v1  n (xW.1.1.1) (xW.1.1.2.1) (xW.1.1.2.2.1) (xW.1.1.2.2.2) (xW.1.2.1) (xW.1.2.2.1) (xW.1.2.2.2.1) (xW.1.2.2.2.2) (IntKind.i64.wrap (sZ+(1:Int))) (3) (sO++xW.2.1)
 else
 none)
 else
 some ((((s4),(s5),(s6),(s7)),(s8),(s9),(sU),(sV)),(sO),(sZ))
theorem mK (k:Nat) (v0_0_0 v0_0_1 v0_0_2 v0_0_3:Int) (v0_1:Tyt) (v0_2:List Int) (v0_3:List Tyw) (v0_4:List Tys) (v1:Int):∀ (n:Nat) (s4 s5 s6 s7:Int) (s8:Tyt) (s9:List Int) (sU:List Tyw) (sV:List Tys) (sZ:Int) (st:Nat) (sO:Tye) ⦃sY sB:Bool⦄ ⦃s57:Nat⦄ ⦃sh si sj sk:Int⦄ ⦃sl:Tyt⦄ ⦃sm:List Int⦄ ⦃sn:List Tyw⦄ ⦃so:List Tys⦄,rt none (bq (itX (xX (xS (k+88)) 112 0 (k+88) false) FQ (19) (bF (xX (xS (k+88)) 112 0 (k+88) false) (a7 (xS (k+88)).P Tryz.f112) EO) n ⟨[.yld 18,.ptr 17 0 0 0,.ptr 16 0 0 0,uu,.lit (.int .i64 sZ),.junk,.junk,.junk,.junk,.junk,.junk,.junk,.junk,.junk,.junk,.junk,.junk,.junk,.junk,.junk,.junk,.junk,.junk,.junk],[.box [.lit (.int .i64 v0_0_0),.lit (.int .i64 v0_0_1),.lit (.int .i64 v0_0_2),.lit (.int .i64 v0_0_3),.ro (List.map ak v0_1),.ro (List.map (av IntKind.u64) v0_2),.ro (List.map aF v0_3),.ro (List.map bn v0_4)],.rows 0 [] 0 true,.rows 0 [] 0 true,.rows 0 [] 0 true,.rows 0 [] 0 true,.box [.lit (.int .i64 (0:Int)),.lit (.int .i64 (0:Int)),.lit (.int .i64 (0:Int)),.lit (.int .i64 (0:Int)),.own 1 0 0,.own 2 0 0,.own 3 0 0,.own 4 0 0],.rows 0 [] 0 true,.rows st (List.map az sO) s57 true,.rows 0 [] 0 true,.rows 0 [] 0 true,.rows 0 [] 0 true,.rows 0 [] 0 true,.box [.lit (.int .i64 s4),.lit (.int .i64 s5),.lit (.int .i64 s6),.lit (.int .i64 s7),.ro (List.map ak s8),.ro (List.map (av IntKind.u64) s9),.ro (List.map aF sU),.ro (List.map bn sV)],.rows 0 [] 0 true,.box [.own 7 s57 sO.length],.box [.lit (.int .i64 sZ)],.box [.lit (.int .i64 v0_0_0),.lit (.int .i64 v0_0_1),.lit (.int .i64 v0_0_2),.lit (.int .i64 v0_0_3),.ro (List.map ak v0_1),.ro (List.map (av IntKind.u64) v0_2),.ro (List.map aF v0_3),.ro (List.map bn v0_4)],.box [.lit (.int .i64 v1)],(.loop ⟨LoopState.ready,none,36,[.agg [.lit (.int .i64 v0_0_0),.lit (.int .i64 v0_0_1),.lit (.int .i64 v0_0_2),.lit (.int .i64 v0_0_3),.ro (List.map ak v0_1),.ro (List.map (av IntKind.u64) v0_2),.ro (List.map aF v0_3),.ro (List.map bn v0_4)],.lit (.int .i64 v1),.ptr 0 0 0 0,uu,.ptr 5 0 0 0,.own 6 0 0,.lit (.int .i64 (0:Int)),.ptr 12 0 0 0,.ptr 14 0 0 0,.ptr 15 0 0 0,uu,uu,uu,uu,.tup [.agg [.lit (.int .i64 sh),.lit (.int .i64 si),.lit (.int .i64 sj),.lit (.int .i64 sk),.ro (List.map ak sl),.ro (List.map (av IntKind.u64) sm),.ro (List.map aF sn),.ro (List.map bn so)],.own 7 0 0],.agg [.lit (.int .i64 v0_0_0),.lit (.int .i64 v0_0_1),.lit (.int .i64 v0_0_2),.lit (.int .i64 v0_0_3),.ro (List.map ak v0_1),.ro (List.map (av IntKind.u64) v0_2),.ro (List.map aF v0_3),.ro (List.map bn v0_4)],.tup [.agg [.lit (.int .i64 sh),.lit (.int .i64 si),.lit (.int .i64 sj),.lit (.int .i64 sk),.ro (List.map ak sl),.ro (List.map (av IntKind.u64) sm),.ro (List.map aF sn),.ro (List.map bn so)],.own 7 0 0],.agg [.lit (.int .i64 sh),.lit (.int .i64 si),.lit (.int .i64 sj),.lit (.int .i64 sk),.ro (List.map ak sl),.ro (List.map (av IntKind.u64) sm),.ro (List.map aF sn),.ro (List.map bn so)],.own 7 0 0,.agg [.lit (.int .i64 v0_0_0),.lit (.int .i64 v0_0_1),.lit (.int .i64 v0_0_2),.lit (.int .i64 v0_0_3),.ro (List.map ak v0_1),.ro (List.map (av IntKind.u64) v0_2),.ro (List.map aF v0_3),.ro (List.map bn v0_4)],.lit (.bool sY),.lit (.bool sB),uu,.agg [.lit (.int .i64 v0_0_0),.lit (.int .i64 v0_0_1),.lit (.int .i64 v0_0_2),.lit (.int .i64 v0_0_3),.ro (List.map ak v0_1),.ro (List.map (av IntKind.u64) v0_2),.ro (List.map aF v0_3),.ro (List.map bn v0_4)],.lit (.int .i64 v1),.fn (Fn.func (112:FuncId)) [] [.ptr 17 0 0 0,.ptr 16 0 0 0],uu,uu,uu,uu,uu,uu,uu,uu,uu,uu,uu,uu,uu,uu,uu,uu,uu,uu,uu],[(26:Tmp),(27:Tmp)],QU,O9⟩)]⟩) (rfK (bF (xX (xS (k+89)) 36 0 (k+89) false) (a7 (xS (k+89)).P Tryz.f36) Gt) [.agg [.lit (.int .i64 v0_0_0),.lit (.int .i64 v0_0_1),.lit (.int .i64 v0_0_2),.lit (.int .i64 v0_0_3),.ro (List.map ak v0_1),.ro (List.map (av IntKind.u64) v0_2),.ro (List.map aF v0_3),.ro (List.map bn v0_4)],.lit (.int .i64 v1),.ptr 0 0 0 0,uu,.ptr 5 0 0 0,.own 6 0 0,.lit (.int .i64 (0:Int)),.ptr 12 0 0 0,.ptr 14 0 0 0,.ptr 15 0 0 0,uu,uu,uu,uu,.tup [.agg [.lit (.int .i64 sh),.lit (.int .i64 si),.lit (.int .i64 sj),.lit (.int .i64 sk),.ro (List.map ak sl),.ro (List.map (av IntKind.u64) sm),.ro (List.map aF sn),.ro (List.map bn so)],.own 7 0 0],.agg [.lit (.int .i64 v0_0_0),.lit (.int .i64 v0_0_1),.lit (.int .i64 v0_0_2),.lit (.int .i64 v0_0_3),.ro (List.map ak v0_1),.ro (List.map (av IntKind.u64) v0_2),.ro (List.map aF v0_3),.ro (List.map bn v0_4)],.tup [.agg [.lit (.int .i64 sh),.lit (.int .i64 si),.lit (.int .i64 sj),.lit (.int .i64 sk),.ro (List.map ak sl),.ro (List.map (av IntKind.u64) sm),.ro (List.map aF sn),.ro (List.map bn so)],.own 7 0 0],.agg [.lit (.int .i64 sh),.lit (.int .i64 si),.lit (.int .i64 sj),.lit (.int .i64 sk),.ro (List.map ak sl),.ro (List.map (av IntKind.u64) sm),.ro (List.map aF sn),.ro (List.map bn so)],.own 7 0 0,.agg [.lit (.int .i64 v0_0_0),.lit (.int .i64 v0_0_1),.lit (.int .i64 v0_0_2),.lit (.int .i64 v0_0_3),.ro (List.map ak v0_1),.ro (List.map (av IntKind.u64) v0_2),.ro (List.map aF v0_3),.ro (List.map bn v0_4)],.lit (.bool sY),.lit (.bool sB),uu,.agg [.lit (.int .i64 v0_0_0),.lit (.int .i64 v0_0_1),.lit (.int .i64 v0_0_2),.lit (.int .i64 v0_0_3),.ro (List.map ak v0_1),.ro (List.map (av IntKind.u64) v0_2),.ro (List.map aF v0_3),.ro (List.map bn v0_4)],.lit (.int .i64 v1),.fn (Fn.func (112:FuncId)) [] [.ptr 17 0 0 0,.ptr 16 0 0 0],uu,uu,uu,uu,uu,uu,uu,uu,uu,uu,uu,uu,uu,uu,uu,uu,uu,uu,uu] (18)))=ob (dC k ((v0_0_0,v0_0_1,v0_0_2,v0_0_3),v0_1,v0_2,v0_3,v0_4) v1  n s4 s5 s6 s7 s8 s9 sU sV sZ st sO) fun r=>some ((.tup [.agg [.lit (.int .i64 r.1.1.1),.lit (.int .i64 r.1.1.2.1),.lit (.int .i64 r.1.1.2.2.1),.lit (.int .i64 r.1.1.2.2.2),.ro (List.map ak r.1.2.1),.ro (List.map (av .u64) r.1.2.2.1),.ro (List.map aF r.1.2.2.2.1),.ro (List.map bn r.1.2.2.2.2)],.ro (List.map az r.2.1),.lit (.int .i64 r.2.2)]),[]):=by
 intro n
 induction n with
 | zero=>intros;rfl
 | succ n ih=>
  intro s4 s5 s6 s7 s8 s9 sU sV sZ st sO sY sB s57 sh si sj sk sl sm sn so
  rw [dC]
  simp -implicitDefEqProofs only [apm,aoX,apD,W2,WT,lC,lE,Dq,H0,ao4,ape,aD (g:=74),agL,agT,agP,OT,BW,↓syI,↓syP,syA,syD,simprocAttr,syE,af,ae,aa,syW,xFP,r6,yI,xQ,eN,dM,eu,ue,Hk,ab1,ih]
def fA (k:Nat) (v0:Typ) (v1:Int):Option (Typ×Tye×Int):=
 ob (fN (k+26) ((v0.1.1,v0.1.2.1,v0.1.2.2.1,v0.1.2.2.2),v0.2.1,v0.2.2.1,v0.2.2.2.1,v0.2.2.2.2)) fun xN=>
 ob (fh (k+54) ((v0.1.1,v0.1.2.1,v0.1.2.2.1,v0.1.2.2.2),v0.2.1,v0.2.2.1,v0.2.2.2.1,v0.2.2.2.2)) fun x78=>
 bif !x78 then
 some ((((xN.1.1.1),(xN.1.1.2.1),(xN.1.1.2.2.1),(xN.1.1.2.2.2)),(xN.1.2.1),(xN.1.2.2.1),(xN.1.2.2.2.1),(xN.1.2.2.2.2)),[],((0:Int)))
 else
 dC k v0 v1 (k+88) (xN.1.1.1) (xN.1.1.2.1) (xN.1.1.2.2.1) (xN.1.1.2.2.2) (xN.1.2.1) (xN.1.2.2.1) (xN.1.2.2.2.1) (xN.1.2.2.2.2) ((0:Int)) (0) ([])
theorem Ak (k:Nat) (v0_0_0 v0_0_1 v0_0_2 v0_0_3:Int) (v0_1:Tyt) (v0_2:List Int) (v0_3:List Tyw) (v0_4:List Tys) (v1:Int):xC (k+90) none 36 [.agg [.lit (.int .i64 v0_0_0),.lit (.int .i64 v0_0_1),.lit (.int .i64 v0_0_2),.lit (.int .i64 v0_0_3),.ro (List.map ak v0_1),.ro (List.map (av .u64) v0_2),.ro (List.map aF v0_3),.ro (List.map bn v0_4)],.lit (.int .i64 v1)]=ob (fA k ((v0_0_0,v0_0_1,v0_0_2,v0_0_3),v0_1,v0_2,v0_3,v0_4) v1) fun r=>some ((.tup [.agg [.lit (.int .i64 r.1.1.1),.lit (.int .i64 r.1.1.2.1),.lit (.int .i64 r.1.1.2.2.1),.lit (.int .i64 r.1.1.2.2.2),.ro (List.map ak r.1.2.1),.ro (List.map (av .u64) r.1.2.2.1),.ro (List.map aF r.1.2.2.2.1),.ro (List.map bn r.1.2.2.2.2)],.ro (List.map az r.2.1),.lit (.int .i64 r.2.2)]),[]):=by
 rw [aD]
 unfold fA
 have hl0:=fun (xa:Typ×Tye)=>mK k v0_0_0 v0_0_1 v0_0_2 v0_0_3 v0_1 v0_2 v0_3 v0_4 v1 (k+88) (xa.fst.fst.fst) (xa.fst.fst.snd.fst) (xa.fst.fst.snd.snd.fst) (xa.fst.fst.snd.snd.snd) (xa.fst.snd.fst) (xa.fst.snd.snd.fst) (xa.fst.snd.snd.snd.fst) (xa.fst.snd.snd.snd.snd) ((0:Int)) (0) ([])
 try simp -implicitDefEqProofs only [List.map_nil,List.length_nil] at hl0
 simp -implicitDefEqProofs only [apm,aoX,apD,W2,WT,lC,lE,Dq,H0,ao4,ape,aD (g:=74),agL,agT,agP,OT,BW,↓syI,↓syP,syA,syD,simprocAttr,syE,af,ae,aa,syW,xFP,r6,yI,xQ,eN,dM,eu,mK k v0_0_0 v0_0_1 v0_0_2 v0_0_3 v0_1 v0_2 v0_3 v0_4 v1,hl0]
 all_goals simp -implicitDefEqProofs only [List.map_nil]
end Go.Ab
set_option maxRecDepth 100000
set_option linter.unusedVariables false
set_option linter.unusedSimpArgs false
namespace Go.Ab
open Go.Proofs
def kz (k:Nat) (v0:(Int×Int×Int×Int)) (v1:Tyt) (v2:(List (List Int))) (v3:(List Int)):Option (Typ×Tye×Bool):=
 ob (lY (k+41) (v0.1,v0.2.1,v0.2.2.1,v0.2.2.2) v1 v2) fun x4=>
 bif !x4.2 then
 some (((((0:Int)),((0:Int)),((0:Int)),((0:Int))),[],[],[],[]),[],(false))
 else
 ob (iI (k+39) v3) fun x5=>
 ob (ku k ((x4.1.1.1,x4.1.1.2.1,x4.1.1.2.2.1,x4.1.1.2.2.2),x4.1.2.1,x4.1.2.2.1,x4.1.2.2.2.1,x4.1.2.2.2.2) x5) fun x6=>
 some ((((x6.1.1.1),(x6.1.1.2.1),(x6.1.1.2.2.1),(x6.1.1.2.2.2)),(x6.1.2.1),(x6.1.2.2.1),(x6.1.2.2.2.1),(x6.1.2.2.2.2)),(x6.2),(true))
theorem Jv (k:Nat) (v0_0 v0_1 v0_2 v0_3:Int) (v1:Tyt) (v2:List (List Int)) (v3:List Int):xC (k+64) none 34 [.agg [.lit (.int .i64 v0_0),.lit (.int .i64 v0_1),.lit (.int .i64 v0_2),.lit (.int .i64 v0_3)],.ro (List.map ak v1),.ro (List.map cz v2),.ro (List.map (av .u8) v3)]=ob (kz k (v0_0,v0_1,v0_2,v0_3) v1 v2 v3) fun r=>some ((.tup [.agg [.lit (.int .i64 r.1.1.1),.lit (.int .i64 r.1.1.2.1),.lit (.int .i64 r.1.1.2.2.1),.lit (.int .i64 r.1.1.2.2.2),.ro (List.map ak r.1.2.1),.ro (List.map (av .u64) r.1.2.2.1),.ro (List.map aF r.1.2.2.2.1),.ro (List.map bn r.1.2.2.2.2)],.ro (List.map az r.2.1),.lit (.bool r.2.2)]),[]):=by
 rw [aD]
 unfold kz
 simp -implicitDefEqProofs only [apL,aq4,↓syI,↓syP,syA,syD,simprocAttr,syE,af,ae,aa,syW,xFP,r6,yI,xQ,eN,dM,N0,N7,FY]
 all_goals simp -implicitDefEqProofs only [List.map_nil]
def am (k:Nat) (v0:Tyt) (v1:Tye)  : Nat→Int→Int→Int→Int→Int→Int→Int→Option (Int×Int×Int)
 | 0,_,_,_,_,_,_,_=>none
 | n+1,sB,sD,sE,sC,sG,sF,sA=>
 bif decide (sB<(↑v1.length:Int)) then
 ob (idx v1 sB) fun xB=>
 bif decide (xB.1<(0:Int)) then
 am k v0 v1  n (IntKind.i64.wrap (sB+(1:Int))) (sD) (sE) (sC) (sG) (sF) (sA)
 else
 bif decide ((6:Int)≤xB.1) then
 am k v0 v1  n (IntKind.i64.wrap (sB+(1:Int))) (sD) (sE) (sC) (sG) (sF) (sA)
 else
 bif xB.1==(0:Int) then
 bif xB.1==(0:Int) then
 am k v0 v1  n (IntKind.i64.wrap (sB+(1:Int))) (IntKind.i64.wrap (sD+(1:Int))) (sE) (sC) (sG) (sF) (sA)
 else
 bif xB.1==(1:Int) then
 am k v0 v1  n (IntKind.i64.wrap (sB+(1:Int))) (sD) (IntKind.i64.wrap (sD+(1:Int))) (sC) (sG) (sF) (sA)
 else
 bif xB.1==(2:Int) then
 am k v0 v1  n (IntKind.i64.wrap (sB+(1:Int))) (sD) (sE) (IntKind.i64.wrap (sD+(1:Int))) (sG) (sF) (sA)
 else
 bif xB.1==(3:Int) then
 am k v0 v1  n (IntKind.i64.wrap (sB+(1:Int))) (sD) (sE) (sC) (IntKind.i64.wrap (sD+(1:Int))) (sF) (sA)
 else
 bif xB.1==(4:Int) then
 am k v0 v1  n (IntKind.i64.wrap (sB+(1:Int))) (sD) (sE) (sC) (sG) (IntKind.i64.wrap (sD+(1:Int))) (sA)
 else
 bif xB.1==(5:Int) then
 am k v0 v1  n (IntKind.i64.wrap (sB+(1:Int))) (sD) (sE) (sC) (sG) (sF) (IntKind.i64.wrap (sD+(1:Int)))
 else
 none
 else
 bif xB.1==(1:Int) then
 bif xB.1==(0:Int) then
 am k v0 v1  n (IntKind.i64.wrap (sB+(1:Int))) (IntKind.i64.wrap (sE+(1:Int))) (sE) (sC) (sG) (sF) (sA)
 else
 bif xB.1==(1:Int) then
 am k v0 v1  n (IntKind.i64.wrap (sB+(1:Int))) (sD) (IntKind.i64.wrap (sE+(1:Int))) (sC) (sG) (sF) (sA)
 else
 bif xB.1==(2:Int) then
 am k v0 v1  n (IntKind.i64.wrap (sB+(1:Int))) (sD) (sE) (IntKind.i64.wrap (sE+(1:Int))) (sG) (sF) (sA)
 else
 bif xB.1==(3:Int) then
 am k v0 v1  n (IntKind.i64.wrap (sB+(1:Int))) (sD) (sE) (sC) (IntKind.i64.wrap (sE+(1:Int))) (sF) (sA)
 else
 bif xB.1==(4:Int) then
 am k v0 v1  n (IntKind.i64.wrap (sB+(1:Int))) (sD) (sE) (sC) (sG) (IntKind.i64.wrap (sE+(1:Int))) (sA)
 else
 bif xB.1==(5:Int) then
 am k v0 v1  n (IntKind.i64.wrap (sB+(1:Int))) (sD) (sE) (sC) (sG) (sF) (IntKind.i64.wrap (sE+(1:Int)))
 else
 none
 else
 bif xB.1==(2:Int) then
 bif xB.1==(0:Int) then
 am k v0 v1  n (IntKind.i64.wrap (sB+(1:Int))) (IntKind.i64.wrap (sC+(1:Int))) (sE) (sC) (sG) (sF) (sA)
 else
 bif xB.1==(1:Int) then
 am k v0 v1  n (IntKind.i64.wrap (sB+(1:Int))) (sD) (IntKind.i64.wrap (sC+(1:Int))) (sC) (sG) (sF) (sA)
 else
 bif xB.1==(2:Int) then
 am k v0 v1  n (IntKind.i64.wrap (sB+(1:Int))) (sD) (sE) (IntKind.i64.wrap (sC+(1:Int))) (sG) (sF) (sA)
 else
 bif xB.1==(3:Int) then
 am k v0 v1  n (IntKind.i64.wrap (sB+(1:Int))) (sD) (sE) (sC) (IntKind.i64.wrap (sC+(1:Int))) (sF) (sA)
 else
 bif xB.1==(4:Int) then
 am k v0 v1  n (IntKind.i64.wrap (sB+(1:Int))) (sD) (sE) (sC) (sG) (IntKind.i64.wrap (sC+(1:Int))) (sA)
 else
 bif xB.1==(5:Int) then
 am k v0 v1  n (IntKind.i64.wrap (sB+(1:Int))) (sD) (sE) (sC) (sG) (sF) (IntKind.i64.wrap (sC+(1:Int)))
 else
 none
 else
 bif xB.1==(3:Int) then
 bif xB.1==(0:Int) then
 am k v0 v1  n (IntKind.i64.wrap (sB+(1:Int))) (IntKind.i64.wrap (sG+(1:Int))) (sE) (sC) (sG) (sF) (sA)
 else
 bif xB.1==(1:Int) then
 am k v0 v1  n (IntKind.i64.wrap (sB+(1:Int))) (sD) (IntKind.i64.wrap (sG+(1:Int))) (sC) (sG) (sF) (sA)
 else
 bif xB.1==(2:Int) then
 am k v0 v1  n (IntKind.i64.wrap (sB+(1:Int))) (sD) (sE) (IntKind.i64.wrap (sG+(1:Int))) (sG) (sF) (sA)
 else
 bif xB.1==(3:Int) then
 am k v0 v1  n (IntKind.i64.wrap (sB+(1:Int))) (sD) (sE) (sC) (IntKind.i64.wrap (sG+(1:Int))) (sF) (sA)
 else
 bif xB.1==(4:Int) then
 am k v0 v1  n (IntKind.i64.wrap (sB+(1:Int))) (sD) (sE) (sC) (sG) (IntKind.i64.wrap (sG+(1:Int))) (sA)
 else
 bif xB.1==(5:Int) then
 am k v0 v1  n (IntKind.i64.wrap (sB+(1:Int))) (sD) (sE) (sC) (sG) (sF) (IntKind.i64.wrap (sG+(1:Int)))
 else
 none
 else
 bif xB.1==(4:Int) then
 bif xB.1==(0:Int) then
 am k v0 v1  n (IntKind.i64.wrap (sB+(1:Int))) (IntKind.i64.wrap (sF+(1:Int))) (sE) (sC) (sG) (sF) (sA)
 else
 bif xB.1==(1:Int) then
 am k v0 v1  n (IntKind.i64.wrap (sB+(1:Int))) (sD) (IntKind.i64.wrap (sF+(1:Int))) (sC) (sG) (sF) (sA)
 else
 bif xB.1==(2:Int) then
 am k v0 v1  n (IntKind.i64.wrap (sB+(1:Int))) (sD) (sE) (IntKind.i64.wrap (sF+(1:Int))) (sG) (sF) (sA)
 else
 bif xB.1==(3:Int) then
 am k v0 v1  n (IntKind.i64.wrap (sB+(1:Int))) (sD) (sE) (sC) (IntKind.i64.wrap (sF+(1:Int))) (sF) (sA)
 else
 bif xB.1==(4:Int) then
 am k v0 v1  n (IntKind.i64.wrap (sB+(1:Int))) (sD) (sE) (sC) (sG) (IntKind.i64.wrap (sF+(1:Int))) (sA)
 else
 bif xB.1==(5:Int) then
 am k v0 v1  n (IntKind.i64.wrap (sB+(1:Int))) (sD) (sE) (sC) (sG) (sF) (IntKind.i64.wrap (sF+(1:Int)))
 else
 none
 else
 bif xB.1==(5:Int) then
 bif xB.1==(0:Int) then
 am k v0 v1  n (IntKind.i64.wrap (sB+(1:Int))) (IntKind.i64.wrap (sA+(1:Int))) (sE) (sC) (sG) (sF) (sA)
 else
 bif xB.1==(1:Int) then
 am k v0 v1  n (IntKind.i64.wrap (sB+(1:Int))) (sD) (IntKind.i64.wrap (sA+(1:Int))) (sC) (sG) (sF) (sA)
 else
 bif xB.1==(2:Int) then
 am k v0 v1  n (IntKind.i64.wrap (sB+(1:Int))) (sD) (sE) (IntKind.i64.wrap (sA+(1:Int))) (sG) (sF) (sA)
 else
 bif xB.1==(3:Int) then
 am k v0 v1  n (IntKind.i64.wrap (sB+(1:Int))) (sD) (sE) (sC) (IntKind.i64.wrap (sA+(1:Int))) (sF) (sA)
 else
 bif xB.1==(4:Int) then
 am k v0 v1  n (IntKind.i64.wrap (sB+(1:Int))) (sD) (sE) (sC) (sG) (IntKind.i64.wrap (sA+(1:Int))) (sA)
 else
 bif xB.1==(5:Int) then
 am k v0 v1  n (IntKind.i64.wrap (sB+(1:Int))) (sD) (sE) (sC) (sG) (sF) (IntKind.i64.wrap (sA+(1:Int)))
 else
 none
 else
 none
 else
 some ((sD),(sE),(sF))
theorem uL (k:Nat) (v0:Tyt) (v1:Tye):∀ (n:Nat) (sB sD sE sC sG sF sA:Int) ⦃j12:V⦄,rt none (itX (xX (xS k) 37 0 k false) Em (1) (bF (xX (xS k) 37 0 k false) (a7 (xS k).P Tryz.f37) KP) n ⟨[.ro (List.map ak v0),.ro (List.map az v1),uu,uu,.lit (.int .i64 (0:Int)),.lit (.int .i64 (0:Int)),.lit (.int .i64 (0:Int)),.ptr 0 0 0 0,uu,j12,.ro (List.map az v1),.lit (.int .i64 (↑v1.length:Int)),.lit (.int .i64 sB),.junk,.junk,.junk,.junk,.junk,.junk,.junk,.junk,.junk,.junk,.junk,.junk,.junk,.junk,.junk,.junk,.junk,.junk,uu,uu,uu,uu,uu,uu],[.box [.lit (.int .i64 sD),.lit (.int .i64 sE),.lit (.int .i64 sC),.lit (.int .i64 sG),.lit (.int .i64 sF),.lit (.int .i64 sA)]]⟩)=ob (am k v0 v1  n sB sD sE sC sG sF sA) fun r=>some ((.tup [.lit (.int .i64 r.1),.lit (.int .i64 r.2.1),.lit (.int .i64 r.2.2)]),[]):=by
 intro n
 induction n with
 | zero=>intros;rfl
 | succ n ih=>
  intro sB sD sE sC sG sF sA j12
  rw [am]
  simp -implicitDefEqProofs only [apg,ao0,apC,W7,Xo,Ed,El,↓syI,↓syP,syA,syD,simprocAttr,syE,af,ae,aa,syW,xFP,r6,yI,xQ,eN,dM,aen,ih]
def An (k:Nat) (v0:Tyt) (v1:Tye):Option (Int×Int×Int):=
 am k v0 v1 (k) ((0:Int)) ((0:Int)) ((0:Int)) ((0:Int)) ((0:Int)) ((0:Int)) ((0:Int))
theorem Hi (k:Nat) (v0:Tyt) (v1:Tye):xC (k+1) none 37 [.ro (List.map ak v0),.ro (List.map az v1)]=ob (An k v0 v1) fun r=>some ((.tup [.lit (.int .i64 r.1),.lit (.int .i64 r.2.1),.lit (.int .i64 r.2.2)]),[]):=by
 rw [aD]
 unfold An
 simp -implicitDefEqProofs only [apg,ao0,apC,W7,Xo,Ed,El,↓syI,↓syP,syA,syD,simprocAttr,syE,af,ae,aa,syW,xFP,r6,yI,xQ,eN,dM,uL k v0 v1]
end Go.Ab
set_option maxRecDepth 100000
set_option linter.unusedVariables false
set_option linter.unusedSimpArgs false
namespace Go.Ab
open Go.Proofs
def mq (k:Nat) (v0:Tyt):Option (List Int):=
 ob (bW k v0) fun x2=>
 bif !x2 then
 some []
 else
 bif decide ((0:Int)≤(↑v0.length:Int)∧(↑v0.length:Int)≤(9223372036854775807:Int)∧(↑v0.length:Int)*(8:Int)≤(70368744177664:Int)) then
 some (List.replicate v0.length (0:Int))
 else
 none
theorem Ba (k:Nat) (v0:Tyt):xC (k+20) none 114 [(.ro (List.map ak v0))]=ob (mq k v0) fun r=>some ((.ro (List.map (av .i64) r)),[]):=by
 rw [aD]
 unfold mq
 simp -implicitDefEqProofs only [anq,amV,↓syP,syA,rtN,aW,V.pure,nsh,Bb,V.kill,eZ,spl,V.shift,cX,V.scal,lz,av,fI,az,simprocAttr,syQ,mi,dH,cz,bn,aF,eU,da,af,ae,aa,syW,↓syI,xFP,xFM,xF,ip,iF,iw,gU,EH,dh,iN,nY,xR,xA,oh,gX,oA,iD,oj,iy,og,ii,oi,iP,ir,eJ,io,cZ,oB,iC,nN,gV,oe,iB,ov,iu,oo,ig,iQ,eY,bX]
 all_goals simp -implicitDefEqProofs only [List.map_nil]
def gi (v0:Int):Option Bool:=
 bif decide (v0<(0:Int)) then
 some (true)
 else
 some (decide ((3:Int)<v0))
theorem Dj (k:Nat) (v0:Int):xC (k+1) none 173 [(.lit (.int .i64 v0))]=ob (gi v0) fun r=>some ((.lit (.bool r)),[]):=by
 rw [aD]
 unfold gi
 simp -implicitDefEqProofs only [ac3,afu,Pk,BR,↓syP,syA,rtN,aW,V.pure,nsh,Bb,V.kill,eZ,spl,V.shift,cX,V.scal,lz,av,fI,az,simprocAttr,syQ,mi,dH,cz,bn,aF,eU,da,af,ae,aa,syW,↓syI,xFP,xFM,xF,ip,iF,iw,gU,EH,dh,iN,nY,xR,xA,oh,gX,oA,iD,oj,iy,og,ii,oi,iP,ir,eJ,io,cZ,oB,iC,nN,gV,oe,iB,ov,iu,oo,ig,iQ,eY]
def aG (k:Nat) (v0:(List Int))  : Nat→Int→Option Int
 | 0,_=>none
 | n+1,sC=>
 bif decide (sC<(↑v0.length:Int)) then
 ob (idx v0 sC) fun x21=>
 ob (gi x21) fun xB=>
 bif xB then
 some (sC)
 else
 aG k v0  n (IntKind.i64.wrap (sC+(1:Int)))
 else
 some ((-1:Int))
theorem fm (k:Nat) (v0:(List Int)):∀ (n:Nat) (sC:Int) ⦃j15:V⦄,rt none (itX (xX (xS (k+8)) 97 0 (k+8) false) BG (0) (bF (xX (xS (k+8)) 97 0 (k+8) false) (a7 (xS (k+8)).P Tryz.f97) Cf) n ⟨[.ro (List.map (av IntKind.i64) v0),.fn (Fn.func 173) [] [],uu,uu,.lit (.int .i64 (0:Int)),j15,.ro (List.map (av IntKind.i64) v0),.lit (.int .i64 (↑v0.length:Int)),.lit (.int .i64 sC),.junk,.junk,.junk,.junk,.junk,.junk,.junk,.junk,.junk,.junk],[]⟩)=ob (aG k v0  n sC) fun r=>some ((.lit (.int .i64 r)),[]):=by
 intro n
 induction n with
 | zero=>intros;rfl
 | succ n ih=>
  intro sC j15
  rw [aG]
  simp -implicitDefEqProofs only [LK,KI,La,mQ,cO,↓syP,syA,rtN,aW,V.pure,nsh,Bb,V.kill,eZ,spl,V.shift,cX,V.scal,lz,av,fI,az,simprocAttr,syQ,mi,dH,cz,bn,aF,eU,da,af,ae,aa,syW,↓syI,xFP,xFM,xF,ip,iF,iw,gU,EH,dh,iN,nY,xR,xA,oh,gX,oA,iD,oj,iy,og,ii,oi,iP,ir,eJ,io,cZ,oB,iC,nN,gV,oe,iB,ov,iu,oo,ig,iQ,eY,Dj,MF,ih]
def bk (k:Nat) (v0:(List Int)):Option Int:=
 aG k v0 (k+8) ((0:Int))
theorem gz (k:Nat) (v0:(List Int)):xC (k+9) none 97 [(.ro (List.map (av .i64) v0)),.fn (Fn.func 173) [] []]=ob (bk k v0) fun r=>some ((.lit (.int .i64 r)),[]):=by
 rw [aD]
 unfold bk
 simp -implicitDefEqProofs only [LK,KI,La,mQ,cO,↓syP,syA,rtN,aW,V.pure,nsh,Bb,V.kill,eZ,spl,V.shift,cX,V.scal,lz,av,fI,az,simprocAttr,syQ,mi,dH,cz,bn,aF,eU,da,af,ae,aa,syW,↓syI,xFP,xFM,xF,ip,iF,iw,gU,EH,dh,iN,nY,xR,xA,oh,gX,oA,iD,oj,iy,og,ii,oi,iP,ir,eJ,io,cZ,oB,iC,nN,gV,oe,iB,ov,iu,oo,ig,iQ,eY,fm k v0]
def a9 (k:Nat) (v0:(List Int)):Option Bool:=
 ob (bk (k+8) v0) fun x24=>
 some (decide ((0:Int)≤x24))
theorem fW (k:Nat) (v0:(List Int)):xC (k+18) none 55 [(.ro (List.map (av .i64) v0)),.fn (Fn.func 173) [] []]=ob (a9 k v0) fun r=>some ((.lit (.bool r)),[]):=by
 rw [aD]
 unfold a9
 simp -implicitDefEqProofs only [Sf,Sk,LK,KI,La,mQ,cO,↓syP,syA,rtN,aW,V.pure,nsh,Bb,V.kill,eZ,spl,V.shift,cX,V.scal,lz,av,fI,az,simprocAttr,syQ,mi,dH,cz,bn,aF,eU,da,af,ae,aa,syW,↓syI,xFP,xFM,xF,ip,iF,iw,gU,EH,dh,iN,nY,xR,xA,oh,gX,oA,iD,oj,iy,og,ii,oi,iP,ir,eJ,io,cZ,oB,iC,nN,gV,oe,iB,ov,iu,oo,ig,iQ,eY,gz]
def kQ (k:Nat) (v0:Tyt) (v1:(List Int)):Option Bool:=
 ob (bW k v0) fun xd=>
 bif xd then
 bif (↑v1.length:Int)==(↑v0.length:Int) then
 ob (a9 (k+1) v1) fun xk=>
 some (!xk)
 else
 some (false)
 else
 some (false)
theorem Gr (k:Nat) (v0:Tyt) (v1:(List Int)):xC (k+20) none 153 [(.ro (List.map ak v0)),(.ro (List.map (av .i64) v1))]=ob (kQ k v0 v1) fun r=>some ((.lit (.bool r)),[]):=by
 rw [aD]
 unfold kQ
 simp -implicitDefEqProofs only [Sf,Sk,LK,KI,La,mQ,cO,akY,ang,abg,abU,IV,ac3,afu,Pk,BR,↓syP,syA,rtN,aW,V.pure,nsh,Bb,V.kill,eZ,spl,V.shift,cX,V.scal,lz,av,fI,az,simprocAttr,syQ,mi,dH,cz,bn,aF,eU,da,af,ae,aa,syW,↓syI,xFP,xFM,xF,ip,iF,iw,gU,EH,dh,iN,nY,xR,xA,oh,gX,oA,iD,oj,iy,og,ii,oi,iP,ir,eJ,io,cZ,oB,iC,nN,gV,oe,iB,ov,iu,oo,ig,iQ,eY,bX,fW]
def gl (v0:Int):Option Bool:=
 bif v0==(1:Int) then
 some (true)
 else
 some (v0==(2:Int))
theorem Dm (k:Nat) (v0:Int):xC (k+1) none 174 [(.lit (.int .i64 v0))]=ob (gl v0) fun r=>some ((.lit (.bool r)),[]):=by
 rw [aD]
 unfold gl
 simp -implicitDefEqProofs only [aer,aeA,Rj,B6,↓syP,syA,rtN,aW,V.pure,nsh,Bb,V.kill,eZ,spl,V.shift,cX,V.scal,lz,av,fI,az,simprocAttr,syQ,mi,dH,cz,bn,aF,eU,da,af,ae,aa,syW,↓syI,xFP,xFM,xF,ip,iF,iw,gU,EH,dh,iN,nY,xR,xA,oh,gX,oA,iD,oj,iy,og,ii,oi,iP,ir,eJ,io,cZ,oB,iC,nN,gV,oe,iB,ov,iu,oo,ig,iQ,eY]
def aH (k:Nat) (v0:(List Int))  : Nat→Int→Option Int
 | 0,_=>none
 | n+1,sX=>
 bif decide (sX<(↑v0.length:Int)) then
 ob (idx v0 sX) fun xh=>
 ob (gl xh) fun xi=>
 bif xi then
 some (sX)
 else
 aH k v0  n (IntKind.i64.wrap (sX+(1:Int)))
 else
 some ((-1:Int))
theorem fo (k:Nat) (v0:(List Int)):∀ (n:Nat) (sX:Int) ⦃j36:V⦄,rt none (itX (xX (xS (k+8)) 97 0 (k+8) false) BG (0) (bF (xX (xS (k+8)) 97 0 (k+8) false) (a7 (xS (k+8)).P Tryz.f97) Cf) n ⟨[.ro (List.map (av IntKind.i64) v0),.fn (Fn.func 174) [] [],uu,uu,.lit (.int .i64 (0:Int)),j36,.ro (List.map (av IntKind.i64) v0),.lit (.int .i64 (↑v0.length:Int)),.lit (.int .i64 sX),.junk,.junk,.junk,.junk,.junk,.junk,.junk,.junk,.junk,.junk],[]⟩)=ob (aH k v0  n sX) fun r=>some ((.lit (.int .i64 r)),[]):=by
 intro n
 induction n with
 | zero=>intros;rfl
 | succ n ih=>
  intro sX j36
  rw [aH]
  simp -implicitDefEqProofs only [LK,KI,La,mQ,cO,↓syP,syA,rtN,aW,V.pure,nsh,Bb,V.kill,eZ,spl,V.shift,cX,V.scal,lz,av,fI,az,simprocAttr,syQ,mi,dH,cz,bn,aF,eU,da,af,ae,aa,syW,↓syI,xFP,xFM,xF,ip,iF,iw,gU,EH,dh,iN,nY,xR,xA,oh,gX,oA,iD,oj,iy,og,ii,oi,iP,ir,eJ,io,cZ,oB,iC,nN,gV,oe,iB,ov,iu,oo,ig,iQ,eY,Dm,MF,ih]
def bl (k:Nat) (v0:(List Int)):Option Int:=
 aH k v0 (k+8) ((0:Int))
theorem gC (k:Nat) (v0:(List Int)):xC (k+9) none 97 [(.ro (List.map (av .i64) v0)),.fn (Fn.func 174) [] []]=ob (bl k v0) fun r=>some ((.lit (.int .i64 r)),[]):=by
 rw [aD]
 unfold bl
 simp -implicitDefEqProofs only [LK,KI,La,mQ,cO,↓syP,syA,rtN,aW,V.pure,nsh,Bb,V.kill,eZ,spl,V.shift,cX,V.scal,lz,av,fI,az,simprocAttr,syQ,mi,dH,cz,bn,aF,eU,da,af,ae,aa,syW,↓syI,xFP,xFM,xF,ip,iF,iw,gU,EH,dh,iN,nY,xR,xA,oh,gX,oA,iD,oj,iy,og,ii,oi,iP,ir,eJ,io,cZ,oB,iC,nN,gV,oe,iB,ov,iu,oo,ig,iQ,eY,fo k v0]
def a8 (k:Nat) (v0:(List Int)):Option Bool:=
 ob (bl (k+8) v0) fun xc=>
 some (decide ((0:Int)≤xc))
theorem fV (k:Nat) (v0:(List Int)):xC (k+18) none 55 [(.ro (List.map (av .i64) v0)),.fn (Fn.func 174) [] []]=ob (a8 k v0) fun r=>some ((.lit (.bool r)),[]):=by
 rw [aD]
 unfold a8
 simp -implicitDefEqProofs only [Sf,Sk,LK,KI,La,mQ,cO,↓syP,syA,rtN,aW,V.pure,nsh,Bb,V.kill,eZ,spl,V.shift,cX,V.scal,lz,av,fI,az,simprocAttr,syQ,mi,dH,cz,bn,aF,eU,da,af,ae,aa,syW,↓syI,xFP,xFM,xF,ip,iF,iw,gU,EH,dh,iN,nY,xR,xA,oh,gX,oA,iD,oj,iy,og,ii,oi,iP,ir,eJ,io,cZ,oB,iC,nN,gV,oe,iB,ov,iu,oo,ig,iQ,eY,gC]
def kP (k:Nat) (v0:(List Int)):Option Bool:=
 ob (a8 k v0) fun x48=>
 some (!x48)
theorem Hz (k:Nat) (v0:(List Int)):xC (k+19) none 154 [(.ro (List.map (av .i64) v0))]=ob (kP k v0) fun r=>some ((.lit (.bool r)),[]):=by
 rw [aD]
 unfold kP
 simp -implicitDefEqProofs only [Sf,Sk,LK,KI,La,mQ,cO,aiT,ajd,aer,aeA,Rj,B6,↓syP,syA,rtN,aW,V.pure,nsh,Bb,V.kill,eZ,spl,V.shift,cX,V.scal,lz,av,fI,az,simprocAttr,syQ,mi,dH,cz,bn,aF,eU,da,af,ae,aa,syW,↓syI,xFP,xFM,xF,ip,iF,iw,gU,EH,dh,iN,nY,xR,xA,oh,gX,oA,iD,oj,iy,og,ii,oi,iP,ir,eJ,io,cZ,oB,iC,nN,gV,oe,iB,ov,iu,oo,ig,iQ,eY,fV]
def iL  : Option Bool:=
 some (true)
theorem CU (k:Nat):xC (k+1) none 177 []=ob (iL ) fun r=>some ((.lit (.bool r)),[]):=by
 rw [aD]
 unfold iL
 simp -implicitDefEqProofs only [aaJ,abm,↓syP,syA,rtN,aW,V.pure,nsh,Bb,V.kill,eZ,spl,V.shift,cX,V.scal,lz,av,fI,az,simprocAttr,syQ,mi,dH,cz,bn,aF,eU,da,af,ae,aa,syW,↓syI,xFP,xFM,xF,ip,iF,iw,gU,EH,dh,iN,nY,xR,xA,oh,gX,oA,iD,oj,iy,og,ii,oi,iP,ir,eJ,io,cZ,oB,iC,nN,gV,oe,iB,ov,iu,oo,ig,iQ,eY]
def b9 (k:Nat)   : Nat→List Int→Int→List Int→Int→Option Int
 | 0,_,_,_,_=>none
 | n+1,sp,su,sI,sH=>
 bif decide (sH<su) then
 ob (idx sp sH) fun xw=>
 ob (idx sI xw) fun xx=>
 bif xx==(0:Int) then
 some (sH)
 else
 b9 k   n (sp) (su) (sI) (IntKind.i64.wrap (sH+(1:Int)))
 else
 some ((-1:Int))
theorem oO (k:Nat)  : ∀ (n:Nat) (sp:List Int) (su:Int) (sI:List Int) (sH:Int) ⦃s83 sw s85:Int⦄ ⦃sL:List Int⦄ ⦃sM:Tyt⦄ ⦃sN:Int⦄ ⦃j92:V⦄,itX (xX (xS (k+18)) 97 0 (k+18) false) BG (9) (bF (xX (xS (k+18)) 97 0 (k+18) false) (a7 (xS (k+18)).P Tryz.f97) Cf) n ⟨[.ro (List.map (av IntKind.i64) sp),.fn (Fn.func 179) [] [.ptr 5 0 0 0],uu,uu,.lit (.int .i64 (0:Int)),j92,.ro (List.map (av IntKind.i64) sp),.lit (.int .i64 su),.lit (.int .i64 sH),.junk,.junk,.junk,.junk,.junk,.junk,.junk,.junk,.junk,.junk],[.box [.lit (.int .i64 s83),.lit (.int .i64 sw),.lit (.int .i64 s85)],.rows 0 [] 0 true,.rows 1 (List.map (av IntKind.i64) sL) 0 true,.box [.lit (.int .i64 (2:Int)),.lit (.int .i64 (3:Int)),.fn (Fn.func 178) [] [.ptr 4 0 0 0,.ptr 6 0 0 0,.ptr 5 0 0 0]],.box [.ro (List.map ak sM)],.box [.ro (List.map (av IntKind.i64) sI)],.box [.lit (.int .i64 sw)],.box [.lit (.int .i64 sN)],.map [(Value.int IntKind.i64 (0:Int),.agg [.lit (.int .i64 (0:Int)),.lit (.int .i64 (1:Int)),.fn (Fn.func 175) [] [.ptr 7 0 0 0]]),(Value.int IntKind.i64 (1:Int),.agg [.lit (.int .i64 (0:Int)),.lit (.int .i64 (0:Int)),.fn (Fn.func 175) [] [.ptr 7 0 0 0]]),(Value.int IntKind.i64 (3:Int),.agg [.lit (.int .i64 (0:Int)),.lit (.int .i64 (1:Int)),.fn (Fn.func 176) [] [.ptr 7 0 0 0,.ptr 5 0 0 0]]),(Value.int IntKind.i64 (2:Int),.agg [.lit (.int .i64 (1:Int)),.lit (.int .i64 (2:Int)),.fn (Fn.func 177) [] []]),(Value.int IntKind.i64 (4:Int),.agg [.lit (.int .i64 (2:Int)),.lit (.int .i64 (3:Int)),.fn (Fn.func 178) [] [.ptr 4 0 0 0,.ptr 6 0 0 0,.ptr 5 0 0 0]])]]⟩=ob (b9 k   n sp su sI sH) fun r=>some ((.lit (.int .i64 r),[.box [.lit (.int .i64 s83),.lit (.int .i64 sw),.lit (.int .i64 s85)],.rows 0 [] 0 true,.rows 1 (List.map (av IntKind.i64) sL) 0 true,.box [.lit (.int .i64 (2:Int)),.lit (.int .i64 (3:Int)),.fn (Fn.func 178) [] [.ptr 4 0 0 0,.ptr 6 0 0 0,.ptr 5 0 0 0]],.box [.ro (List.map ak sM)],.box [.ro (List.map (av IntKind.i64) sI)],.box [.lit (.int .i64 sw)],.box [.lit (.int .i64 sN)],.map [(Value.int IntKind.i64 (0:Int),.agg [.lit (.int .i64 (0:Int)),.lit (.int .i64 (1:Int)),.fn (Fn.func 175) [] [.ptr 7 0 0 0]]),(Value.int IntKind.i64 (1:Int),.agg [.lit (.int .i64 (0:Int)),.lit (.int .i64 (0:Int)),.fn (Fn.func 175) [] [.ptr 7 0 0 0]]),(Value.int IntKind.i64 (3:Int),.agg [.lit (.int .i64 (0:Int)),.lit (.int .i64 (1:Int)),.fn (Fn.func 176) [] [.ptr 7 0 0 0,.ptr 5 0 0 0]]),(Value.int IntKind.i64 (2:Int),.agg [.lit (.int .i64 (1:Int)),.lit (.int .i64 (2:Int)),.fn (Fn.func 177) [] []]),(Value.int IntKind.i64 (4:Int),.agg [.lit (.int .i64 (2:Int)),.lit (.int .i64 (3:Int)),.fn (Fn.func 178) [] [.ptr 4 0 0 0,.ptr 6 0 0 0,.ptr 5 0 0 0]])]])):=by
 intro n
 induction n with
 | zero=>intros;rfl
 | succ n ih=>
  intro sp su sI sH s83 sw s85 sL sM sN j92
  rw [b9]
  simp -implicitDefEqProofs only [Sf,Sk,LK,KI,La,mQ,cO,agI,afR,RP,O2,Se,Br,BS,ahH,agY,aD (g:=155),agX,aey,ad2,aeq,R7,Bs,aaJ,abm,ag3,ahh,adu,adj,↓syP,syA,rtN,aW,V.pure,nsh,Bb,V.kill,eZ,spl,V.shift,cX,V.scal,lz,av,fI,az,simprocAttr,syQ,mi,dH,cz,bn,aF,eU,da,af,ae,aa,syW,↓syI,xFP,xFM,xF,ip,iF,iw,gU,EH,dh,iN,nY,xR,xA,oh,gX,oA,iD,oj,iy,og,ii,oi,iP,ir,eJ,io,cZ,oB,iC,nN,gV,oe,iB,ov,iu,oo,ig,iQ,eY,MF,ih]
def kY (k:Nat) (v0:Tyt) (v1:(List Int)) (v2:(Int×Int×Int)):Option ((List Int)×Bool):=
 ob (aN 8 v1) fun xE=>
 ob (kQ (k+1) v0 v1) fun xy=>
 bif !xy then
 some ((xE),(false))
 else
 bif v2.1==(5:Int) then
 ob (kP (k+2) v1) fun xz=>
 some ((xE),(xz))
 else
 bif decide (v2.2.1<(0:Int)) then
 some ((xE),(false))
 else
 bif decide ((↑v0.length:Int)≤v2.2.1) then
 some ((xE),(false))
 else
 ob (eo k v0 v2.2.1) fun xb=>
 bif v2.1==(0:Int) then
 ob (idx v1 v2.2.1) fun x125=>
 bif x125 !=(0:Int) then
 some ((xE),(false))
 else
 bif !decide (xb<(0:Int)) then
 some ((xE),(false))
 else
 bif decide ((0:Int)≤v2.2.1∧v2.2.1.toNat<xE.length) then
 ob (xE[v2.2.1.toNat]?) fun x126=>
 some ((xE.set v2.2.1.toNat (1:Int)),(true))
 else
 none
 else
 bif v2.1==(1:Int) then
 ob (idx v1 v2.2.1) fun x127=>
 bif x127 !=(0:Int) then
 some ((xE),(false))
 else
 bif !decide (xb<(0:Int)) then
 some ((xE),(false))
 else
 bif decide ((0:Int)≤v2.2.1∧v2.2.1.toNat<xE.length) then
 ob (xE[v2.2.1.toNat]?) fun x128=>
 some ((xE.set v2.2.1.toNat (0:Int)),(true))
 else
 none
 else
 bif v2.1==(3:Int) then
 ob (idx v1 v2.2.1) fun x129=>
 bif x129 !=(0:Int) then
 some ((xE),(false))
 else
 bif decide ((0:Int)≤xb) then
 ob (idx v1 xb) fun x130=>
 bif !x130==(2:Int) then
 some ((xE),(false))
 else
 bif decide ((0:Int)≤v2.2.1∧v2.2.1.toNat<xE.length) then
 ob (xE[v2.2.1.toNat]?) fun x131=>
 some ((xE.set v2.2.1.toNat (1:Int)),(true))
 else
 none
 else
 some ((xE),(false))
 else
 bif v2.1==(2:Int) then
 ob (idx v1 v2.2.1) fun x132=>
 bif x132 !=(1:Int) then
 some ((xE),(false))
 else
 ob (iL) fun x133=>
 bif !x133 then
 some ((xE),(false))
 else
 bif decide ((0:Int)≤v2.2.1∧v2.2.1.toNat<xE.length) then
 ob (xE[v2.2.1.toNat]?) fun x134=>
 some ((xE.set v2.2.1.toNat (2:Int)),(true))
 else
 none
 else
 bif v2.1==(4:Int) then
 ob (idx v1 v2.2.1) fun x135=>
 bif x135 !=(2:Int) then
 some ((xE),(false))
 else
 ob (idx v0 v2.2.1) fun xl=>
 ob (b9 k (k+18) xl.2 (↑xl.2.length:Int) v1 (0:Int)) fun x137=>
 bif !!decide ((0:Int)≤x137) then
 some ((xE),(false))
 else
 bif decide ((0:Int)≤v2.2.1∧v2.2.1.toNat<xE.length) then
 ob (xE[v2.2.1.toNat]?) fun x138=>
 some ((xE.set v2.2.1.toNat (3:Int)),(true))
 else
 none
 else
 some ((xE),(false))
theorem Hy (k:Nat) (v0:Tyt) (v1:(List Int)) (v2_0 v2_1 v2_2:Int):xC (k+22) none 115 [(.ro (List.map ak v0)),(.ro (List.map (av .i64) v1)),(.agg [(.lit (.int .i64 v2_0)),(.lit (.int .i64 v2_1)),(.lit (.int .i64 v2_2))])]=ob (kY k v0 v1 (v2_0,v2_1,v2_2)) fun r=>some ((.tup [(.ro (List.map (av .i64) r.1)),(.lit (.bool r.2))]),[]):=by
 rw [aD]
 unfold kY
 simp -implicitDefEqProofs only [Sf,Sk,LK,KI,La,mQ,cO,agI,afR,RP,O2,Se,Br,BS,ahH,agY,aD (g:=155),agX,aey,ad2,aeq,R7,Bs,aaJ,abm,ag3,ahh,adu,adj,↓syP,syA,rtN,aW,V.pure,nsh,Bb,V.kill,eZ,spl,V.shift,cX,V.scal,lz,av,fI,az,simprocAttr,syQ,mi,dH,cz,bn,aF,eU,da,af,ae,aa,syW,↓syI,xFP,xFM,xF,ip,iF,iw,gU,EH,dh,iN,nY,xR,xA,oh,gX,oA,iD,oj,iy,og,ii,oi,iP,ir,eJ,io,cZ,oB,iC,nN,gV,oe,iB,ov,iu,oo,ig,iQ,eY,oV,Gr,Hz,CU,oO]
def dW (k:Nat) (v0:Tyt) (v1:Tye)  : Nat→List Int→Bool→Int→Option ((List Int)×Bool)
 | 0,_,_,_=>none
 | n+1,s6,sq,sa=>
 bif decide (sa<(↑v1.length:Int)) then
 ob (idx v1 sa) fun xf=>
 ob (kY k v0 s6 (xf.1,xf.2.1,xf.2.2)) fun xJ=>
 bif !xJ.2 then
 some ((xJ.1),(xJ.2))
 else
 dW k v0 v1  n (xJ.1) (xJ.2) (IntKind.i64.wrap (sa+(1:Int)))
 else
 some ((s6),(sq))
theorem ww (k:Nat) (v0:Tyt) (v1:Tye):∀ (n:Nat) (s6:List Int) (sq:Bool) (sa:Int) ⦃s162:List Int⦄ ⦃j161:V⦄,rt none (itX (xX (xS (k+22)) 75 0 (k+22) false) LH (1) (bF (xX (xS (k+22)) 75 0 (k+22) false) (a7 (xS (k+22)).P Tryz.f75) MD) n ⟨[.ro (List.map ak v0),.ro (List.map az v1),uu,uu,.own 0 0 0,.lit (.bool false),.ro (List.map (av IntKind.i64) s6),.lit (.bool sq),uu,j161,.ro (List.map ak v0),.ro (List.map (av IntKind.i64) s162),.ro (List.map az v1),.lit (.int .i64 (↑v1.length:Int)),.lit (.int .i64 sa),.junk,.junk,.junk,.junk,.junk,.junk,.junk,.junk,.junk,.junk,.junk,.junk,.junk,uu,uu],[.rows 0 [] 0 true]⟩)=ob (dW k v0 v1  n s6 sq sa) fun r=>some ((.tup [(.ro (List.map (av .i64) r.1)),(.lit (.bool r.2))]),[]):=by
 intro n
 induction n with
 | zero=>intros;rfl
 | succ n ih=>
  intro s6 sq sa s162 j161
  rw [dW]
  simp -implicitDefEqProofs only [apH,apf,ao8,W4,DX,↓syP,syA,rtN,aW,V.pure,nsh,Bb,V.kill,eZ,spl,V.shift,cX,V.scal,lz,av,fI,az,simprocAttr,syQ,mi,dH,cz,bn,aF,eU,da,af,ae,aa,syW,↓syI,xFP,xFM,xF,ip,iF,iw,gU,EH,dh,iN,nY,xR,xA,oh,gX,oA,iD,oj,iy,og,ii,oi,iP,ir,eJ,io,cZ,oB,iC,nN,gV,oe,iB,ov,iu,oo,ig,iQ,eY,Ba,Hy,afJ,ih]
def mz (k:Nat) (v0:Tyt) (v1:Tye):Option ((List Int)×Bool):=
 ob (mq (k+2) v0) fun x171=>
 dW k v0 v1 (k+22) (x171) (true) ((0:Int))
theorem Js (k:Nat) (v0:Tyt) (v1:Tye):xC (k+23) none 75 [(.ro (List.map ak v0)),(.ro (List.map az v1))]=ob (mz k v0 v1) fun r=>some ((.tup [(.ro (List.map (av .i64) r.1)),(.lit (.bool r.2))]),[]):=by
 rw [aD]
 unfold mz
 simp -implicitDefEqProofs only [apH,apf,ao8,W4,DX,↓syP,syA,rtN,aW,V.pure,nsh,Bb,V.kill,eZ,spl,V.shift,cX,V.scal,lz,av,fI,az,simprocAttr,syQ,mi,dH,cz,bn,aF,eU,da,af,ae,aa,syW,↓syI,xFP,xFM,xF,ip,iF,iw,gU,EH,dh,iN,nY,xR,xA,oh,gX,oA,iD,oj,iy,og,ii,oi,iP,ir,eJ,io,cZ,oB,iC,nN,gV,oe,iB,ov,iu,oo,ig,iQ,eY,Ba,ww k v0 v1]
def eg (k:Nat) (v0:Tyt) (v1:Tye):Option Bool:=
 ob (mz k v0 v1) fun x175=>
 bif x175.2 then
 ob (bW (k+4) v0) fun x176=>
 some (x176)
 else
 some (false)
theorem BZ (k:Nat) (v0:Tyt) (v1:Tye):xC (k+24) none 40 [(.ro (List.map ak v0)),(.ro (List.map az v1))]=ob (eg k v0 v1) fun r=>some ((.lit (.bool r)),[]):=by
 rw [aD]
 unfold eg
 simp -implicitDefEqProofs only [aqO,aqR,ad7,Ox,↓syP,syA,rtN,aW,V.pure,nsh,Bb,V.kill,eZ,spl,V.shift,cX,V.scal,lz,av,fI,az,simprocAttr,syQ,mi,dH,cz,bn,aF,eU,da,af,ae,aa,syW,↓syI,xFP,xFM,xF,ip,iF,iw,gU,EH,dh,iN,nY,xR,xA,oh,gX,oA,iD,oj,iy,og,ii,oi,iP,ir,eJ,io,cZ,oB,iC,nN,gV,oe,iB,ov,iu,oo,ig,iQ,eY,bX,Js]
end Go.Ab
set_option maxRecDepth 100000
set_option linter.unusedVariables false
set_option linter.unusedSimpArgs false
namespace Go.Ab
open Go.Proofs
def kC (k:Nat) (v0:Typ)  : Nat→Int→Int→Option Int
 | 0,_,_=>none
 | n+1,s4,s6=>
 bif decide (s6<(↑v0.2.2.2.2.length:Int)) then
 ob (idx v0.2.2.2.2 s6) fun xU=>
 kC k v0  n (IntKind.i64.wrap (s4+(↑xU.2.1.length:Int))) (IntKind.i64.wrap (s6+(1:Int)))
 else
 ob (fh k ((v0.1.1,v0.1.2.1,v0.1.2.2.1,v0.1.2.2.2),v0.2.1,v0.2.2.1,v0.2.2.2.1,v0.2.2.2.2)) fun xg=>
 bif !xg then
 some ((0:Int))
 else
 some (s4)
theorem wc (k:Nat) (v0_0_0 v0_0_1 v0_0_2 v0_0_3:Int) (v0_1:Tyt) (v0_2:List Int) (v0_3:List Tyw) (v0_4:List Tys):∀ (n:Nat) (s4 s6:Int) ⦃j5:V⦄,rt none (itX (xX (xS (k+35)) 39 0 (k+35) false) Mo (1) (bF (xX (xS (k+35)) 39 0 (k+35) false) (a7 (xS (k+35)).P Tryz.f39) LX) n ⟨[.agg [.lit (.int .i64 v0_0_0),.lit (.int .i64 v0_0_1),.lit (.int .i64 v0_0_2),.lit (.int .i64 v0_0_3),.ro (List.map ak v0_1),.ro (List.map (av IntKind.u64) v0_2),.ro (List.map aF v0_3),.ro (List.map bn v0_4)],.ptr 0 0 0 0,.lit (.int .i64 (0:Int)),.lit (.int .i64 s4),uu,j5,.ptr 0 0 0 7,.ro (List.map bn v0_4),.lit (.int .i64 (↑v0_4.length:Int)),.lit (.int .i64 s6),.junk,.junk,.junk,.junk,.junk,.junk,.junk,.junk,.junk,uu,uu,uu,uu],[.box [.lit (.int .i64 v0_0_0),.lit (.int .i64 v0_0_1),.lit (.int .i64 v0_0_2),.lit (.int .i64 v0_0_3),.ro (List.map ak v0_1),.ro (List.map (av IntKind.u64) v0_2),.ro (List.map aF v0_3),.ro (List.map bn v0_4)]]⟩)=ob (kC k ((v0_0_0,v0_0_1,v0_0_2,v0_0_3),v0_1,v0_2,v0_3,v0_4)  n s4 s6) fun r=>some ((.lit (.int .i64 r)),[]):=by
 intro n
 induction n with
 | zero=>intros;rfl
 | succ n ih=>
  intro s4 s6 j5
  rw [kC]
  simp -implicitDefEqProofs only [apu,apa,aoW,Xk,Ek,↓syI,↓syP,syA,syD,simprocAttr,syE,af,ae,aa,syW,xFP,r6,yI,xQ,eu,aeo,ih]
def BX (k:Nat) (v0:Typ):Option Int:=
 kC k v0 (k+35) ((0:Int)) ((0:Int))
theorem JY (k:Nat) (v0_0_0 v0_0_1 v0_0_2 v0_0_3:Int) (v0_1:Tyt) (v0_2:List Int) (v0_3:List Tyw) (v0_4:List Tys):xC (k+36) none 39 [.agg [.lit (.int .i64 v0_0_0),.lit (.int .i64 v0_0_1),.lit (.int .i64 v0_0_2),.lit (.int .i64 v0_0_3),.ro (List.map ak v0_1),.ro (List.map (av .u64) v0_2),.ro (List.map aF v0_3),.ro (List.map bn v0_4)]]=ob (BX k ((v0_0_0,v0_0_1,v0_0_2,v0_0_3),v0_1,v0_2,v0_3,v0_4)) fun r=>some ((.lit (.int .i64 r)),[]):=by
 rw [aD]
 unfold BX
 simp -implicitDefEqProofs only [apu,apa,aoW,Xk,Ek,↓syI,↓syP,syA,syD,simprocAttr,syE,af,ae,aa,syW,xFP,r6,yI,xQ,wc k v0_0_0 v0_0_1 v0_0_2 v0_0_3 v0_1 v0_2 v0_3 v0_4]
end Go.Ab
set_option maxRecDepth 100000
set_option linter.unusedVariables false
set_option linter.unusedSimpArgs false
namespace Go.Ab
open Go.Proofs
end Go.Ab
set_option maxRecDepth 100000
set_option maxHeartbeats 4000000
set_option linter.unusedVariables false
set_option linter.unusedSimpArgs false
namespace Go.Ab
open Go.Proofs
abbrev axA:Typ:=
 ((1,1,1,0),[(1,[])],[0,0,0,0,0,0,0,0,0,0,0,0],[(0,[],(1,0,0,0,0,0,0),0,0)],[(0,[0],0,0,0,0,0,0,0)])
abbrev axE:Typ:=
 ((1,1,1,0),[(1,[])],[0,0,65537,0,1,1,2,0,0,0,0,0],[(8,[],(5,3,0,0,65536,65536,0),0,0)],[(0,[],0,0,0,0,0,0,0)])
abbrev axL:Tye:=[(0,0,0),(2,0,0),(4,0,0),(5,0,0)]
section
variable (j:Nat)
theorem aqx:xC (j+91) none 34 [.agg [.lit (.int .i64 1),.lit (.int .i64 1),.lit (.int .i64 1),.lit (.int .i64 0)],.ro (List.map ak [(1,[])]),.ro (List.map cz [[0]]),.nil] =
  some (.tup [.agg [.lit (.int .i64 1),.lit (.int .i64 1),.lit (.int .i64 1),.lit (.int .i64 0),.ro (List.map ak [(1,[])]),.ro (List.map (av .u64) [0,0,0,0,0,0,0,0,0,0,0,0]),.ro (List.map aF [(0,[],(1,0,0,0,0,0,0),0,0)]),.ro (List.map bn [(0,[0],0,0,0,0,0,0,0)])],.ro [],.lit (.bool true)],[]):=by kernel_rfl
theorem axD:fA (j+1) axA 500=some (axE,axL,38):=by kernel_rfl
theorem aq5:xC (j+91) none 36 [.agg [.lit (.int .i64 1),.lit (.int .i64 1),.lit (.int .i64 1),.lit (.int .i64 0),.ro (List.map ak [(1,[])]),.ro (List.map (av .u64) [0,0,0,0,0,0,0,0,0,0,0,0]),.ro (List.map aF [(0,[],(1,0,0,0,0,0,0),0,0)]),.ro (List.map bn [(0,[0],0,0,0,0,0,0,0)])],.lit (.int .i64 500)]=some (.tup [.agg [.lit (.int .i64 1),.lit (.int .i64 1),.lit (.int .i64 1),.lit (.int .i64 0),.ro (List.map ak [(1,[])]),.ro (List.map (av .u64) [0,0,65537,0,1,1,2,0,0,0,0,0]),.ro (List.map aF [(8,[],(5,3,0,0,65536,65536,0),0,0)]),.ro (List.map bn [(0,[],0,0,0,0,0,0,0)])],.ro (List.map az [(0,0,0),(2,0,0),(4,0,0),(5,0,0)]),.lit (.int .i64 38)],[]):=by
 refine (Ak (j+1) _ _ _ _ _ _ _ _ _).trans ?_
 show ob (fA (j+1) axA 500) _=_
 rw [axD,ab]
theorem aqf:xC (j+91) none 37 [.ro (List.map ak [(1,[])]),.ro (List.map az [(0,0,0),(2,0,0),(4,0,0),(5,0,0)])]=some (.tup [.lit (.int .i64 1),.lit (.int .i64 0),.lit (.int .i64 1)],[]):=(Hi (j+90) [(1,[])] axL).trans (by kernel_rfl)
theorem ari:xC (j+91) none 39 [.agg [.lit (.int .i64 1),.lit (.int .i64 1),.lit (.int .i64 1),.lit (.int .i64 0),.ro (List.map ak [(1,[])]),.ro (List.map (av .u64) [0,0,0,0,0,0,0,0,0,0,0,0]),.ro (List.map aF [(0,[],(1,0,0,0,0,0,0),0,0)]),.ro (List.map bn [(0,[0],0,0,0,0,0,0,0)])]]=some (.lit (.int .i64 1),[]):=(JY (j+55) _ _ _ _ _ _ _ _).trans (by kernel_rfl)
theorem ap6:xC (j+91) none 29 [.agg [.lit (.int .i64 1),.lit (.int .i64 1),.lit (.int .i64 1),.lit (.int .i64 0),.ro (List.map ak [(1,[])]),.ro (List.map (av .u64) [0,0,65537,0,1,1,2,0,0,0,0,0]),.ro (List.map aF [(8,[],(5,3,0,0,65536,65536,0),0,0)]),.ro (List.map bn [(0,[],0,0,0,0,0,0,0)])]]=some (.lit (.bool true),[]):=(ue (j+54) _ _ _ _ _ _ _ _).trans (by kernel_rfl)
theorem aqS:xC (j+91) none 35 [.agg [.lit (.int .i64 1),.lit (.int .i64 1),.lit (.int .i64 1),.lit (.int .i64 0),.ro (List.map ak [(1,[])]),.ro (List.map (av .u64) [0,0,0,0,0,0,0,0,0,0,0,0]),.ro (List.map aF [(0,[],(1,0,0,0,0,0,0),0,0)]),.ro (List.map bn [(0,[0],0,0,0,0,0,0,0)])],.nil]=some (.lit (.bool true),[]):=by kernel_rfl
end
theorem aeb (j:Nat):xC (j+92) none 33 []=some (.lit (.bool true),[]):=by
 rw [aD]
 simp -implicitDefEqProofs only [aqg,apX,ahl,adc,agt,agQ,adF,ahg,af1,ae3,adJ,aeW,aaD,MV,↓syI,↓syP,syA,syD,simprocAttr,syE,af,ae,aa,syW,xQ,xFP,List.length_cons,List.length_nil,aqx,aq5,aqf,ari,ap6,aqS,decide_true,decide_false,cond_true,cond_false]
 rfl
end Go.Ab
