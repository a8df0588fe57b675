import Derived.Test.YtblpbpnilkfjhaaGreatR6GX
import Derived.Test.YtblpbpnilkfjhaaGreatR6BP
import Derived.Test.YtblpbpnilkfjhaaGreatR6BX
import Derived.Test.YtblpbpnilkfjhaaGreatR6BY
import Derived.Test.YtblpbpnilkfjhaaGreatR6BA
set_option linter.unusedVariables false
set_option linter.unusedSimpArgs false
set_option maxRecDepth 100000
set_option linter.unusedVariables false
set_option linter.unusedSimpArgs false
namespace Go.Ab
open Go.Proofs
def gI (v0:(Int×Int×Int)) (v1:Int) (v2:Int):Option Bool:=
 bif v0.1==0 then
 ob (cR v0.2.1 v1) fun x4=>
 bif x4 then
 some true
 else
 bif v0.1==1 then
 ob (cR v0.2.1 v2) fun x5=>
 bif x5 then
 some true
 else
 bif v0.1==2 then
 some true
 else
 some (v0.1==3)
 else
 bif v0.1==2 then
 some true
 else
 some (v0.1==3)
 else
 bif v0.1==1 then
 ob (cR v0.2.1 v2) fun x6=>
 bif x6 then
 some true
 else
 bif v0.1==2 then
 some true
 else
 some (v0.1==3)
 else
 bif v0.1==2 then
 some true
 else
 some (v0.1==3)
theorem CN (k:Nat) (v0_0 v0_1 v0_2 v1 v2:Int):xC (k+2) none 42 [.agg [.lit (.int .i64 v0_0),.lit (.int .i64 v0_1),.lit (.int .u64 v0_2)],.lit (.int .i64 v1),.lit (.int .i64 v2)]=ob (gI (v0_0,v0_1,v0_2) v1 v2) fun r=>some ((.lit (.bool r)),[]):=by
 rw [aN]
 unfold gI
 simp (maxSteps:=2000000) -implicitDefEqProofs only [aex,aeh,OF,Od,Oq,Ok,PD,Py,Pi,O6,OM,ub,↓syP,syA,syD,simprocAttr,syE,ah,ag,af,syW,xQ,nT]
 all_goals simp -implicitDefEqProofs only [List.map_nil]
def cU (k : Nat) (v0 : (List Int)) (v1 : (List Int))  : Nat → Int → Option Bool
 | 0,_ => none
 | n + 1,s14 =>
 bif decide (s14 < (↑v0.length : Int)) then
 bif !(↑v0.length : Int) == (↑v1.length : Int) then
 some (false)
 else
 ob (idx v0 s14) fun x19 =>
 ob (idx v1 s14) fun x20 =>
 bif x19 != x20 then
 some (false)
 else
 cU k v0 v1  n (IntKind.i64.wrap (s14 + (1 : Int)))
 else
 some ((↑v0.length : Int) == (↑v1.length : Int))
theorem nn (k:Nat) (v0 v1:List Int):∀ (n:Nat) (s14:Int) ⦃j13:V⦄,rt none (itX (xX (xS k) 45 0 k false) nR (0) (au (xX (xS k) 45 0 k false) (av (xS k).P Tryz.f45) Fe) n ⟨[.ro (List.map (aQ IntKind.u64) v0),.ro (List.map (aQ IntKind.u64) v1),uu,uu,.lit (.bool false),.lit (.bool ((↑v0.length:Int)==(↑v1.length:Int))),j13,.ro (List.map (aQ IntKind.u64) v0),.lit (.int .i64 (↑v0.length:Int)),.ro (List.map (aQ IntKind.u64) v1),.lit (.int .i64 (↑v1.length:Int)),.lit (.bool ((↑v0.length:Int)==(↑v1.length:Int))),.ro (List.map (aQ IntKind.u64) v0),.lit (.int .i64 (↑v0.length:Int)),.lit (.int .i64 s14),.junk,.junk,.junk,.junk,.junk,.junk,.junk,.junk,.junk,.junk,.junk,.junk,.junk,.junk,.junk,.junk,uu],[]⟩)=ob (cU k v0 v1  n s14) fun r=>some ((.lit (.bool r)),[]):=by
 intro n
 induction n with
 | zero=>intros;rfl
 | succ n ih=>
  intro s14 j13
  rw [cU]
  simp (maxSteps:=2000000) -implicitDefEqProofs only [ad6,abG,abv,Jg,JS,nA,nr,↓syP,syA,syD,simprocAttr,syE,ah,ag,af,syW,xQ,Of,ih]
  all_goals simp -implicitDefEqProofs only [List.map_nil]
def gR (k:Nat) (v0:(List Int)) (v1:(List Int)):Option Bool:=
 cU k v0 v1 k 0
theorem CJ (k:Nat) (v0 v1:List Int):xC (k+1) none 45 [.ro (List.map (aQ .u64) v0),.ro (List.map (aQ .u64) v1)]=ob (gR k v0 v1) fun r=>some ((.lit (.bool r)),[]):=by
 rw [aN]
 unfold gR
 simp (maxSteps:=2000000) -implicitDefEqProofs only [ad6,abG,abv,Jg,JS,nA,nr,↓syP,syA,syD,simprocAttr,syE,ah,ag,af,syW,xQ,nn k v0 v1]
 all_goals simp -implicitDefEqProofs only [List.map_nil]
def cA (k:Nat) (v0:Tyt)  : Nat→Tyt→Int→Int→Tyt→Option Tyt
 | 0,_,_,_,_=>none
 | n+1,s23,s24,s30,s31=>
 bif decide (s30<s24) then
 bif decide ((0:Int)≤s30∧s30.toNat<s23.length) then
 ob (s31[s30.toNat]?) fun x39=>
 ob (aK 8 x39.2) fun x40=>
 bif decide ((0:Int)≤s30∧s30.toNat<s23.length) then
 ob (s31[s30.toNat]?) fun x41=>
 cA k v0  n (s23) (s24) (IntKind.i64.wrap (s30+(1:Int))) (s31.set s30.toNat (x41.1,x40))
 else
 none
 else
 none
 else
 ck (decide (s23.length≤s31.length)) (
 some (List.take s23.length s31))
theorem mX (k:Nat) (v0:Tyt):∀ (n:Nat) (s23:Tyt) (s24:Int) (s30:Int) (s31:Tyt) ⦃j29:V⦄,rt none (itX (xX (xS (k+1)) 58 0 (k+1) false) DR (2) (au (xX (xS (k+1)) 58 0 (k+1) false) (av (xS (k+1)).P Tryz.f58) DL) n ⟨[.ro (List.map aA v0),uu,.own 0 0 0,.own 1 0 s23.length,j29,.ro (List.map aA v0),.own 1 0 s23.length,.own 1 0 s23.length,.lit (.int .i64 s24),.lit (.int .i64 s30),.junk,.junk,.junk,.junk,.junk,.junk,.junk,.junk,.junk,.junk,.junk,.junk,.junk,uu],[.rows 0 [] 0 true,.rows 2 (List.map aA s31) 0 true]⟩)=ob (cA k v0  n s23 s24 s30 s31) fun r=>some ((.ro (List.map aA r)),[]):=by
 intro n
 induction n with
 | zero=>intros;rfl
 | succ n ih=>
  intro s23 s24 s30 s31 j29
  rw [cA]
  simp (maxSteps:=2000000) -implicitDefEqProofs only [aeq,ab9,acm,H0,ni,↓syP,syA,syD,simprocAttr,syE,ah,ag,af,syW,xQ,OO,ih]
  all_goals simp -implicitDefEqProofs only [List.map_nil]
def fG (k:Nat) (v0:Tyt):Option Tyt:=
 ob (aK 32 v0) fun x42=>
 cA k v0 (k+1) x42 ((↑x42.length:Int)) 0 x42
theorem nY (k:Nat) (v0:Tyt):xC (k+2) none 58 [.ro (List.map aA v0)]=ob (fG k v0) fun r=>some ((.ro (List.map aA r)),[]):=by
 rw [aN]
 unfold fG
 simp (maxSteps:=2000000) -implicitDefEqProofs only [aeq,ab9,acm,H0,ni,↓syP,syA,syD,simprocAttr,syE,ah,ag,af,syW,xQ,mX k v0]
 all_goals simp -implicitDefEqProofs only [List.map_nil]
end Go.Ab
set_option maxRecDepth 100000
set_option linter.unusedVariables false
set_option linter.unusedSimpArgs false
namespace Go.Ab
open Go.Proofs
def bO (k:Nat)   : Nat→List Int→Int→Tyt→Int→Option Int
 | 0,_,_,_,_=>none
 | n+1,s20,s21,s26,s40=>
 bif decide (s40<s21) then
 ob (idx s20 s40) fun x46=>
 bif decide (x46<(0:Int)) then
 some (s40)
 else
 bif decide ((↑s26.length:Int)≤x46) then
 some (s40)
 else
 bO k   n (s20) (s21) (s26) (IntKind.i64.wrap (s40+(1:Int)))
 else
 some ((-1:Int))
theorem mf (k:Nat)  : ∀ (n:Nat) (s20:List Int) (s21:Int) (s26:Tyt) (s40:Int) ⦃s22:Int⦄ ⦃s23:Int⦄ ⦃s24:Int⦄ ⦃s25:Int⦄ ⦃s27:List Int⦄ ⦃s28:List Tyw⦄ ⦃s29:List Tys⦄ ⦃s30:Int⦄ ⦃s31:Int⦄ ⦃s32:Int⦄ ⦃s33:Int⦄ ⦃s34:Int⦄ ⦃s35:Int⦄ ⦃s36:Int⦄ ⦃s37:Int⦄ ⦃j39:V⦄,itX (xX (xS (k+29)) 97 0 (k+29) false) DP (4) (au (xX (xS (k+29)) 97 0 (k+29) false) (av (xS (k+29)).P Tryz.f97) EX) n ⟨[.ro (List.map (aQ IntKind.i64) s20),.fn (Fn.func (54:FuncId)) [] [.ptr 0 0 0 0],uu,uu,.lit (.int .i64 (0:Int)),j39,.ro (List.map (aQ IntKind.i64) s20),.lit (.int .i64 s21),.lit (.int .i64 s40),.junk,.junk,.junk,.junk,.junk,.junk,.junk,.junk,.junk,.junk],[.box [.lit (.int .i64 s22),.lit (.int .i64 s23),.lit (.int .i64 s24),.lit (.int .i64 s25),.ro (List.map aA s26),.ro (List.map (aQ IntKind.u64) s27),.ro (List.map aY s28),.ro (List.map cG s29)],.box [.lit (.bool false)],.box [.lit (.int .i64 s22),.lit (.int .i64 s23),.lit (.int .i64 s24),.lit (.int .i64 s25),.ro (List.map aA s26),.ro (List.map (aQ IntKind.u64) s27),.ro (List.map aY s28),.ro (List.map cG s29)],.box [.lit (.int .i64 s30),.ro (List.map (aQ IntKind.i64) s20),.lit (.int .i64 s31),.lit (.int .i64 s32),.lit (.int .i64 s33),.lit (.int .u64 s34),.lit (.int .u64 s35),.lit (.int .u64 s36),.lit (.int .i64 s37)]]⟩=ob (bO k   n s20 s21 s26 s40) fun r=>some ((.lit (.int .i64 r),[.box [.lit (.int .i64 s22),.lit (.int .i64 s23),.lit (.int .i64 s24),.lit (.int .i64 s25),.ro (List.map aA s26),.ro (List.map (aQ IntKind.u64) s27),.ro (List.map aY s28),.ro (List.map cG s29)],.box [.lit (.bool false)],.box [.lit (.int .i64 s22),.lit (.int .i64 s23),.lit (.int .i64 s24),.lit (.int .i64 s25),.ro (List.map aA s26),.ro (List.map (aQ IntKind.u64) s27),.ro (List.map aY s28),.ro (List.map cG s29)],.box [.lit (.int .i64 s30),.ro (List.map (aQ IntKind.i64) s20),.lit (.int .i64 s31),.lit (.int .i64 s32),.lit (.int .i64 s33),.lit (.int .u64 s34),.lit (.int .u64 s35),.lit (.int .u64 s36),.lit (.int .i64 s37)]])):=by
 intro n
 induction n with
 | zero=>intros;rfl
 | succ n ih=>
  intro s20 s21 s26 s40 s22 s23 s24 s25 s27 s28 s29 s30 s31 s32 s33 s34 s35 s36 s37 j39
  rw [bO]
  simp (maxSteps:=2000000) -implicitDefEqProofs only [ZN,U2,Y1,AH,Bv,BW,dx,dA,iy,iJ,mF,Zt,Xh,aN (g:=51),Zp,X3,ZD,Vf,BQ,Bi,AK,AJ,xH,BD,AP,xU,iD,ZP,VF,BL,ix,ZO,Ya,Zu,Vo,WM,Bx,A9,iR,io,ZT,Vs,UB,xL,iE,ZF,Yn,US,BK,iQ,↓syP,syA,syD,simprocAttr,syE,ah,ag,af,syW,xQ,OY,ih]
  all_goals simp -implicitDefEqProofs only [List.map_nil]
def bD (k:Nat)   : Nat→List Tys→Int→Tyt→Int→Option Int
 | 0,_,_,_,_=>none
 | n+1,s9,s10,s15,s50=>
 bif decide (s50<s10) then
 ob (idx s9 s50) fun x59=>
 bif decide (x59.1<(0:Int)) then
 some (s50)
 else
 bif decide ((6:Int)≤x59.1) then
 some (s50)
 else
 ob (bO k (k+29) x59.2.1 (↑x59.2.1.length:Int) s15 (0:Int)) fun x60=>
 bif decide ((0:Int)≤x60) then
 some (s50)
 else
 bif x59.1 !=(0:Int) then
 bif (↑x59.2.1.length:Int)==(0:Int) then
 some (s50)
 else
 bD k   n (s9) (s10) (s15) (IntKind.i64.wrap (s50+(1:Int)))
 else
 bD k   n (s9) (s10) (s15) (IntKind.i64.wrap (s50+(1:Int)))
 else
 some ((-1:Int))
theorem mj (k:Nat)  : ∀ (n:Nat) (s9:List Tys) (s10:Int) (s15:Tyt) (s50:Int) ⦃s11:Int⦄ ⦃s12:Int⦄ ⦃s13:Int⦄ ⦃s14:Int⦄ ⦃s16:List Int⦄ ⦃s17:List Tyw⦄ ⦃j49:V⦄,itX (xX (xS (k+32)) 96 0 (k+32) false) D6 (3) (au (xX (xS (k+32)) 96 0 (k+32) false) (av (xS (k+32)).P Tryz.f96) DT) n ⟨[.ro (List.map cG s9),.fn (Fn.func (53:FuncId)) [] [.ptr 0 0 0 0],uu,uu,.lit (.int .i64 (0:Int)),j49,.ro (List.map cG s9),.lit (.int .i64 s10),.lit (.int .i64 s50),.junk,.junk,.junk,.junk,.junk,.junk,.junk,.junk,.junk,.junk],[.box [.lit (.int .i64 s11),.lit (.int .i64 s12),.lit (.int .i64 s13),.lit (.int .i64 s14),.ro (List.map aA s15),.ro (List.map (aQ IntKind.u64) s16),.ro (List.map aY s17),.ro (List.map cG s9)],.box [.lit (.bool false)],.box [.lit (.int .i64 s11),.lit (.int .i64 s12),.lit (.int .i64 s13),.lit (.int .i64 s14),.ro (List.map aA s15),.ro (List.map (aQ IntKind.u64) s16),.ro (List.map aY s17),.ro (List.map cG s9)]]⟩=ob (bD k   n s9 s10 s15 s50) fun r=>some ((.lit (.int .i64 r),[.box [.lit (.int .i64 s11),.lit (.int .i64 s12),.lit (.int .i64 s13),.lit (.int .i64 s14),.ro (List.map aA s15),.ro (List.map (aQ IntKind.u64) s16),.ro (List.map aY s17),.ro (List.map cG s9)],.box [.lit (.bool false)],.box [.lit (.int .i64 s11),.lit (.int .i64 s12),.lit (.int .i64 s13),.lit (.int .i64 s14),.ro (List.map aA s15),.ro (List.map (aQ IntKind.u64) s16),.ro (List.map aY s17),.ro (List.map cG s9)]])):=by
 intro n
 induction n with
 | zero=>intros;rfl
 | succ n ih=>
  intro s9 s10 s15 s50 s11 s12 s13 s14 s16 s17 j49
  rw [bD]
  simp (maxSteps:=2000000) -implicitDefEqProofs only [ZN,U2,Y1,AH,Bv,BW,dx,dA,iy,iJ,mF,Zt,Xh,aN (g:=51),Zp,X3,ZD,Vf,BQ,Bi,AK,AJ,xH,BD,AP,xU,iD,ZP,VF,BL,ix,ZO,Ya,Zu,Vo,WM,Bx,A9,iR,io,ZT,Vs,UB,xL,iE,ZF,Yn,US,BK,iQ,↓syP,syA,syD,simprocAttr,syE,ah,ag,af,syW,xQ,mf,Ox,ih]
  all_goals simp -implicitDefEqProofs only [List.map_nil]
def dt (k:Nat) (v0:Typ)  : Nat→Int→Option Bool
 | 0,_=>none
 | n+1,s67=>
 bif decide (s67<(↑v0.2.2.2.1.length:Int)) then
 ob (idx v0.2.2.2.1 s67) fun x75=>
 ob (gl (k+9) (v0.1.1,v0.1.2.1,v0.1.2.2.1,v0.1.2.2.2) v0.2.1 v0.2.2.1 s67 (x75.1,x75.2.1,(x75.2.2.1.1,x75.2.2.1.2.1,x75.2.2.1.2.2.1,x75.2.2.1.2.2.2.1,x75.2.2.1.2.2.2.2.1,x75.2.2.1.2.2.2.2.2.1,x75.2.2.1.2.2.2.2.2.2),x75.2.2.2.1,x75.2.2.2.2)) fun x76=>
 bif !x76 then
 some (false)
 else
 dt k v0  n (IntKind.i64.wrap (s67+(1:Int)))
 else
 ob (bD k (k+32) v0.2.2.2.2 (↑v0.2.2.2.2.length:Int) v0.2.1 (0:Int)) fun x77=>
 some (!decide ((0:Int)≤x77))
theorem oq (k:Nat) (v0_0_0 v0_0_1 v0_0_2 v0_0_3:Int) (v0_1:Tyt) (v0_2:List Int) (v0_3:List Tyw) (v0_4:List Tys):∀ (n:Nat) (s67:Int) ⦃s3:Bool⦄ ⦃s4:Bool⦄ ⦃j65 j66:V⦄,rt none (bq (itX (xX (xS (k+33)) 94 0 (k+33) false) nX (4) (au (xX (xS (k+33)) 94 0 (k+33) false) (av (xS (k+33)).P Tryz.f94) D7) n ⟨[.yld 3,.ptr 2 0 0 0,uu,j65,j66,.ptr 2 0 0 6,.ro (List.map aY v0_3),.lit (.int .i64 (↑v0_3.length:Int)),.lit (.int .i64 s67),.junk,.junk,.junk,.junk,.junk,.junk,.junk,.junk,.junk,.junk,.junk,.junk,.junk,.junk,.junk,.junk,.junk,.junk,.junk,.junk,.junk],[.box [.lit (.int .i64 v0_0_0),.lit (.int .i64 v0_0_1),.lit (.int .i64 v0_0_2),.lit (.int .i64 v0_0_3),.ro (List.map aA v0_1),.ro (List.map (aQ IntKind.u64) v0_2),.ro (List.map aY v0_3),.ro (List.map cG v0_4)],.box [.lit (.bool false)],.box [.lit (.int .i64 v0_0_0),.lit (.int .i64 v0_0_1),.lit (.int .i64 v0_0_2),.lit (.int .i64 v0_0_3),.ro (List.map aA v0_1),.ro (List.map (aQ IntKind.u64) v0_2),.ro (List.map aY v0_3),.ro (List.map cG v0_4)],(.loop ⟨LoopState.ready,none,20,[.agg [.lit (.int .i64 v0_0_0),.lit (.int .i64 v0_0_1),.lit (.int .i64 v0_0_2),.lit (.int .i64 v0_0_3),.ro (List.map aA v0_1),.ro (List.map (aQ IntKind.u64) v0_2),.ro (List.map aY v0_3),.ro (List.map cG v0_4)],.ptr 0 0 0 0,.ptr 1 0 0 0,.ptr 0 0 0 0,.agg [.lit (.int .i64 v0_0_0),.lit (.int .i64 v0_0_1),.lit (.int .i64 v0_0_2),.lit (.int .i64 v0_0_3)],.lit (.bool s3),.lit (.bool s4),.lit (.bool false),.ptr 0 0 0 6,.ro (List.map aY v0_3),.lit (.int .i64 (↑v0_3.length:Int)),.ptr 0 0 0 0,.ptr 0 0 0 0,.lit (.int .i64 v0_0_0),.lit (.bool ((↑v0_3.length:Int)!=v0_0_0)),.lit (.bool ((↑v0_3.length:Int)!=v0_0_0)),.lit (.bool false),.ptr 0 0 0 7,.ro (List.map cG v0_4),.lit (.int .i64 (↑v0_4.length:Int)),.lit (.bool (decide ((3:Int)<(↑v0_4.length:Int)))),.lit (.bool (decide ((3:Int)<(↑v0_4.length:Int)))),.agg [.lit (.int .i64 v0_0_0),.lit (.int .i64 v0_0_1),.lit (.int .i64 v0_0_2),.lit (.int .i64 v0_0_3),.ro (List.map aA v0_1),.ro (List.map (aQ IntKind.u64) v0_2),.ro (List.map aY v0_3),.ro (List.map cG v0_4)],.fn (Fn.func (94:FuncId)) [] [.ptr 2 0 0 0],uu,uu,uu,uu,uu,uu],[(24:Tmp)],HQ,JF⟩)]⟩) (rfK (au (xX (xS (k+34)) 20 0 (k+34) false) (av (xS (k+34)).P Tryz.f20) EB) [.agg [.lit (.int .i64 v0_0_0),.lit (.int .i64 v0_0_1),.lit (.int .i64 v0_0_2),.lit (.int .i64 v0_0_3),.ro (List.map aA v0_1),.ro (List.map (aQ IntKind.u64) v0_2),.ro (List.map aY v0_3),.ro (List.map cG v0_4)],.ptr 0 0 0 0,.ptr 1 0 0 0,.ptr 0 0 0 0,.agg [.lit (.int .i64 v0_0_0),.lit (.int .i64 v0_0_1),.lit (.int .i64 v0_0_2),.lit (.int .i64 v0_0_3)],.lit (.bool s3),.lit (.bool s4),.lit (.bool false),.ptr 0 0 0 6,.ro (List.map aY v0_3),.lit (.int .i64 (↑v0_3.length:Int)),.ptr 0 0 0 0,.ptr 0 0 0 0,.lit (.int .i64 v0_0_0),.lit (.bool ((↑v0_3.length:Int)!=v0_0_0)),.lit (.bool ((↑v0_3.length:Int)!=v0_0_0)),.lit (.bool false),.ptr 0 0 0 7,.ro (List.map cG v0_4),.lit (.int .i64 (↑v0_4.length:Int)),.lit (.bool (decide ((3:Int)<(↑v0_4.length:Int)))),.lit (.bool (decide ((3:Int)<(↑v0_4.length:Int)))),.agg [.lit (.int .i64 v0_0_0),.lit (.int .i64 v0_0_1),.lit (.int .i64 v0_0_2),.lit (.int .i64 v0_0_3),.ro (List.map aA v0_1),.ro (List.map (aQ IntKind.u64) v0_2),.ro (List.map aY v0_3),.ro (List.map cG v0_4)],.fn (Fn.func (94:FuncId)) [] [.ptr 2 0 0 0],uu,uu,uu,uu,uu,uu] (3)))=ob (dt k ((v0_0_0,v0_0_1,v0_0_2,v0_0_3),v0_1,v0_2,v0_3,v0_4)  n s67) fun r=>some ((.lit (.bool r)),[]):=by
 intro n
 induction n with
 | zero=>intros;rfl
 | succ n ih=>
  intro s67 s3 s4 j65 j66
  rw [dt]
  simp (maxSteps:=2000000) -implicitDefEqProofs only [ZN,U2,Y1,AH,Bv,BW,dx,dA,iy,iJ,mF,Zt,Xh,aN (g:=51),Zp,X3,ZD,Vf,BQ,Bi,AK,AJ,xH,BD,AP,xU,iD,ZP,VF,BL,ix,ZO,Ya,Zu,Vo,WM,Bx,A9,iR,io,ZT,Vs,UB,xL,iE,ZF,Yn,US,BK,iQ,↓syP,syA,syD,simprocAttr,syE,ah,ag,af,syW,xQ,cM,uE,mj,PC,ih]
  all_goals simp -implicitDefEqProofs only [List.map_nil]
def ft (k:Nat) (v0:Typ):Option Bool:=
 ob (bU v0.1) fun x78=>
 bif !x78 then
 some false
 else
 bif (↑v0.2.2.2.1.length:Int)!=v0.1.1 then
 some false
 else
 bif decide (3<(↑v0.2.2.2.2.length:Int)) then
 some false
 else
 dt k v0 (k+33) 0
theorem nm (k:Nat) (v0_0_0 v0_0_1 v0_0_2 v0_0_3:Int) (v0_1:Tyt) (v0_2:List Int) (v0_3:List Tyw) (v0_4:List Tys):xC (k+35) none 20 [.agg [.lit (.int .i64 v0_0_0),.lit (.int .i64 v0_0_1),.lit (.int .i64 v0_0_2),.lit (.int .i64 v0_0_3),.ro (List.map aA v0_1),.ro (List.map (aQ .u64) v0_2),.ro (List.map aY v0_3),.ro (List.map cG v0_4)]]=ob (ft k ((v0_0_0,v0_0_1,v0_0_2,v0_0_3),v0_1,v0_2,v0_3,v0_4)) fun r=>some ((.lit (.bool r)),[]):=by
 rw [aN]
 unfold ft
 simp (maxSteps:=2000000) -implicitDefEqProofs only [ZN,U2,Y1,AH,Bv,BW,dx,dA,iy,iJ,mF,Zt,Xh,aN (g:=51),Zp,X3,ZD,Vf,BQ,Bi,AK,AJ,xH,BD,AP,xU,iD,ZP,VF,BL,ix,ZO,Ya,Zu,Vo,WM,Bx,A9,iR,io,ZT,Vs,UB,xL,iE,ZF,Yn,US,BK,iQ,↓syP,syA,syD,simprocAttr,syE,ah,ag,af,syW,xQ,cM,oq k v0_0_0 v0_0_1 v0_0_2 v0_0_3 v0_1 v0_2 v0_3 v0_4]
 all_goals simp -implicitDefEqProofs only [List.map_nil]
end Go.Ab
set_option maxRecDepth 100000
set_option linter.unusedVariables false
set_option linter.unusedSimpArgs false
namespace Go.Ab
open Go.Proofs
def cg (k:Nat)   : Nat→Int→Int→Int→Int→Tyt→List Int→List Tyw→List Tys→Int→List Tyw→Int→List Tys→Option (Int×Int×Int×Int×Tyt×List Int×List Tyw×List Tys×List Tyw×List Tys)
 | 0,_,_,_,_,_,_,_,_,_,_,_,_=>none
 | n+1,s26,s27,s28,s29,s34,s35,s36,s37,s39,s47,s49,s50=>
 bif decide (s49<s39) then
 bif decide ((0:Int)≤s49∧s49.toNat<s37.length) then
 ob (s50[s49.toNat]?) fun x76=>
 ob (aK 8 x76.2.1) fun x77=>
 bif decide ((0:Int)≤s49∧s49.toNat<s37.length) then
 ob (s50[s49.toNat]?) fun x78=>
 cg k   n (s26) (s27) (s28) (s29) (s34) (s35) (s36) (s37) (s39) (s47) (IntKind.i64.wrap (s49+(1:Int))) (s50.set s49.toNat (x78.1,x77,x78.2.2.1,x78.2.2.2.1,x78.2.2.2.2.1,x78.2.2.2.2.2.1,x78.2.2.2.2.2.2.1,x78.2.2.2.2.2.2.2.1,x78.2.2.2.2.2.2.2.2))
 else
 none
 else
 none
 else
 some (s26,s27,s28,s29,s34,s35,s36,s37,s47,s50)
theorem lW (k:Nat)  : ∀ (n:Nat) (s26:Int) (s27:Int) (s28:Int) (s29:Int) (s34:Tyt) (s35:List Int) (s36:List Tyw) (s37:List Tys) (s39:Int) (s47:List Tyw) (s49:Int) (s50:List Tys) ⦃s30:Tyt⦄ ⦃s31:List Int⦄ ⦃s32:List Tyw⦄ ⦃s33:List Tys⦄ ⦃s38:Int⦄ ⦃j46 j48:V⦄,itX (xX (xS (k+61)) 41 0 (k+61) false) E2 (8) (au (xX (xS (k+61)) 41 0 (k+61) false) (av (xS (k+61)).P Tryz.f41) E5) n ⟨[.agg [.lit (.int .i64 s26),.lit (.int .i64 s27),.lit (.int .i64 s28),.lit (.int .i64 s29),.ro (List.map aA s30),.ro (List.map (aQ IntKind.u64) s31),.ro (List.map aY s32),.ro (List.map cG s33)],.ptr 0 0 0 0,.ptr 5 0 0 0,j46,j48,.ptr 0 0 0 4,.ro (List.map aA s30),.ro (List.map aA s34),.ptr 0 0 0 5,.ro (List.map (aQ IntKind.u64) s31),.ro (List.map (aQ IntKind.u64) s35),.ptr 0 0 0 4,.ptr 0 0 0 5,.ptr 0 0 0 6,.ro (List.map aY s32),.own 6 0 s36.length,.ptr 0 0 0 7,.ro (List.map cG s33),.own 7 0 s37.length,.ptr 0 0 0 6,.ptr 0 0 0 7,.ptr 0 0 0 6,.own 6 0 s36.length,.lit (.int .i64 s38),.junk,.junk,.junk,.junk,.junk,.junk,.junk,.junk,.junk,.junk,.junk,.junk,.junk,.junk,.junk,.junk,.ptr 0 0 0 7,.own 7 0 s37.length,.lit (.int .i64 s39),.lit (.int .i64 s49),.junk,.junk,.junk,.junk,.junk,.junk,.junk,.junk,.junk,.junk,.junk,.junk,.junk,.junk,.junk,uu],[.box [.lit (.int .i64 s26),.lit (.int .i64 s27),.lit (.int .i64 s28),.lit (.int .i64 s29),.ro (List.map aA s34),.ro (List.map (aQ IntKind.u64) s35),.own 6 0 s36.length,.own 7 0 s37.length],.rows 0 [] 0 true,.rows 0 [] 0 true,.rows 0 [] 0 true,.rows 0 [] 0 true,.box [.lit (.int .i64 (0:Int)),.lit (.int .i64 (0:Int)),.lit (.int .i64 (0:Int)),.lit (.int .i64 (0:Int)),.own 1 0 0,.own 2 0 0,.own 3 0 0,.own 4 0 0],.rows 11 (List.map aY s47) 0 true,.rows 9 (List.map cG s50) 0 true]⟩=ob (cg k   n s26 s27 s28 s29 s34 s35 s36 s37 s39 s47 s49 s50) fun r=>some ((.agg [.lit (.int .i64 r.1),.lit (.int .i64 r.2.1),.lit (.int .i64 r.2.2.1),.lit (.int .i64 r.2.2.2.1),.ro (List.map aA r.2.2.2.2.1),.ro (List.map (aQ IntKind.u64) r.2.2.2.2.2.1),.own 6 0 r.2.2.2.2.2.2.1.length,.own 7 0 r.2.2.2.2.2.2.2.1.length],[.box [.lit (.int .i64 r.1),.lit (.int .i64 r.2.1),.lit (.int .i64 r.2.2.1),.lit (.int .i64 r.2.2.2.1),.ro (List.map aA r.2.2.2.2.1),.ro (List.map (aQ IntKind.u64) r.2.2.2.2.2.1),.own 6 0 r.2.2.2.2.2.2.1.length,.own 7 0 r.2.2.2.2.2.2.2.1.length],.rows 0 [] 0 true,.rows 0 [] 0 true,.rows 0 [] 0 true,.rows 0 [] 0 true,.box [.lit (.int .i64 r.1),.lit (.int .i64 r.2.1),.lit (.int .i64 r.2.2.1),.lit (.int .i64 r.2.2.2.1),.ro (List.map aA r.2.2.2.2.1),.ro (List.map (aQ IntKind.u64) r.2.2.2.2.2.1),.own 6 0 r.2.2.2.2.2.2.1.length,.own 7 0 r.2.2.2.2.2.2.2.1.length],.rows 11 (List.map aY r.2.2.2.2.2.2.2.2.1) 0 true,.rows 9 (List.map cG r.2.2.2.2.2.2.2.2.2) 0 true])):=by
 intro n
 induction n with
 | zero=>intros;rfl
 | succ n ih=>
  intro s26 s27 s28 s29 s34 s35 s36 s37 s39 s47 s49 s50 s30 s31 s32 s33 s38 j46 j48
  rw [cg]
  simp (maxSteps:=2000000) -implicitDefEqProofs only [Zl,VY,YT,BJ,iO,ZS,Xa,VG,AN,A0,iY,iZ,aN (g:=41),ZQ,XV,AC,iV,ZI,YG,ZE,V3,ZL,Vi,↓syP,syA,syD,simprocAttr,syE,ah,ag,af,syW,xQ,OT,ih]
  all_goals simp -implicitDefEqProofs only [List.map_nil]
def cn (k:Nat)   : Nat→Int→Int→Int→Int→Tyt→List Int→List Tyw→List Tys→Int→Int→List Tyw→Option (Int×Int×Int×Int×Tyt×List Int×List Tyw×List Tys×List Tyw×List Tys)
 | 0,_,_,_,_,_,_,_,_,_,_,_=>none
 | n+1,s6,s7,s8,s9,s14,s15,s16,s17,s18,s23,s24=>
 bif decide (s23<s18) then
 bif decide ((0:Int)≤s23∧s23.toNat<s16.length) then
 ob (s24[s23.toNat]?) fun x70=>
 ob (aK 24 x70.2.1) fun x71=>
 bif decide ((0:Int)≤s23∧s23.toNat<s16.length) then
 ob (s24[s23.toNat]?) fun x72=>
 cn k   n (s6) (s7) (s8) (s9) (s14) (s15) (s16) (s17) (s18) (IntKind.i64.wrap (s23+(1:Int))) (s24.set s23.toNat (x72.1,x71,(x72.2.2.1.1,x72.2.2.1.2.1,x72.2.2.1.2.2.1,x72.2.2.1.2.2.2.1,x72.2.2.1.2.2.2.2.1,x72.2.2.1.2.2.2.2.2.1,x72.2.2.1.2.2.2.2.2.2),x72.2.2.2.1,x72.2.2.2.2))
 else
 none
 else
 none
 else
 cg k  (k+61) (s6) (s7) (s8) (s9) (s14) (s15) (s16) (s17) ((↑s17.length:Int)) (s24) ((0:Int)) (s17)
theorem gB (k:Nat)  : ∀ (n:Nat) (s6:Int) (s7:Int) (s8:Int) (s9:Int) (s14:Tyt) (s15:List Int) (s16:List Tyw) (s17:List Tys) (s18:Int) (s23:Int) (s24:List Tyw) ⦃s10:Tyt⦄ ⦃s11:List Int⦄ ⦃s12:List Tyw⦄ ⦃s13:List Tys⦄ ⦃j22:V⦄,itX (xX (xS (k+61)) 41 0 (k+61) false) Ex (8) (au (xX (xS (k+61)) 41 0 (k+61) false) (av (xS (k+61)).P Tryz.f41) Eu) n ⟨[.agg [.lit (.int .i64 s6),.lit (.int .i64 s7),.lit (.int .i64 s8),.lit (.int .i64 s9),.ro (List.map aA s10),.ro (List.map (aQ IntKind.u64) s11),.ro (List.map aY s12),.ro (List.map cG s13)],.ptr 0 0 0 0,.ptr 5 0 0 0,j22,uu,.ptr 0 0 0 4,.ro (List.map aA s10),.ro (List.map aA s14),.ptr 0 0 0 5,.ro (List.map (aQ IntKind.u64) s11),.ro (List.map (aQ IntKind.u64) s15),.ptr 0 0 0 4,.ptr 0 0 0 5,.ptr 0 0 0 6,.ro (List.map aY s12),.own 6 0 s16.length,.ptr 0 0 0 7,.ro (List.map cG s13),.own 7 0 s17.length,.ptr 0 0 0 6,.ptr 0 0 0 7,.ptr 0 0 0 6,.own 6 0 s16.length,.lit (.int .i64 s18),.lit (.int .i64 s23),.junk,.junk,.junk,.junk,.junk,.junk,.junk,.junk,.junk,.junk,.junk,.junk,.junk,.junk,.junk,uu,uu,uu,uu,uu,uu,uu,uu,uu,uu,uu,uu,uu,uu,uu,uu,uu,uu,uu,uu],[.box [.lit (.int .i64 s6),.lit (.int .i64 s7),.lit (.int .i64 s8),.lit (.int .i64 s9),.ro (List.map aA s14),.ro (List.map (aQ IntKind.u64) s15),.own 6 0 s16.length,.own 7 0 s17.length],.rows 0 [] 0 true,.rows 0 [] 0 true,.rows 0 [] 0 true,.rows 0 [] 0 true,.box [.lit (.int .i64 (0:Int)),.lit (.int .i64 (0:Int)),.lit (.int .i64 (0:Int)),.lit (.int .i64 (0:Int)),.own 1 0 0,.own 2 0 0,.own 3 0 0,.own 4 0 0],.rows 11 (List.map aY s24) 0 true,.rows 9 (List.map cG s17) 0 true]⟩=ob (cn k   n s6 s7 s8 s9 s14 s15 s16 s17 s18 s23 s24) fun r=>some ((.agg [.lit (.int .i64 r.1),.lit (.int .i64 r.2.1),.lit (.int .i64 r.2.2.1),.lit (.int .i64 r.2.2.2.1),.ro (List.map aA r.2.2.2.2.1),.ro (List.map (aQ IntKind.u64) r.2.2.2.2.2.1),.own 6 0 r.2.2.2.2.2.2.1.length,.own 7 0 r.2.2.2.2.2.2.2.1.length],[.box [.lit (.int .i64 r.1),.lit (.int .i64 r.2.1),.lit (.int .i64 r.2.2.1),.lit (.int .i64 r.2.2.2.1),.ro (List.map aA r.2.2.2.2.1),.ro (List.map (aQ IntKind.u64) r.2.2.2.2.2.1),.own 6 0 r.2.2.2.2.2.2.1.length,.own 7 0 r.2.2.2.2.2.2.2.1.length],.rows 0 [] 0 true,.rows 0 [] 0 true,.rows 0 [] 0 true,.rows 0 [] 0 true,.box [.lit (.int .i64 r.1),.lit (.int .i64 r.2.1),.lit (.int .i64 r.2.2.1),.lit (.int .i64 r.2.2.2.1),.ro (List.map aA r.2.2.2.2.1),.ro (List.map (aQ IntKind.u64) r.2.2.2.2.2.1),.own 6 0 r.2.2.2.2.2.2.1.length,.own 7 0 r.2.2.2.2.2.2.2.1.length],.rows 11 (List.map aY r.2.2.2.2.2.2.2.2.1) 0 true,.rows 9 (List.map cG r.2.2.2.2.2.2.2.2.2) 0 true])):=by
 intro n
 induction n with
 | zero=>intros;rfl
 | succ n ih=>
  intro s6 s7 s8 s9 s14 s15 s16 s17 s18 s23 s24 s10 s11 s12 s13 j22
  rw [cn]
  simp (maxSteps:=2000000) -implicitDefEqProofs only [Zl,VY,YT,BJ,iO,ZS,Xa,VG,AN,A0,iY,iZ,aN (g:=41),ZQ,XV,AC,iV,ZI,YG,ZE,V3,ZL,Vi,↓syP,syA,syD,simprocAttr,syE,ah,ag,af,syW,xQ,Oi,ih,lW k ]
  all_goals simp -implicitDefEqProofs only [List.map_nil]
def bz (k:Nat) (v0:Typ) (v1:Tye)  : Nat→Int→Int→Int→Int→Tyt→List Tyw→List Tys→List Tyw→List Tys→Tye→Int→List Int→Nat→Option (Typ×Tye)
 | 0,_,_,_,_,_,_,_,_,_,_,_,_,_=>none
 | n+1,s86,s87,s88,s89,s90,s92,s93,s96,s97,s116,s118,s119,s120=>
 bif decide (s118<(↑v1.length:Int)) then
 ob (idx v1 s118) fun x149=>
 ob (gI (x149.1,x149.2.1,x149.2.2) v0.1.1 (↑v0.2.2.2.2.length:Int)) fun x150=>
 bif x150 then
 bif x149.1==(0:Int) then
 bif decide ((0:Int)≤x149.2.1∧x149.2.1.toNat<s92.length) then
 ob (s96[x149.2.1.toNat]?) fun x151=>
 ob (gG k (s86,s87,s88,s89) s90 s119 x149.2.1 (x151.1,x151.2.1,(x151.2.2.1.1,x151.2.2.1.2.1,x151.2.2.1.2.2.1,x151.2.2.1.2.2.2.1,x151.2.2.1.2.2.2.2.1,x151.2.2.1.2.2.2.2.2.1,x151.2.2.1.2.2.2.2.2.2),x151.2.2.2.1,x151.2.2.2.2) x149.2.2) fun x152=>
 bif decide ((0:Int)≤x149.2.1∧x149.2.1.toNat<s92.length) then
 ob (s96[x149.2.1.toNat]?) fun x153=>
 ck (s120==3||s120==0) (
 bif room (s116++x152.2.2).length 24 then
 bz k v0 v1  n (s86) (s87) (s88) (s89) (s90) (s92) (s93) (s96.set x149.2.1.toNat (x152.2.1.1,x152.2.1.2.1,(x152.2.1.2.2.1.1,x152.2.1.2.2.1.2.1,x152.2.1.2.2.1.2.2.1,x152.2.1.2.2.1.2.2.2.1,x152.2.1.2.2.1.2.2.2.2.1,x152.2.1.2.2.1.2.2.2.2.2.1,x152.2.1.2.2.1.2.2.2.2.2.2),x152.2.1.2.2.2.1,x152.2.1.2.2.2.2)) (s97) (s116++x152.2.2) (IntKind.i64.wrap (s118+(1:Int))) (x152.1) (3)
 else
 none)
 else
 none
 else
 none
 else
 bif x149.1==(1:Int) then
 bif decide ((0:Int)≤x149.2.1∧x149.2.1.toNat<s93.length) then
 ob (s97[x149.2.1.toNat]?) fun x154=>
 ob (eN (k+36) (s86,s87,s88,s89) s90 s119 (x154.1,x154.2.1,x154.2.2.1,x154.2.2.2.1,x154.2.2.2.2.1,x154.2.2.2.2.2.1,x154.2.2.2.2.2.2.1,x154.2.2.2.2.2.2.2.1,x154.2.2.2.2.2.2.2.2)) fun x155=>
 bif x155 then
 bif decide ((0:Int)≤x149.2.1∧x149.2.1.toNat<s93.length) then
 ob (s97[x149.2.1.toNat]?) fun x156=>
 ob (eY (k+20) (s86,s87,s88,s89) s90 s119 x149.2.1 (x156.1,x156.2.1,x156.2.2.1,x156.2.2.2.1,x156.2.2.2.2.1,x156.2.2.2.2.2.1,x156.2.2.2.2.2.2.1,x156.2.2.2.2.2.2.2.1,x156.2.2.2.2.2.2.2.2)) fun x157=>
 bif decide ((0:Int)≤x149.2.1∧x149.2.1.toNat<s93.length) then
 ob (s97[x149.2.1.toNat]?) fun x158=>
 ck (s120==3||s120==0) (
 bif room (s116++x157.2.2).length 24 then
 bz k v0 v1  n (s86) (s87) (s88) (s89) (s90) (s92) (s93) (s96) (s97.set x149.2.1.toNat (x157.2.1.1,x157.2.1.2.1,x157.2.1.2.2.1,x157.2.1.2.2.2.1,x157.2.1.2.2.2.2.1,x157.2.1.2.2.2.2.2.1,x157.2.1.2.2.2.2.2.2.1,x157.2.1.2.2.2.2.2.2.2.1,x157.2.1.2.2.2.2.2.2.2.2)) (s116++x157.2.2) (IntKind.i64.wrap (s118+(1:Int))) (x157.1) (3)
 else
 none)
 else
 none
 else
 none
 else
 ck (s120==3||s120==0) (
 bif room s116.length 24 then
 bz k v0 v1  n (s86) (s87) (s88) (s89) (s90) (s92) (s93) (s96) (s97) (s116) (IntKind.i64.wrap (s118+(1:Int))) (s119) (3)
 else
 none)
 else
 none
 else
 bif x149.1==(2:Int) then
 ob (br s119 (3:Int) (1:Int)) fun x159=>
 ck (s120==3||s120==0) (
 bif room s116.length 24 then
 bz k v0 v1  n (s86) (s87) (s88) (s89) (s90) (s92) (s93) (s96) (s97) (s116) (IntKind.i64.wrap (s118+(1:Int))) (x159) (3)
 else
 none)
 else
 ck (s120==3||s120==0) (
 bif room s116.length 24 then
 bz k v0 v1  n (s86) (s87) (s88) (s89) (s90) (s92) (s93) (s96) (s97) (s116) (IntKind.i64.wrap (s118+(1:Int))) (s119) (3)
 else
 none)
 else
 bz k v0 v1  n (s86) (s87) (s88) (s89) (s90) (s92) (s93) (s96) (s97) (s116) (IntKind.i64.wrap (s118+(1:Int))) (s119) (s120)
 else
 ck (decide (s92.length≤s96.length)) (
 ck (decide (s93.length≤s97.length)) (
 some ((((s86),(s87),(s88),(s89)),(s90),(s119),(List.take s92.length s96),(List.take s93.length s97)),(s116))))
theorem kv (k:Nat) (v0_0_0 v0_0_1 v0_0_2 v0_0_3:Int) (v0_1:Tyt) (v0_2:List Int) (v0_3:List Tyw) (v0_4:List Tys) (v1:Tye):∀ (n:Nat) (s86:Int) (s87:Int) (s88:Int) (s89:Int) (s90:Tyt) (s92:List Tyw) (s93:List Tys) (s96:List Tyw) (s97:List Tys) (s116:Tye) (s118:Int) (s119:List Int) (s120:Nat) ⦃s91:List Int⦄ ⦃s94:Bool⦄ ⦃s95:Bool⦄ ⦃s115:Nat⦄ ⦃j117:V⦄,rt none (itX (xX (xS (k+62)) 17 0 (k+62) false) AO (15) (au (xX (xS (k+62)) 17 0 (k+62) false) (av (xS (k+62)).P Tryz.f17) E3) n ⟨[.agg [.lit (.int .i64 v0_0_0),.lit (.int .i64 v0_0_1),.lit (.int .i64 v0_0_2),.lit (.int .i64 v0_0_3),.ro (List.map aA v0_1),.ro (List.map (aQ IntKind.u64) v0_2),.ro (List.map aY v0_3),.ro (List.map cG v0_4)],.ro (List.map eT v1),.ptr 0 0 0 0,uu,.ptr 5 0 0 0,.own 6 0 0,.ptr 13 0 0 0,.own 14 s115 s116.length,uu,j117,.agg [.lit (.int .i64 v0_0_0),.lit (.int .i64 v0_0_1),.lit (.int .i64 v0_0_2),.lit (.int .i64 v0_0_3),.ro (List.map aA v0_1),.ro (List.map (aQ IntKind.u64) v0_2),.ro (List.map aY v0_3),.ro (List.map cG v0_4)],.agg [.lit (.int .i64 s86),.lit (.int .i64 s87),.lit (.int .i64 s88),.lit (.int .i64 s89),.ro (List.map aA s90),.ro (List.map (aQ IntKind.u64) s91),.own 7 0 s92.length,.own 8 0 s93.length],.agg [.lit (.int .i64 v0_0_0),.lit (.int .i64 v0_0_1),.lit (.int .i64 v0_0_2),.lit (.int .i64 v0_0_3),.ro (List.map aA v0_1),.ro (List.map (aQ IntKind.u64) v0_2),.ro (List.map aY v0_3),.ro (List.map cG v0_4)],.lit (.bool s94),.lit (.bool s95),uu,.ro (List.map eT v1),.lit (.int .i64 (↑v1.length:Int)),.lit (.int .i64 s118),.junk,.junk,.junk,.junk,.junk,.junk,.junk,.junk,.junk,.junk,.junk,.junk,.junk,.junk,.junk,.junk,uu,uu],[.box [.lit (.int .i64 v0_0_0),.lit (.int .i64 v0_0_1),.lit (.int .i64 v0_0_2),.lit (.int .i64 v0_0_3),.ro (List.map aA v0_1),.ro (List.map (aQ IntKind.u64) v0_2),.ro (List.map aY v0_3),.ro (List.map cG v0_4)],.rows 0 [] 0 true,.rows 0 [] 0 true,.rows 0 [] 0 true,.rows 0 [] 0 true,.box [.lit (.int .i64 (0:Int)),.lit (.int .i64 (0:Int)),.lit (.int .i64 (0:Int)),.lit (.int .i64 (0:Int)),.own 1 0 0,.own 2 0 0,.own 3 0 0,.own 4 0 0],.rows 0 [] 0 true,.rows 11 (List.map aY s96) 0 true,.rows 9 (List.map cG s97) 0 true,.rows 0 [] 0 true,.rows 0 [] 0 true,.rows 0 [] 0 true,.rows 0 [] 0 true,.box [.lit (.int .i64 s86),.lit (.int .i64 s87),.lit (.int .i64 s88),.lit (.int .i64 s89),.ro (List.map aA s90),.ro (List.map (aQ IntKind.u64) s119),.own 7 0 s92.length,.own 8 0 s93.length],.rows s120 (List.map aE s116) s115 true]⟩)=ob (bz k ((v0_0_0,v0_0_1,v0_0_2,v0_0_3),v0_1,v0_2,v0_3,v0_4) v1  n s86 s87 s88 s89 s90 s92 s93 s96 s97 s116 s118 s119 s120) fun r=>some ((.tup [.agg [.lit (.int .i64 r.1.1.1),.lit (.int .i64 r.1.1.2.1),.lit (.int .i64 r.1.1.2.2.1),.lit (.int .i64 r.1.1.2.2.2),.ro (List.map aA r.1.2.1),.ro (List.map (aQ .u64) r.1.2.2.1),.ro (List.map aY r.1.2.2.2.1),.ro (List.map cG r.1.2.2.2.2)],.ro (List.map aE r.2)]),[]):=by
 intro n
 induction n with
 | zero=>intros;rfl
 | succ n ih=>
  intro s86 s87 s88 s89 s90 s92 s93 s96 s97 s116 s118 s119 s120 s91 s94 s95 s115 j117
  rw [bz]
  simp (maxSteps:=2000000) -implicitDefEqProofs only [Zl,VY,YT,BJ,iO,ZS,Xa,VG,AN,A0,iY,iZ,aN (g:=41),ZQ,XV,AC,iV,ZI,YG,ZE,V3,ZL,Vi,↓syP,syA,syD,simprocAttr,syE,ah,ag,af,syW,xQ,dO,oi,wO,CN,nY,nm,Cq,gB,Oe,ih]
  all_goals simp -implicitDefEqProofs only [List.map_nil]
def cJ (k:Nat) (v0:Typ) (v1:Tye):Option (Typ×Tye):=
 ob (fG (k+59) v0.2.1) fun x160=>
 ob (aK 8 v0.2.2.1) fun x161=>
 ob (aK 104 v0.2.2.2.1) fun x162=>
 ob (aK 88 v0.2.2.2.2) fun x163=>
 ob (cn k (k+61) v0.1.1 v0.1.2.1 v0.1.2.2.1 v0.1.2.2.2 x160 x161 x162 x163 (↑x162.length:Int) 0 x162) fun x164=>
 ck (decide (x164.2.2.2.2.2.2.1.length≤x164.2.2.2.2.2.2.2.2.1.length)) (
 ck (decide (x164.2.2.2.2.2.2.2.1.length≤x164.2.2.2.2.2.2.2.2.2.length)) (
 ob (ft (k+27) v0) fun x165=>
 bif !x165 then
 ck (decide (x164.2.2.2.2.2.2.1.length≤(List.take x164.2.2.2.2.2.2.1.length x164.2.2.2.2.2.2.2.2.1).length)) (
 ck (decide (x164.2.2.2.2.2.2.2.1.length≤(List.take x164.2.2.2.2.2.2.2.1.length x164.2.2.2.2.2.2.2.2.2).length)) (
 some (((x164.1,x164.2.1,x164.2.2.1,x164.2.2.2.1),x164.2.2.2.2.1,x164.2.2.2.2.2.1,(List.take x164.2.2.2.2.2.2.1.length (List.take x164.2.2.2.2.2.2.1.length x164.2.2.2.2.2.2.2.2.1)),(List.take x164.2.2.2.2.2.2.2.1.length (List.take x164.2.2.2.2.2.2.2.1.length x164.2.2.2.2.2.2.2.2.2))),[])))
 else
 bz k v0 v1 (k+62) x164.1 x164.2.1 x164.2.2.1 x164.2.2.2.1 x164.2.2.2.2.1 x164.2.2.2.2.2.2.1 x164.2.2.2.2.2.2.2.1 (List.take x164.2.2.2.2.2.2.1.length x164.2.2.2.2.2.2.2.2.1) (List.take x164.2.2.2.2.2.2.2.1.length x164.2.2.2.2.2.2.2.2.2) ([]) 0 x164.2.2.2.2.2.1 0))
theorem nE (k:Nat) (v0_0_0 v0_0_1 v0_0_2 v0_0_3:Int) (v0_1:Tyt) (v0_2:List Int) (v0_3:List Tyw) (v0_4:List Tys) (v1:Tye):xC (k+63) none 17 [.agg [.lit (.int .i64 v0_0_0),.lit (.int .i64 v0_0_1),.lit (.int .i64 v0_0_2),.lit (.int .i64 v0_0_3),.ro (List.map aA v0_1),.ro (List.map (aQ .u64) v0_2),.ro (List.map aY v0_3),.ro (List.map cG v0_4)],.ro (List.map eT v1)]=ob (cJ k ((v0_0_0,v0_0_1,v0_0_2,v0_0_3),v0_1,v0_2,v0_3,v0_4) v1) fun r=>some ((.tup [.agg [.lit (.int .i64 r.1.1.1),.lit (.int .i64 r.1.1.2.1),.lit (.int .i64 r.1.1.2.2.1),.lit (.int .i64 r.1.1.2.2.2),.ro (List.map aA r.1.2.1),.ro (List.map (aQ .u64) r.1.2.2.1),.ro (List.map aY r.1.2.2.2.1),.ro (List.map cG r.1.2.2.2.2)],.ro (List.map aE r.2)]),[]):=by
 rw [aN]
 unfold cJ
 have hl0:=fun (x170:Int×Int×Int×Int×Tyt×List Int×List Tyw×List Tys×List Tyw×List Tys)=>kv k v0_0_0 v0_0_1 v0_0_2 v0_0_3 v0_1 v0_2 v0_3 v0_4 v1 (k+62) (x170.fst) (x170.snd.fst) (x170.snd.snd.fst) (x170.snd.snd.snd.fst) (x170.snd.snd.snd.snd.fst) (x170.snd.snd.snd.snd.snd.snd.fst) (x170.snd.snd.snd.snd.snd.snd.snd.fst) (List.take x170.snd.snd.snd.snd.snd.snd.fst.length x170.snd.snd.snd.snd.snd.snd.snd.snd.fst) (List.take x170.snd.snd.snd.snd.snd.snd.snd.fst.length x170.snd.snd.snd.snd.snd.snd.snd.snd.snd) ([]) ((0:Int)) (x170.snd.snd.snd.snd.snd.fst) (0)
 try simp -implicitDefEqProofs only [List.map_nil,List.length_nil] at hl0
 simp (maxSteps:=2000000) -implicitDefEqProofs only [Zl,VY,YT,BJ,iO,ZS,Xa,VG,AN,A0,iY,iZ,aN (g:=41),ZQ,XV,AC,iV,ZI,YG,ZE,V3,ZL,Vi,↓syP,syA,syD,simprocAttr,syE,ah,ag,af,syW,xQ,nY,nm,gB,kv k v0_0_0 v0_0_1 v0_0_2 v0_0_3 v0_1 v0_2 v0_3 v0_4 v1,hl0]
 all_goals simp -implicitDefEqProofs only [List.map_nil]
end Go.Ab
set_option maxRecDepth 100000
set_option linter.unusedVariables false
set_option linter.unusedSimpArgs false
namespace Go.Ab
open Go.Proofs
end Go.Ab
set_option maxRecDepth 100000
set_option linter.unusedVariables false
set_option linter.unusedSimpArgs false
namespace Go.Ab
open Go.Proofs
def lY (k:Nat) (v0:Typ) (v1:(Int×Int×Int)):Option (Typ×Tye):=
 ob (cJ k v0 [v1]) fun x2=>
 some (((x2.1.1.1,x2.1.1.2.1,x2.1.1.2.2.1,x2.1.1.2.2.2),x2.1.2),x2.2)
theorem CP (k:Nat) (v0_0_0 v0_0_1 v0_0_2 v0_0_3:Int) (v0_1:Tyt) (v0_2:List Int) (v0_3:List Tyw) (v0_4:List Tys) (v1_0 v1_1 v1_2:Int):xC (k+64) none 24 [.agg [.lit (.int .i64 v0_0_0),.lit (.int .i64 v0_0_1),.lit (.int .i64 v0_0_2),.lit (.int .i64 v0_0_3),.ro (List.map aA v0_1),.ro (List.map (aQ .u64) v0_2),.ro (List.map aY v0_3),.ro (List.map cG v0_4)],.agg [.lit (.int .i64 v1_0),.lit (.int .i64 v1_1),.lit (.int .u64 v1_2)]]=ob (lY k ((v0_0_0,v0_0_1,v0_0_2,v0_0_3),v0_1,v0_2,v0_3,v0_4) (v1_0,v1_1,v1_2)) fun r=>some ((.tup [.agg [.lit (.int .i64 r.1.1.1),.lit (.int .i64 r.1.1.2.1),.lit (.int .i64 r.1.1.2.2.1),.lit (.int .i64 r.1.1.2.2.2),.ro (List.map aA r.1.2.1),.ro (List.map (aQ .u64) r.1.2.2.1),.ro (List.map aY r.1.2.2.2.1),.ro (List.map cG r.1.2.2.2.2)],.ro (List.map aE r.2)]),[]):=by
 rw [aN]
 unfold lY
 simp (maxSteps:=2000000) -implicitDefEqProofs only [ae3,aev,↓syP,syA,syD,simprocAttr,syE,ah,ag,af,syW,xQ,nE]
 all_goals simp -implicitDefEqProofs only [List.map_nil]
def aD (k:Nat) (v0:(List Tyw)) (v1:(List Tyw))  : Nat→Int→Option Bool
 | 0,_=>none
 | n+1,s12=>
 bif decide (s12<(↑v0.length:Int)) then
 ob (idx v0 s12) fun x19=>
 ob (idx v1 s12) fun x20=>
 ob (gU (k+5) (x19.1,x19.2.1,(x19.2.2.1.1,x19.2.2.1.2.1,x19.2.2.1.2.2.1,x19.2.2.1.2.2.2.1,x19.2.2.1.2.2.2.2.1,x19.2.2.1.2.2.2.2.2.1,x19.2.2.1.2.2.2.2.2.2),x19.2.2.2.1,x19.2.2.2.2) (x20.1,x20.2.1,(x20.2.2.1.1,x20.2.2.1.2.1,x20.2.2.1.2.2.1,x20.2.2.1.2.2.2.1,x20.2.2.1.2.2.2.2.1,x20.2.2.1.2.2.2.2.2.1,x20.2.2.1.2.2.2.2.2.2),x20.2.2.2.1,x20.2.2.2.2)) fun x21=>
 bif !x21 then
 some (false)
 else
 aD k v0 v1  n (IntKind.i64.wrap (s12+(1:Int)))
 else
 some (true)
theorem dy (k:Nat) (v0 v1:List Tyw):∀ (n:Nat) (s12:Int) ⦃j10 j11:V⦄,rt none (itX (xX (xS (k+8)) 46 0 (k+8) false) Fa (0) (au (xX (xS (k+8)) 46 0 (k+8) false) (av (xS (k+8)).P Tryz.f46) Ep) n ⟨[.ro (List.map aY v0),.ro (List.map aY v1),.fn (Fn.func (47:FuncId)) [] [],uu,uu,uu,.lit (.bool false),j10,j11,j11,.ro (List.map aY v0),.lit (.int .i64 (↑v0.length:Int)),.ro (List.map aY v1),.lit (.int .i64 (↑v1.length:Int)),.lit (.bool ((↑v0.length:Int)!=(↑v1.length:Int))),.ro (List.map aY v0),.lit (.int .i64 (↑v0.length:Int)),.lit (.int .i64 s12),.junk,.junk,.junk,.junk,.junk,.junk,.junk,.junk,.junk,.junk,.junk,.junk,.junk,.junk],[]⟩)=ob (aD k v0 v1  n s12) fun r=>some ((.lit (.bool r)),[]):=by
 intro n
 induction n with
 | zero=>intros;rfl
 | succ n ih=>
  intro s12 j10 j11
  rw [aD]
  simp (maxSteps:=2000000) -implicitDefEqProofs only [aby,Zv,Zr,EC,lh,↓syP,syA,syD,simprocAttr,syE,ah,ag,af,syW,xQ,Cb,O7,ih]
  all_goals simp -implicitDefEqProofs only [List.map_nil]
def aT (k:Nat) (v0:(List Tyw)) (v1:(List Tyw)):Option Bool:=
 bif (↑v0.length:Int)!=(↑v1.length:Int) then
 some false
 else
 aD k v0 v1 (k+8) 0
theorem ep (k:Nat) (v0 v1:List Tyw):xC (k+9) none 46 [.ro (List.map aY v0),.ro (List.map aY v1),.fn (Fn.func (47:FuncId)) [] []]=ob (aT k v0 v1) fun r=>some ((.lit (.bool r)),[]):=by
 rw [aN]
 unfold aT
 simp (maxSteps:=2000000) -implicitDefEqProofs only [aby,Zv,Zr,EC,lh,↓syP,syA,syD,simprocAttr,syE,ah,ag,af,syW,xQ,dy k v0 v1]
 all_goals simp -implicitDefEqProofs only [List.map_nil]
def aC (k:Nat) (v0:(List Tys)) (v1:(List Tys))  : Nat→Int→Option Bool
 | 0,_=>none
 | n+1,s31=>
 bif decide (s31<(↑v0.length:Int)) then
 ob (idx v0 s31) fun x38=>
 ob (idx v1 s31) fun x39=>
 ob (eQ (k+6) (x38.1,x38.2.1,x38.2.2.1,x38.2.2.2.1,x38.2.2.2.2.1,x38.2.2.2.2.2.1,x38.2.2.2.2.2.2.1,x38.2.2.2.2.2.2.2.1,x38.2.2.2.2.2.2.2.2) (x39.1,x39.2.1,x39.2.2.1,x39.2.2.2.1,x39.2.2.2.2.1,x39.2.2.2.2.2.1,x39.2.2.2.2.2.2.1,x39.2.2.2.2.2.2.2.1,x39.2.2.2.2.2.2.2.2)) fun x40=>
 bif !x40 then
 some (false)
 else
 aC k v0 v1  n (IntKind.i64.wrap (s31+(1:Int)))
 else
 some (true)
theorem dq (k:Nat) (v0 v1:List Tys):∀ (n:Nat) (s31:Int) ⦃j29 j30:V⦄,rt none (itX (xX (xS (k+8)) 48 0 (k+8) false) D9 (0) (au (xX (xS (k+8)) 48 0 (k+8) false) (av (xS (k+8)).P Tryz.f48) E1) n ⟨[.ro (List.map cG v0),.ro (List.map cG v1),.fn (Fn.func (49:FuncId)) [] [],uu,uu,uu,.lit (.bool false),j29,j30,j30,.ro (List.map cG v0),.lit (.int .i64 (↑v0.length:Int)),.ro (List.map cG v1),.lit (.int .i64 (↑v1.length:Int)),.lit (.bool ((↑v0.length:Int)!=(↑v1.length:Int))),.ro (List.map cG v0),.lit (.int .i64 (↑v0.length:Int)),.lit (.int .i64 s31),.junk,.junk,.junk,.junk,.junk,.junk,.junk,.junk,.junk,.junk,.junk,.junk,.junk,.junk],[]⟩)=ob (aC k v0 v1  n s31) fun r=>some ((.lit (.bool r)),[]):=by
 intro n
 induction n with
 | zero=>intros;rfl
 | succ n ih=>
  intro s31 j29 j30
  rw [aC]
  simp (maxSteps:=2000000) -implicitDefEqProofs only [aco,ZM,ZC,EZ,lB,↓syP,syA,syD,simprocAttr,syE,ah,ag,af,syW,xQ,xj,O4,ih]
  all_goals simp -implicitDefEqProofs only [List.map_nil]
def aS (k:Nat) (v0:(List Tys)) (v1:(List Tys)):Option Bool:=
 bif (↑v0.length:Int)!=(↑v1.length:Int) then
 some false
 else
 aC k v0 v1 (k+8) 0
theorem eh (k:Nat) (v0 v1:List Tys):xC (k+9) none 48 [.ro (List.map cG v0),.ro (List.map cG v1),.fn (Fn.func (49:FuncId)) [] []]=ob (aS k v0 v1) fun r=>some ((.lit (.bool r)),[]):=by
 rw [aN]
 unfold aS
 simp (maxSteps:=2000000) -implicitDefEqProofs only [aco,ZM,ZC,EZ,lB,↓syP,syA,syD,simprocAttr,syE,ah,ag,af,syW,xQ,dq k v0 v1]
 all_goals simp -implicitDefEqProofs only [List.map_nil]
def gE (k:Nat) (v0:Typ) (v1:Typ):Option Bool:=
 bif v0.1.1==v1.1.1&&(v0.1.2.1==v1.1.2.1&&(v0.1.2.2.1==v1.1.2.2.1&&v0.1.2.2.2==v1.1.2.2.2)) then
 ob (eV k v0.2.1 v1.2.1) fun x45=>
 bif x45 then
 ob (gR (k+9) v0.2.2.1 v1.2.2.1) fun x46=>
 bif x46 then
 ob (aT (k+1) v0.2.2.2.1 v1.2.2.2.1) fun x47=>
 bif x47 then
 ob (aS (k+1) v0.2.2.2.2 v1.2.2.2.2) fun x48=>
 some x48
 else
 some false
 else
 some false
 else
 some false
 else
 some false
theorem C6 (k:Nat) (v0_0_0 v0_0_1 v0_0_2 v0_0_3:Int) (v0_1:Tyt) (v0_2:List Int) (v0_3:List Tyw) (v0_4:List Tys) (v1_0_0 v1_0_1 v1_0_2 v1_0_3:Int) (v1_1:Tyt) (v1_2:List Int) (v1_3:List Tyw) (v1_4:List Tys):xC (k+11) none 19 [.agg [.lit (.int .i64 v0_0_0),.lit (.int .i64 v0_0_1),.lit (.int .i64 v0_0_2),.lit (.int .i64 v0_0_3),.ro (List.map aA v0_1),.ro (List.map (aQ .u64) v0_2),.ro (List.map aY v0_3),.ro (List.map cG v0_4)],.agg [.lit (.int .i64 v1_0_0),.lit (.int .i64 v1_0_1),.lit (.int .i64 v1_0_2),.lit (.int .i64 v1_0_3),.ro (List.map aA v1_1),.ro (List.map (aQ .u64) v1_2),.ro (List.map aY v1_3),.ro (List.map cG v1_4)]]=ob (gE k ((v0_0_0,v0_0_1,v0_0_2,v0_0_3),v0_1,v0_2,v0_3,v0_4) ((v1_0_0,v1_0_1,v1_0_2,v1_0_3),v1_1,v1_2,v1_3,v1_4)) fun r=>some ((.lit (.bool r)),[]):=by
 rw [aN]
 unfold gE
 simp (maxSteps:=2000000) -implicitDefEqProofs only [aeZ,aen,PO,OC,Pj,Pw,uz,aby,Zv,Zr,EC,lh,aco,ZM,ZC,EZ,lB,↓syP,syA,syD,simprocAttr,syE,ah,ag,af,syW,xQ,uX,CJ,ep,eh]
 all_goals simp -implicitDefEqProofs only [List.map_nil]
end Go.Ab
set_option maxRecDepth 100000
set_option linter.unusedVariables false
set_option linter.unusedSimpArgs false
namespace Go.Ab
open Go.Proofs
def bf (k:Nat) (v0:Typ)  : Nat→Bool→Int→Option Bool
 | 0,_,_=>none
 | n+1,s14,s19=>
 bif decide (s19<(↑v0.2.2.2.2.length:Int)) then
 bif decide (s19≤(10:Int)) then
 ob (idx v0.2.2.2.2 s19) fun x26=>
 bif decide ((60:Int)<(↑x26.2.1.length:Int)) then
 some (false)
 else
 bf k v0  n (s14) (IntKind.i64.wrap (s19+(1:Int)))
 else
 bif s14 then
 bif decide ((↑v0.2.2.2.1.length:Int)≤(10:Int)) then
 bif decide ((↑v0.2.2.2.2.length:Int)≤(10:Int)) then
 some (decide ((↑v0.2.2.1.length:Int)≤(500:Int)))
 else
 some (false)
 else
 some (false)
 else
 some (false)
 else
 bif s14 then
 bif decide ((↑v0.2.2.2.1.length:Int)≤(10:Int)) then
 bif decide ((↑v0.2.2.2.2.length:Int)≤(10:Int)) then
 some (decide ((↑v0.2.2.1.length:Int)≤(500:Int)))
 else
 some (false)
 else
 some (false)
 else
 some (false)
theorem iF (k:Nat) (v0_0_0 v0_0_1 v0_0_2 v0_0_3:Int) (v0_1:Tyt) (v0_2:List Int) (v0_3:List Tyw) (v0_4:List Tys):∀ (n:Nat) (s14:Bool) (s19:Int) ⦃s18:Int⦄,rt none (itX (xX (xS (k+1)) 16 0 (k+1) false) nQ (1) (au (xX (xS (k+1)) 16 0 (k+1) false) (av (xS (k+1)).P Tryz.f16) E8) n ⟨(.agg [.lit (.int .i64 v0_0_0),.lit (.int .i64 v0_0_1),.lit (.int .i64 v0_0_2),.lit (.int .i64 v0_0_3),.ro (List.map aA v0_1),.ro (List.map (aQ IntKind.u64) v0_2),.ro (List.map aY v0_3),.ro (List.map cG v0_4)]::.ptr 0 0 0 0::.lit (.bool false)::.lit (.bool s14)::.lit (.int .i64 s18)::.lit (.int .i64 s19)::.ptr 0 0 0 4::.ro (List.map aA v0_1)::.lit (.bool s14)::.junk::.junk::.junk::.junk::.junk::.junk::.junk::.junk::.junk::.junk::.junk::.junk::.junk::.junk::.junk::.junk::.junk::.junk::.junk::.junk::.junk::.junk::.junk::.junk::.junk::.junk::.junk::.junk::.junk::.junk::.junk::.junk::.junk::.junk::.junk::.junk::.junk::.junk::uu::uu::uu::uu::uu::uu::uu::uu::uu::uu::uu::uu::uu::uu::uu::uu::uu::uu::uu::[]),[.box [.lit (.int .i64 v0_0_0),.lit (.int .i64 v0_0_1),.lit (.int .i64 v0_0_2),.lit (.int .i64 v0_0_3),.ro (List.map aA v0_1),.ro (List.map (aQ IntKind.u64) v0_2),.ro (List.map aY v0_3),.ro (List.map cG v0_4)]]⟩)=ob (bf k ((v0_0_0,v0_0_1,v0_0_2,v0_0_3),v0_1,v0_2,v0_3,v0_4)  n s14 s19) fun r=>some ((.lit (.bool r)),[]):=by
 intro n
 induction n with
 | zero=>intros;rfl
 | succ n ih=>
  intro s14 s19 s18
  rw [bf]
  simp (maxSteps:=2000000) -implicitDefEqProofs only [abH,Zy,Zo,Fi,DO,El,DY,E7,Ej,D5,lC,ly,lF,lD,lc,↓syP,syA,syD,simprocAttr,syE,ah,ag,af,syW,xQ,eR,Pb,ih]
  all_goals simp -implicitDefEqProofs only [List.map_nil]
def bv (k:Nat) (v0:Typ)  : Nat→Bool→Int→Option Bool
 | 0,_,_=>none
 | n+1,s9,s12=>
 bif decide (s12<(↑v0.2.2.2.1.length:Int)) then
 bif decide (s12≤(10:Int)) then
 ob (idx v0.2.2.2.1 s12) fun x24=>
 bif decide ((40:Int)<(↑x24.2.1.length:Int)) then
 some (false)
 else
 bv k v0  n (s9) (IntKind.i64.wrap (s12+(1:Int)))
 else
 bf k v0 (k+1) (s9) ((0:Int))
 else
 bf k v0 (k+1) (s9) ((0:Int))
theorem iv (k:Nat) (v0_0_0 v0_0_1 v0_0_2 v0_0_3:Int) (v0_1:Tyt) (v0_2:List Int) (v0_3:List Tyw) (v0_4:List Tys):∀ (n:Nat) (s9:Bool) (s12:Int),rt none (itX (xX (xS (k+1)) 16 0 (k+1) false) nU (1) (au (xX (xS (k+1)) 16 0 (k+1) false) (av (xS (k+1)).P Tryz.f16) Ee) n ⟨(.agg [.lit (.int .i64 v0_0_0),.lit (.int .i64 v0_0_1),.lit (.int .i64 v0_0_2),.lit (.int .i64 v0_0_3),.ro (List.map aA v0_1),.ro (List.map (aQ IntKind.u64) v0_2),.ro (List.map aY v0_3),.ro (List.map cG v0_4)]::.ptr 0 0 0 0::.lit (.bool false)::.lit (.bool s9)::.lit (.int .i64 s12)::uu::.ptr 0 0 0 4::.ro (List.map aA v0_1)::.lit (.bool s9)::.junk::.junk::.junk::.junk::.junk::.junk::.junk::.junk::.junk::.junk::.junk::.junk::.junk::.junk::.junk::.junk::.junk::.junk::.junk::uu::uu::uu::uu::uu::uu::uu::uu::uu::uu::uu::uu::uu::uu::uu::uu::uu::uu::uu::uu::uu::uu::uu::uu::uu::uu::uu::uu::uu::uu::uu::uu::uu::uu::uu::uu::uu::uu::[]),[.box [.lit (.int .i64 v0_0_0),.lit (.int .i64 v0_0_1),.lit (.int .i64 v0_0_2),.lit (.int .i64 v0_0_3),.ro (List.map aA v0_1),.ro (List.map (aQ IntKind.u64) v0_2),.ro (List.map aY v0_3),.ro (List.map cG v0_4)]]⟩)=ob (bv k ((v0_0_0,v0_0_1,v0_0_2,v0_0_3),v0_1,v0_2,v0_3,v0_4)  n s9 s12) fun r=>some ((.lit (.bool r)),[]):=by
 intro n
 induction n with
 | zero=>intros;rfl
 | succ n ih=>
  intro s9 s12
  rw [bv]
  simp (maxSteps:=2000000) -implicitDefEqProofs only [abH,Zy,Zo,Fi,DO,El,DY,E7,Ej,D5,lC,ly,lF,lD,lc,↓syP,syA,syD,simprocAttr,syE,ah,ag,af,syW,xQ,eR,OI,ih,iF k v0_0_0 v0_0_1 v0_0_2 v0_0_3 v0_1 v0_2 v0_3 v0_4]
  all_goals simp -implicitDefEqProofs only [List.map_nil]
def cN (k:Nat) (v0:Typ):Option Bool:=
 ob (cS k v0.2.1) fun x27=>
 bv k v0 (k+1) x27 0
theorem mK (k:Nat) (v0_0_0 v0_0_1 v0_0_2 v0_0_3:Int) (v0_1:Tyt) (v0_2:List Int) (v0_3:List Tyw) (v0_4:List Tys):xC (k+2) none 16 [.agg [.lit (.int .i64 v0_0_0),.lit (.int .i64 v0_0_1),.lit (.int .i64 v0_0_2),.lit (.int .i64 v0_0_3),.ro (List.map aA v0_1),.ro (List.map (aQ .u64) v0_2),.ro (List.map aY v0_3),.ro (List.map cG v0_4)]]=ob (cN k ((v0_0_0,v0_0_1,v0_0_2,v0_0_3),v0_1,v0_2,v0_3,v0_4)) fun r=>some ((.lit (.bool r)),[]):=by
 rw [aN]
 unfold cN
 simp (maxSteps:=2000000) -implicitDefEqProofs only [abH,Zy,Zo,Fi,DO,El,DY,E7,Ej,D5,lC,ly,lF,lD,lc,↓syP,syA,syD,simprocAttr,syE,ah,ag,af,syW,xQ,eR,iv k v0_0_0 v0_0_1 v0_0_2 v0_0_3 v0_1 v0_2 v0_3 v0_4]
 all_goals simp -implicitDefEqProofs only [List.map_nil]
def bu (k:Nat) (v0:Tye) (v1:Tye)  : Nat→Int→Option Bool
 | 0,_=>none
 | n+1,s32=>
 bif decide (s32<(↑v0.length:Int)) then
 ob (idx v0 s32) fun x37=>
 ob (idx v1 s32) fun x38=>
 bif !(x37.1==x38.1&&(x37.2.1==x38.2.1&&x37.2.2==x38.2.2)) then
 some (false)
 else
 bu k v0 v1  n (IntKind.i64.wrap (s32+(1:Int)))
 else
 some (true)
theorem i4 (k:Nat) (v0 v1:Tye):∀ (n:Nat) (s32:Int),rt none (itX (xX (xS k) 18 0 k false) EL (0) (au (xX (xS k) 18 0 k false) (av (xS k).P Tryz.f18) Ey) n ⟨[.ro (List.map aE v0),.ro (List.map aE v1),uu,uu,.lit (.bool false),.lit (.int .i64 s32),.ro (List.map aE v0),.lit (.int .i64 (↑v0.length:Int)),.ro (List.map aE v1),.lit (.int .i64 (↑v1.length:Int)),.lit (.bool ((↑v0.length:Int)!=(↑v1.length:Int))),.junk,.junk,.junk,.junk,.junk,.junk,.junk,.junk,.junk,.junk,.junk,.junk,.junk,.junk,.junk],[]⟩)=ob (bu k v0 v1  n s32) fun r=>some ((.lit (.bool r)),[]):=by
 intro n
 induction n with
 | zero=>intros;rfl
 | succ n ih=>
  intro s32
  rw [bu]
  simp (maxSteps:=2000000) -implicitDefEqProofs only [ad3,acR,adh,JB,nq,↓syP,syA,syD,simprocAttr,syE,ah,ag,af,syW,xQ,Ob,ih]
  all_goals simp -implicitDefEqProofs only [List.map_nil]
def cP (k:Nat) (v0:Tye) (v1:Tye):Option Bool:=
 bif (↑v0.length:Int)!=(↑v1.length:Int) then
 some false
 else
 bu k v0 v1 k 0
theorem mR (k:Nat) (v0 v1:Tye):xC (k+1) none 18 [.ro (List.map aE v0),.ro (List.map aE v1)]=ob (cP k v0 v1) fun r=>some ((.lit (.bool r)),[]):=by
 rw [aN]
 unfold cP
 simp (maxSteps:=2000000) -implicitDefEqProofs only [ad3,acR,adh,JB,nq,↓syP,syA,syD,simprocAttr,syE,ah,ag,af,syW,xQ,i4 k v0 v1]
 all_goals simp -implicitDefEqProofs only [List.map_nil]
end Go.Ab
set_option maxRecDepth 100000
set_option maxHeartbeats 4000000
set_option linter.unusedVariables false
set_option linter.unusedSimpArgs false
namespace Go.Ab
open Go.Proofs
def awS:Nat→Typ
 | 0=>((1,1,1,0),[],List.replicate 12 0,[(0,[],(1,0,0,0,0,0,0),0,0)],[])
 | n+1=>match lY 0 (awS n) (0,0,0) with | some r=>r.1 | none=>((0,0,0,0),[],[],[],[])
def awR:=match cJ 0 (awS 20) [(0,0,0),(2,0,0)] with | some r=>r.1 | none=>awS 0
abbrev awC (x:Typ):List V:=
 [.lit (.int .i64 x.1.1),.lit (.int .i64 x.1.2.1),.lit (.int .i64 x.1.2.2.1),.lit (.int .i64 x.1.2.2.2),.ro (List.map aA x.2.1),.ro (List.map (aQ .u64) x.2.2.1),.ro (List.map aY x.2.2.2.1),.ro (List.map cG x.2.2.2.2)]
section
variable (j:Nat)
theorem aeB:xC (j+79) none 23 [.agg [.lit (.int .i64 1),.lit (.int .i64 1),.lit (.int .i64 1),.lit (.int .i64 0)],.nil,.nil]=some (.tup [.agg (awC (awS 0)),.lit (.bool true)],[]):=by kernel_rfl
theorem ae5:xC (j+79) none 26 [.agg (awC (awS 0))]=some (.lit (.int .i64 0),[]):=by kernel_rfl
theorem aeH:xC (j+79) none 25 [.agg (awC (awS 0))]=some (.lit (.bool false),[]):=by kernel_rfl
theorem afi:xC (j+79) none 29 [.agg (awC (awS 0))]=some (.lit (.bool false),[]):=by kernel_rfl
theorem aeX:xC (j+79) none 20 [.agg (awC (awS 0))]=some (.lit (.bool true),[]):=by kernel_rfl
def awM:List Int:=[0,0,1,0,0,0,0,0,0,0,0,0]
def awW:List Tyw:=[(8,[],(5,3,0,0,0,0,0),0,0)]
theorem Jh:awS 20=((1,1,1,0),[],awM,awW,[]):=by kernel_rfl
theorem Vp:awR=((1,1,1,0),[],[0,0,1,1,0,0,0,0,0,0,0,0],awW,[]):=by kernel_rfl
theorem aca:xC (j+79) none 25 [.agg (awC (awS 20))]=some (.lit (.bool true),[]):=by
 rw [Jh]
 kernel_rfl
theorem abm:xC (j+79) none 29 [.agg (awC (awS 20))]=some (.lit (.bool true),[]):=by
 rw [Jh]
 kernel_rfl
theorem ae6:xC (j+79) none 19 [.agg (awC (awS 20)),.agg (awC (awS 20))]=some (.lit (.bool true),[]):=by
 rw [Jh]
 kernel_rfl
theorem adj:xC (j+79) none 20 [.agg (awC awR)]=some (.lit (.bool true),[]):=by
 rw [Vp]
 kernel_rfl
theorem afj:xC (j+79) none 17 [.agg (awC (awS 20)),.ro (List.map eT [(0,0,0),(2,0,0)])]=some (.tup [.agg (awC awR),.ro []],[]):=(nE (j+16) _ _ _ _ _ _ _ _ _).trans (by kernel_rfl)
theorem aeC:∀ i:Nat,i<20→xC (j+79) none 24 [.agg (awC (awS i)),.agg [.lit (.int .i64 0),.lit (.int .i64 0),.lit (.int .u64 0)]]=some (.tup [.agg (awC (awS (i+1))),.ro []],[]):=by
 intro i hi
 refine (CP (j+15) _ _ _ _ _ _ _ _ _ _ _).trans ?_
 iterate 20
  rcases i with _ | i
  ·kernel_rfl
 omega
end
theorem aww {z:Int} (h:0≤z) (h':z≤99):IntKind.i64.wrap z=z:=Hy (by omega) (by omega)
theorem WN (j:Nat):xC (j+80) none 15 []=some (.lit (.bool true),[]):=by
 rw [aN]
 simp (maxSteps:=2000000) -implicitDefEqProofs only [afd,adW,ad4,Pp,Pe,PA,PR,OP,O5,PM,Oz,OJ,Pc,uK,ug,ue,↓syP,syA,syD,simprocAttr,syE,ah,ag,af,syW,xQ,aeB,ae5,aeH,afi,aeX,aca,abm,ae6,adj,afj,aeC,Pa,awC,aww,decide_true,decide_false,cond_true,cond_false]
end Go.Ab
