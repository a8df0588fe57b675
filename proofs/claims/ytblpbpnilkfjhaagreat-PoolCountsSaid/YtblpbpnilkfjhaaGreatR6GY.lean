import Derived.Test.YtblpbpnilkfjhaaGreatR6GX
import Derived.Test.YtblpbpnilkfjhaaGreatR6BP
import Derived.Test.YtblpbpnilkfjhaaGreatR6BX
import Derived.Test.YtblpbpnilkfjhaaGreatR6BY
import Derived.Test.YtblpbpnilkfjhaaGreatR6BA
set_option linter.unusedVariables false
set_option linter.unusedSimpArgs false
set_option maxRecDepth 100000
set_option linter.unusedVariables false
set_option linter.unusedSimpArgs false
namespace Go.Ab
open Go.Proofs
def iv (v0:(Int×Int×Int)) (v1:Int) (v2:Int):Option Bool:=
 bif v0.1==0 then
 ob (cY v0.2.1 v1) fun x4=>
 bif x4 then
 some true
 else
 bif v0.1==1 then
 ob (cY v0.2.1 v2) fun x5=>
 bif x5 then
 some true
 else
 bif v0.1==2 then
 some true
 else
 some (v0.1==3)
 else
 bif v0.1==2 then
 some true
 else
 some (v0.1==3)
 else
 bif v0.1==1 then
 ob (cY v0.2.1 v2) fun x6=>
 bif x6 then
 some true
 else
 bif v0.1==2 then
 some true
 else
 some (v0.1==3)
 else
 bif v0.1==2 then
 some true
 else
 some (v0.1==3)
theorem D8 (k:Nat) (v0_0 v0_1 v0_2 v1 v2:Int):xC (k+2) none 42 [.agg [.lit (.int .i64 v0_0),.lit (.int .i64 v0_1),.lit (.int .u64 v0_2)],.lit (.int .i64 v1),.lit (.int .i64 v2)]=ob (iv (v0_0,v0_1,v0_2) v1 v2) fun r=>some ((.lit (.bool r)),[]):=by
 rw [aK]
 unfold iv
 simp (maxSteps:=2000000) -implicitDefEqProofs only [agd,afi,QF,QS,PH,Q1,Qn,QT,Ql,Qj,QJ,wU,↓syP,syA,syD,simprocAttr,syE,ah,ag,af,syW,xQ,oZ]
 all_goals simp -implicitDefEqProofs only [List.map_nil]
def cI (k:Nat) (v0:(List (Int×List Int)))  : Nat→List (Int×List Int)→Int→Int→List (Int×List Int)→Option (List (Int×List Int))
 | 0,_,_,_,_=>none
 | n+1,s23,s24,s30,s31=>
 bif decide (s30<s24) then
 bif decide ((0:Int)≤s30∧s30.toNat<s23.length) then
 ob (s31[s30.toNat]?) fun x39=>
 ob (aL 8 x39.2) fun x40=>
 bif decide ((0:Int)≤s30∧s30.toNat<s23.length) then
 ob (s31[s30.toNat]?) fun x41=>
 cI k v0  n (s23) (s24) (IntKind.i64.wrap (s30+(1:Int))) (s31.set s30.toNat (x41.1,x40))
 else
 none
 else
 none
 else
 ck (decide (s23.length≤s31.length)) (
 some (List.take s23.length s31))
theorem nF (k:Nat) (v0:List (Int×List Int)):∀ (n:Nat) (s23:List (Int×List Int)) (s24:Int) (s30:Int) (s31:List (Int×List Int)) ⦃j29:V⦄,rt none (itX (xX (xS (k+1)) 58 0 (k+1) false) FX (2) (au (xX (xS (k+1)) 58 0 (k+1) false) (aC (xS (k+1)).P Tryz.f58) FB) n ⟨[.ro (List.map ao v0),uu,.own 0 0 0,.own 1 0 s23.length,j29,.ro (List.map ao v0),.own 1 0 s23.length,.own 1 0 s23.length,.lit (.int .i64 s24),.lit (.int .i64 s30),.junk,.junk,.junk,.junk,.junk,.junk,.junk,.junk,.junk,.junk,.junk,.junk,.junk,uu],[.rows 0 [] 0 true,.rows 2 (List.map ao s31) 0 true]⟩)=ob (cI k v0  n s23 s24 s30 s31) fun r=>some ((.ro (List.map ao r)),[]):=by
 intro n
 induction n with
 | zero=>intros;rfl
 | succ n ih=>
  intro s23 s24 s30 s31 j29
  rw [cI]
  simp (maxSteps:=2000000) -implicitDefEqProofs only [afv,abU,acb,Lg,oU,↓syP,syA,syD,simprocAttr,syE,ah,ag,af,syW,xQ,PR,ih]
  all_goals simp -implicitDefEqProofs only [List.map_nil]
def dX (k:Nat) (v0:(List (Int×List Int))):Option (List (Int×List Int)):=
 ob (aL 32 v0) fun x42=>
 cI k v0 (k+1) x42 ((↑x42.length:Int)) 0 x42
theorem fh (k:Nat) (v0:List (Int×List Int)):xC (k+2) none 58 [.ro (List.map ao v0)]=ob (dX k v0) fun r=>some ((.ro (List.map ao r)),[]):=by
 rw [aK]
 unfold dX
 simp (maxSteps:=2000000) -implicitDefEqProofs only [afv,abU,acb,Lg,oU,↓syP,syA,syD,simprocAttr,syE,ah,ag,af,syW,xQ,nF k v0]
 all_goals simp -implicitDefEqProofs only [List.map_nil]
end Go.Ab
set_option maxRecDepth 100000
set_option linter.unusedVariables false
set_option linter.unusedSimpArgs false
namespace Go.Ab
open Go.Proofs
def bQ (k:Nat)   : Nat→List Int→Int→List (Int×List Int)→Int→Option Int
 | 0,_,_,_,_=>none
 | n+1,s20,s21,s26,s40=>
 bif decide (s40<s21) then
 ob (idx s20 s40) fun x46=>
 bif decide (x46<(0:Int)) then
 some (s40)
 else
 bif decide ((↑s26.length:Int)≤x46) then
 some (s40)
 else
 bQ k   n (s20) (s21) (s26) (IntKind.i64.wrap (s40+(1:Int)))
 else
 some ((-1:Int))
theorem mP (k:Nat)  : ∀ (n:Nat) (s20:List Int) (s21:Int) (s26:List (Int×List Int)) (s40:Int) ⦃s22:Int⦄ ⦃s23:Int⦄ ⦃s24:Int⦄ ⦃s25:Int⦄ ⦃s27:List Int⦄ ⦃s28:List (Int×List (Int×Int×Int)×(Int×Int×Int×Int×Int×Int×Int)×Int×Int)⦄ ⦃s29:List (Int×List Int×Int×Int×Int×Int×Int×Int×Int)⦄ ⦃s30:Int⦄ ⦃s31:Int⦄ ⦃s32:Int⦄ ⦃s33:Int⦄ ⦃s34:Int⦄ ⦃s35:Int⦄ ⦃s36:Int⦄ ⦃s37:Int⦄ ⦃j39:V⦄,itX (xX (xS (k+29)) 97 0 (k+29) false) FJ (4) (au (xX (xS (k+29)) 97 0 (k+29) false) (aC (xS (k+29)).P Tryz.f97) FG) n ⟨[.ro (List.map (aI IntKind.i64) s20),.fn (Fn.func (54:FuncId)) [] [.ptr 0 0 0 0],uu,uu,.lit (.int .i64 (0:Int)),j39,.ro (List.map (aI IntKind.i64) s20),.lit (.int .i64 s21),.lit (.int .i64 s40),.junk,.junk,.junk,.junk,.junk,.junk,.junk,.junk,.junk,.junk],[.box [.lit (.int .i64 s22),.lit (.int .i64 s23),.lit (.int .i64 s24),.lit (.int .i64 s25),.ro (List.map ao s26),.ro (List.map (aI IntKind.u64) s27),.ro (List.map aP s28),.ro (List.map b8 s29)],.box [.lit (.bool false)],.box [.lit (.int .i64 s22),.lit (.int .i64 s23),.lit (.int .i64 s24),.lit (.int .i64 s25),.ro (List.map ao s26),.ro (List.map (aI IntKind.u64) s27),.ro (List.map aP s28),.ro (List.map b8 s29)],.box [.lit (.int .i64 s30),.ro (List.map (aI IntKind.i64) s20),.lit (.int .i64 s31),.lit (.int .i64 s32),.lit (.int .i64 s33),.lit (.int .u64 s34),.lit (.int .u64 s35),.lit (.int .u64 s36),.lit (.int .i64 s37)]]⟩=ob (bQ k   n s20 s21 s26 s40) fun r=>some ((.lit (.int .i64 r),[.box [.lit (.int .i64 s22),.lit (.int .i64 s23),.lit (.int .i64 s24),.lit (.int .i64 s25),.ro (List.map ao s26),.ro (List.map (aI IntKind.u64) s27),.ro (List.map aP s28),.ro (List.map b8 s29)],.box [.lit (.bool false)],.box [.lit (.int .i64 s22),.lit (.int .i64 s23),.lit (.int .i64 s24),.lit (.int .i64 s25),.ro (List.map ao s26),.ro (List.map (aI IntKind.u64) s27),.ro (List.map aP s28),.ro (List.map b8 s29)],.box [.lit (.int .i64 s30),.ro (List.map (aI IntKind.i64) s20),.lit (.int .i64 s31),.lit (.int .i64 s32),.lit (.int .i64 s33),.lit (.int .u64 s34),.lit (.int .u64 s35),.lit (.int .u64 s36),.lit (.int .i64 s37)]])):=by
 intro n
 induction n with
 | zero=>intros;rfl
 | succ n ih=>
  intro s20 s21 s26 s40 s22 s23 s24 s25 s27 s28 s29 s30 s31 s32 s33 s34 s35 s36 s37 j39
  rw [bQ]
  simp (maxSteps:=2000000) -implicitDefEqProofs only [aaR,Zw,aal,Bl,BG,Cv,dI,dF,iQ,kx,nW,aaS,Wy,aK (g:=51),aaJ,Yw,aaU,V4,Cq,Ce,Bu,Bv,CH,CL,Bk,Cy,kC,aaY,Z6,B5,i9,aaH,ZX,aaP,Zs,X2,CM,CU,i6,kP,aaF,Wq,YQ,Bd,kL,aaW,YK,W7,C0,kE,↓syP,syA,syD,simprocAttr,syE,ah,ag,af,syW,xQ,Qy,ih]
  all_goals simp -implicitDefEqProofs only [List.map_nil]
def bB (k:Nat)   : Nat→List (Int×List Int×Int×Int×Int×Int×Int×Int×Int)→Int→List (Int×List Int)→Int→Option Int
 | 0,_,_,_,_=>none
 | n+1,s9,s10,s15,s50=>
 bif decide (s50<s10) then
 ob (idx s9 s50) fun x59=>
 bif decide (x59.1<(0:Int)) then
 some (s50)
 else
 bif decide ((6:Int)≤x59.1) then
 some (s50)
 else
 ob (bQ k (k+29) x59.2.1 (↑x59.2.1.length:Int) s15 (0:Int)) fun x60=>
 bif decide ((0:Int)≤x60) then
 some (s50)
 else
 bif x59.1 !=(0:Int) then
 bif (↑x59.2.1.length:Int)==(0:Int) then
 some (s50)
 else
 bB k   n (s9) (s10) (s15) (IntKind.i64.wrap (s50+(1:Int)))
 else
 bB k   n (s9) (s10) (s15) (IntKind.i64.wrap (s50+(1:Int)))
 else
 some ((-1:Int))
theorem mO (k:Nat)  : ∀ (n:Nat) (s9:List (Int×List Int×Int×Int×Int×Int×Int×Int×Int)) (s10:Int) (s15:List (Int×List Int)) (s50:Int) ⦃s11:Int⦄ ⦃s12:Int⦄ ⦃s13:Int⦄ ⦃s14:Int⦄ ⦃s16:List Int⦄ ⦃s17:List (Int×List (Int×Int×Int)×(Int×Int×Int×Int×Int×Int×Int)×Int×Int)⦄ ⦃j49:V⦄,itX (xX (xS (k+32)) 96 0 (k+32) false) FQ (3) (au (xX (xS (k+32)) 96 0 (k+32) false) (aC (xS (k+32)).P Tryz.f96) Fo) n ⟨[.ro (List.map b8 s9),.fn (Fn.func (53:FuncId)) [] [.ptr 0 0 0 0],uu,uu,.lit (.int .i64 (0:Int)),j49,.ro (List.map b8 s9),.lit (.int .i64 s10),.lit (.int .i64 s50),.junk,.junk,.junk,.junk,.junk,.junk,.junk,.junk,.junk,.junk],[.box [.lit (.int .i64 s11),.lit (.int .i64 s12),.lit (.int .i64 s13),.lit (.int .i64 s14),.ro (List.map ao s15),.ro (List.map (aI IntKind.u64) s16),.ro (List.map aP s17),.ro (List.map b8 s9)],.box [.lit (.bool false)],.box [.lit (.int .i64 s11),.lit (.int .i64 s12),.lit (.int .i64 s13),.lit (.int .i64 s14),.ro (List.map ao s15),.ro (List.map (aI IntKind.u64) s16),.ro (List.map aP s17),.ro (List.map b8 s9)]]⟩=ob (bB k   n s9 s10 s15 s50) fun r=>some ((.lit (.int .i64 r),[.box [.lit (.int .i64 s11),.lit (.int .i64 s12),.lit (.int .i64 s13),.lit (.int .i64 s14),.ro (List.map ao s15),.ro (List.map (aI IntKind.u64) s16),.ro (List.map aP s17),.ro (List.map b8 s9)],.box [.lit (.bool false)],.box [.lit (.int .i64 s11),.lit (.int .i64 s12),.lit (.int .i64 s13),.lit (.int .i64 s14),.ro (List.map ao s15),.ro (List.map (aI IntKind.u64) s16),.ro (List.map aP s17),.ro (List.map b8 s9)]])):=by
 intro n
 induction n with
 | zero=>intros;rfl
 | succ n ih=>
  intro s9 s10 s15 s50 s11 s12 s13 s14 s16 s17 j49
  rw [bB]
  simp (maxSteps:=2000000) -implicitDefEqProofs only [aaR,Zw,aal,Bl,BG,Cv,dI,dF,iQ,kx,nW,aaS,Wy,aK (g:=51),aaJ,Yw,aaU,V4,Cq,Ce,Bu,Bv,CH,CL,Bk,Cy,kC,aaY,Z6,B5,i9,aaH,ZX,aaP,Zs,X2,CM,CU,i6,kP,aaF,Wq,YQ,Bd,kL,aaW,YK,W7,C0,kE,↓syP,syA,syD,simprocAttr,syE,ah,ag,af,syW,xQ,mP,PT,ih]
  all_goals simp -implicitDefEqProofs only [List.map_nil]
def dy (k:Nat) (v0:((Int×Int×Int×Int)×List (Int×List Int)×List Int×List (Int×List (Int×Int×Int)×(Int×Int×Int×Int×Int×Int×Int)×Int×Int)×List (Int×List Int×Int×Int×Int×Int×Int×Int×Int)))  : Nat→Int→Option Bool
 | 0,_=>none
 | n+1,s67=>
 bif decide (s67<(↑v0.2.2.2.1.length:Int)) then
 ob (idx v0.2.2.2.1 s67) fun x75=>
 ob (gS (k+9) (v0.1.1,v0.1.2.1,v0.1.2.2.1,v0.1.2.2.2) v0.2.1 v0.2.2.1 s67 (x75.1,x75.2.1,(x75.2.2.1.1,x75.2.2.1.2.1,x75.2.2.1.2.2.1,x75.2.2.1.2.2.2.1,x75.2.2.1.2.2.2.2.1,x75.2.2.1.2.2.2.2.2.1,x75.2.2.1.2.2.2.2.2.2),x75.2.2.2.1,x75.2.2.2.2)) fun x76=>
 bif !x76 then
 some (false)
 else
 dy k v0  n (IntKind.i64.wrap (s67+(1:Int)))
 else
 ob (bB k (k+32) v0.2.2.2.2 (↑v0.2.2.2.2.length:Int) v0.2.1 (0:Int)) fun x77=>
 some (!decide ((0:Int)≤x77))
theorem pw (k:Nat) (v0_0_0 v0_0_1 v0_0_2 v0_0_3:Int) (v0_1:List (Int×List Int)) (v0_2:List Int) (v0_3:List (Int×List (Int×Int×Int)×(Int×Int×Int×Int×Int×Int×Int)×Int×Int)) (v0_4:List (Int×List Int×Int×Int×Int×Int×Int×Int×Int)):∀ (n:Nat) (s67:Int) ⦃s3:Bool⦄ ⦃s4:Bool⦄ ⦃j65 j66:V⦄,rt none (bq (itX (xX (xS (k+33)) 94 0 (k+33) false) oX (4) (au (xX (xS (k+33)) 94 0 (k+33) false) (aC (xS (k+33)).P Tryz.f94) FN) n ⟨[.yld 3,.ptr 2 0 0 0,uu,j65,j66,.ptr 2 0 0 6,.ro (List.map aP v0_3),.lit (.int .i64 (↑v0_3.length:Int)),.lit (.int .i64 s67),.junk,.junk,.junk,.junk,.junk,.junk,.junk,.junk,.junk,.junk,.junk,.junk,.junk,.junk,.junk,.junk,.junk,.junk,.junk,.junk,.junk],[.box [.lit (.int .i64 v0_0_0),.lit (.int .i64 v0_0_1),.lit (.int .i64 v0_0_2),.lit (.int .i64 v0_0_3),.ro (List.map ao v0_1),.ro (List.map (aI IntKind.u64) v0_2),.ro (List.map aP v0_3),.ro (List.map b8 v0_4)],.box [.lit (.bool false)],.box [.lit (.int .i64 v0_0_0),.lit (.int .i64 v0_0_1),.lit (.int .i64 v0_0_2),.lit (.int .i64 v0_0_3),.ro (List.map ao v0_1),.ro (List.map (aI IntKind.u64) v0_2),.ro (List.map aP v0_3),.ro (List.map b8 v0_4)],(.loop ⟨LoopState.ready,none,20,[.agg [.lit (.int .i64 v0_0_0),.lit (.int .i64 v0_0_1),.lit (.int .i64 v0_0_2),.lit (.int .i64 v0_0_3),.ro (List.map ao v0_1),.ro (List.map (aI IntKind.u64) v0_2),.ro (List.map aP v0_3),.ro (List.map b8 v0_4)],.ptr 0 0 0 0,.ptr 1 0 0 0,.ptr 0 0 0 0,.agg [.lit (.int .i64 v0_0_0),.lit (.int .i64 v0_0_1),.lit (.int .i64 v0_0_2),.lit (.int .i64 v0_0_3)],.lit (.bool s3),.lit (.bool s4),.lit (.bool false),.ptr 0 0 0 6,.ro (List.map aP v0_3),.lit (.int .i64 (↑v0_3.length:Int)),.ptr 0 0 0 0,.ptr 0 0 0 0,.lit (.int .i64 v0_0_0),.lit (.bool ((↑v0_3.length:Int)!=v0_0_0)),.lit (.bool ((↑v0_3.length:Int)!=v0_0_0)),.lit (.bool false),.ptr 0 0 0 7,.ro (List.map b8 v0_4),.lit (.int .i64 (↑v0_4.length:Int)),.lit (.bool (decide ((3:Int)<(↑v0_4.length:Int)))),.lit (.bool (decide ((3:Int)<(↑v0_4.length:Int)))),.agg [.lit (.int .i64 v0_0_0),.lit (.int .i64 v0_0_1),.lit (.int .i64 v0_0_2),.lit (.int .i64 v0_0_3),.ro (List.map ao v0_1),.ro (List.map (aI IntKind.u64) v0_2),.ro (List.map aP v0_3),.ro (List.map b8 v0_4)],.fn (Fn.func (94:FuncId)) [] [.ptr 2 0 0 0],uu,uu,uu,uu,uu,uu],[(24:Tmp)],I3,IS⟩)]⟩) (rfK (au (xX (xS (k+34)) 20 0 (k+34) false) (aC (xS (k+34)).P Tryz.f20) FE) [.agg [.lit (.int .i64 v0_0_0),.lit (.int .i64 v0_0_1),.lit (.int .i64 v0_0_2),.lit (.int .i64 v0_0_3),.ro (List.map ao v0_1),.ro (List.map (aI IntKind.u64) v0_2),.ro (List.map aP v0_3),.ro (List.map b8 v0_4)],.ptr 0 0 0 0,.ptr 1 0 0 0,.ptr 0 0 0 0,.agg [.lit (.int .i64 v0_0_0),.lit (.int .i64 v0_0_1),.lit (.int .i64 v0_0_2),.lit (.int .i64 v0_0_3)],.lit (.bool s3),.lit (.bool s4),.lit (.bool false),.ptr 0 0 0 6,.ro (List.map aP v0_3),.lit (.int .i64 (↑v0_3.length:Int)),.ptr 0 0 0 0,.ptr 0 0 0 0,.lit (.int .i64 v0_0_0),.lit (.bool ((↑v0_3.length:Int)!=v0_0_0)),.lit (.bool ((↑v0_3.length:Int)!=v0_0_0)),.lit (.bool false),.ptr 0 0 0 7,.ro (List.map b8 v0_4),.lit (.int .i64 (↑v0_4.length:Int)),.lit (.bool (decide ((3:Int)<(↑v0_4.length:Int)))),.lit (.bool (decide ((3:Int)<(↑v0_4.length:Int)))),.agg [.lit (.int .i64 v0_0_0),.lit (.int .i64 v0_0_1),.lit (.int .i64 v0_0_2),.lit (.int .i64 v0_0_3),.ro (List.map ao v0_1),.ro (List.map (aI IntKind.u64) v0_2),.ro (List.map aP v0_3),.ro (List.map b8 v0_4)],.fn (Fn.func (94:FuncId)) [] [.ptr 2 0 0 0],uu,uu,uu,uu,uu,uu] (3)))=ob (dy k ((v0_0_0,v0_0_1,v0_0_2,v0_0_3),v0_1,v0_2,v0_3,v0_4)  n s67) fun r=>some ((.lit (.bool r)),[]):=by
 intro n
 induction n with
 | zero=>intros;rfl
 | succ n ih=>
  intro s67 s3 s4 j65 j66
  rw [dy]
  simp (maxSteps:=2000000) -implicitDefEqProofs only [aaR,Zw,aal,Bl,BG,Cv,dI,dF,iQ,kx,nW,aaS,Wy,aK (g:=51),aaJ,Yw,aaU,V4,Cq,Ce,Bu,Bv,CH,CL,Bk,Cy,kC,aaY,Z6,B5,i9,aaH,ZX,aaP,Zs,X2,CM,CU,i6,kP,aaF,Wq,YQ,Bd,kL,aaW,YK,W7,C0,kE,↓syP,syA,syD,simprocAttr,syE,ah,ag,af,syW,xQ,bU,xe,mO,Q8,ih]
  all_goals simp -implicitDefEqProofs only [List.map_nil]
def iZ (k:Nat) (v0:((Int×Int×Int×Int)×List (Int×List Int)×List Int×List (Int×List (Int×Int×Int)×(Int×Int×Int×Int×Int×Int×Int)×Int×Int)×List (Int×List Int×Int×Int×Int×Int×Int×Int×Int))):Option Bool:=
 ob (bL v0.1) fun x78=>
 bif !x78 then
 some false
 else
 bif (↑v0.2.2.2.1.length:Int)!=v0.1.1 then
 some false
 else
 bif decide (3<(↑v0.2.2.2.2.length:Int)) then
 some false
 else
 dy k v0 (k+33) 0
theorem w7 (k:Nat) (v0_0_0 v0_0_1 v0_0_2 v0_0_3:Int) (v0_1:List (Int×List Int)) (v0_2:List Int) (v0_3:List (Int×List (Int×Int×Int)×(Int×Int×Int×Int×Int×Int×Int)×Int×Int)) (v0_4:List (Int×List Int×Int×Int×Int×Int×Int×Int×Int)):xC (k+35) none 20 [.agg [.lit (.int .i64 v0_0_0),.lit (.int .i64 v0_0_1),.lit (.int .i64 v0_0_2),.lit (.int .i64 v0_0_3),.ro (List.map ao v0_1),.ro (List.map (aI .u64) v0_2),.ro (List.map aP v0_3),.ro (List.map b8 v0_4)]]=ob (iZ k ((v0_0_0,v0_0_1,v0_0_2,v0_0_3),v0_1,v0_2,v0_3,v0_4)) fun r=>some ((.lit (.bool r)),[]):=by
 rw [aK]
 unfold iZ
 simp (maxSteps:=2000000) -implicitDefEqProofs only [aaR,Zw,aal,Bl,BG,Cv,dI,dF,iQ,kx,nW,aaS,Wy,aK (g:=51),aaJ,Yw,aaU,V4,Cq,Ce,Bu,Bv,CH,CL,Bk,Cy,kC,aaY,Z6,B5,i9,aaH,ZX,aaP,Zs,X2,CM,CU,i6,kP,aaF,Wq,YQ,Bd,kL,aaW,YK,W7,C0,kE,↓syP,syA,syD,simprocAttr,syE,ah,ag,af,syW,xQ,bU,pw k v0_0_0 v0_0_1 v0_0_2 v0_0_3 v0_1 v0_2 v0_3 v0_4]
 all_goals simp -implicitDefEqProofs only [List.map_nil]
end Go.Ab
set_option maxRecDepth 100000
set_option linter.unusedVariables false
set_option linter.unusedSimpArgs false
namespace Go.Ab
open Go.Proofs
def cr (k:Nat)   : Nat→Int→Int→Int→Int→List (Int×List Int)→List Int→List (Int×List (Int×Int×Int)×(Int×Int×Int×Int×Int×Int×Int)×Int×Int)→List (Int×List Int×Int×Int×Int×Int×Int×Int×Int)→Int→List (Int×List (Int×Int×Int)×(Int×Int×Int×Int×Int×Int×Int)×Int×Int)→Int→List (Int×List Int×Int×Int×Int×Int×Int×Int×Int)→Option (Int×Int×Int×Int×List (Int×List Int)×List Int×List (Int×List (Int×Int×Int)×(Int×Int×Int×Int×Int×Int×Int)×Int×Int)×List (Int×List Int×Int×Int×Int×Int×Int×Int×Int)×List (Int×List (Int×Int×Int)×(Int×Int×Int×Int×Int×Int×Int)×Int×Int)×List (Int×List Int×Int×Int×Int×Int×Int×Int×Int))
 | 0,_,_,_,_,_,_,_,_,_,_,_,_=>none
 | n+1,s26,s27,s28,s29,s34,s35,s36,s37,s39,s47,s49,s50=>
 bif decide (s49<s39) then
 bif decide ((0:Int)≤s49∧s49.toNat<s37.length) then
 ob (s50[s49.toNat]?) fun x76=>
 ob (aL 8 x76.2.1) fun x77=>
 bif decide ((0:Int)≤s49∧s49.toNat<s37.length) then
 ob (s50[s49.toNat]?) fun x78=>
 cr k   n (s26) (s27) (s28) (s29) (s34) (s35) (s36) (s37) (s39) (s47) (IntKind.i64.wrap (s49+(1:Int))) (s50.set s49.toNat (x78.1,x77,x78.2.2.1,x78.2.2.2.1,x78.2.2.2.2.1,x78.2.2.2.2.2.1,x78.2.2.2.2.2.2.1,x78.2.2.2.2.2.2.2.1,x78.2.2.2.2.2.2.2.2))
 else
 none
 else
 none
 else
 some (s26,s27,s28,s29,s34,s35,s36,s37,s47,s50)
theorem ne (k:Nat)  : ∀ (n:Nat) (s26:Int) (s27:Int) (s28:Int) (s29:Int) (s34:List (Int×List Int)) (s35:List Int) (s36:List (Int×List (Int×Int×Int)×(Int×Int×Int×Int×Int×Int×Int)×Int×Int)) (s37:List (Int×List Int×Int×Int×Int×Int×Int×Int×Int)) (s39:Int) (s47:List (Int×List (Int×Int×Int)×(Int×Int×Int×Int×Int×Int×Int)×Int×Int)) (s49:Int) (s50:List (Int×List Int×Int×Int×Int×Int×Int×Int×Int)) ⦃s30:List (Int×List Int)⦄ ⦃s31:List Int⦄ ⦃s32:List (Int×List (Int×Int×Int)×(Int×Int×Int×Int×Int×Int×Int)×Int×Int)⦄ ⦃s33:List (Int×List Int×Int×Int×Int×Int×Int×Int×Int)⦄ ⦃s38:Int⦄ ⦃j46 j48:V⦄,itX (xX (xS (k+61)) 41 0 (k+61) false) F7 (8) (au (xX (xS (k+61)) 41 0 (k+61) false) (aC (xS (k+61)).P Tryz.f41) Fh) n ⟨[.agg [.lit (.int .i64 s26),.lit (.int .i64 s27),.lit (.int .i64 s28),.lit (.int .i64 s29),.ro (List.map ao s30),.ro (List.map (aI IntKind.u64) s31),.ro (List.map aP s32),.ro (List.map b8 s33)],.ptr 0 0 0 0,.ptr 5 0 0 0,j46,j48,.ptr 0 0 0 4,.ro (List.map ao s30),.ro (List.map ao s34),.ptr 0 0 0 5,.ro (List.map (aI IntKind.u64) s31),.ro (List.map (aI IntKind.u64) s35),.ptr 0 0 0 4,.ptr 0 0 0 5,.ptr 0 0 0 6,.ro (List.map aP s32),.own 6 0 s36.length,.ptr 0 0 0 7,.ro (List.map b8 s33),.own 7 0 s37.length,.ptr 0 0 0 6,.ptr 0 0 0 7,.ptr 0 0 0 6,.own 6 0 s36.length,.lit (.int .i64 s38),.junk,.junk,.junk,.junk,.junk,.junk,.junk,.junk,.junk,.junk,.junk,.junk,.junk,.junk,.junk,.junk,.ptr 0 0 0 7,.own 7 0 s37.length,.lit (.int .i64 s39),.lit (.int .i64 s49),.junk,.junk,.junk,.junk,.junk,.junk,.junk,.junk,.junk,.junk,.junk,.junk,.junk,.junk,.junk,uu],[.box [.lit (.int .i64 s26),.lit (.int .i64 s27),.lit (.int .i64 s28),.lit (.int .i64 s29),.ro (List.map ao s34),.ro (List.map (aI IntKind.u64) s35),.own 6 0 s36.length,.own 7 0 s37.length],.rows 0 [] 0 true,.rows 0 [] 0 true,.rows 0 [] 0 true,.rows 0 [] 0 true,.box [.lit (.int .i64 (0:Int)),.lit (.int .i64 (0:Int)),.lit (.int .i64 (0:Int)),.lit (.int .i64 (0:Int)),.own 1 0 0,.own 2 0 0,.own 3 0 0,.own 4 0 0],.rows 11 (List.map aP s47) 0 true,.rows 9 (List.map b8 s50) 0 true]⟩=ob (cr k   n s26 s27 s28 s29 s34 s35 s36 s37 s39 s47 s49 s50) fun r=>some ((.agg [.lit (.int .i64 r.1),.lit (.int .i64 r.2.1),.lit (.int .i64 r.2.2.1),.lit (.int .i64 r.2.2.2.1),.ro (List.map ao r.2.2.2.2.1),.ro (List.map (aI IntKind.u64) r.2.2.2.2.2.1),.own 6 0 r.2.2.2.2.2.2.1.length,.own 7 0 r.2.2.2.2.2.2.2.1.length],[.box [.lit (.int .i64 r.1),.lit (.int .i64 r.2.1),.lit (.int .i64 r.2.2.1),.lit (.int .i64 r.2.2.2.1),.ro (List.map ao r.2.2.2.2.1),.ro (List.map (aI IntKind.u64) r.2.2.2.2.2.1),.own 6 0 r.2.2.2.2.2.2.1.length,.own 7 0 r.2.2.2.2.2.2.2.1.length],.rows 0 [] 0 true,.rows 0 [] 0 true,.rows 0 [] 0 true,.rows 0 [] 0 true,.box [.lit (.int .i64 r.1),.lit (.int .i64 r.2.1),.lit (.int .i64 r.2.2.1),.lit (.int .i64 r.2.2.2.1),.ro (List.map ao r.2.2.2.2.1),.ro (List.map (aI IntKind.u64) r.2.2.2.2.2.1),.own 6 0 r.2.2.2.2.2.2.1.length,.own 7 0 r.2.2.2.2.2.2.2.1.length],.rows 11 (List.map aP r.2.2.2.2.2.2.2.2.1) 0 true,.rows 9 (List.map b8 r.2.2.2.2.2.2.2.2.2) 0 true])):=by
 intro n
 induction n with
 | zero=>intros;rfl
 | succ n ih=>
  intro s26 s27 s28 s29 s34 s35 s36 s37 s39 s47 s49 s50 s30 s31 s32 s33 s38 j46 j48
  rw [cr]
  simp (maxSteps:=2000000) -implicitDefEqProofs only [aaO,Yn,Zn,CY,kM,aaX,VI,W1,A3,Ba,kN,kD,aK (g:=41),aaI,Zc,Bs,kA,aaK,Yg,aaZ,YA,aaN,WC,↓syP,syA,syD,simprocAttr,syE,ah,ag,af,syW,xQ,Q3,ih]
  all_goals simp -implicitDefEqProofs only [List.map_nil]
def cp (k:Nat)   : Nat→Int→Int→Int→Int→List (Int×List Int)→List Int→List (Int×List (Int×Int×Int)×(Int×Int×Int×Int×Int×Int×Int)×Int×Int)→List (Int×List Int×Int×Int×Int×Int×Int×Int×Int)→Int→Int→List (Int×List (Int×Int×Int)×(Int×Int×Int×Int×Int×Int×Int)×Int×Int)→Option (Int×Int×Int×Int×List (Int×List Int)×List Int×List (Int×List (Int×Int×Int)×(Int×Int×Int×Int×Int×Int×Int)×Int×Int)×List (Int×List Int×Int×Int×Int×Int×Int×Int×Int)×List (Int×List (Int×Int×Int)×(Int×Int×Int×Int×Int×Int×Int)×Int×Int)×List (Int×List Int×Int×Int×Int×Int×Int×Int×Int))
 | 0,_,_,_,_,_,_,_,_,_,_,_=>none
 | n+1,s6,s7,s8,s9,s14,s15,s16,s17,s18,s23,s24=>
 bif decide (s23<s18) then
 bif decide ((0:Int)≤s23∧s23.toNat<s16.length) then
 ob (s24[s23.toNat]?) fun x70=>
 ob (aL 24 x70.2.1) fun x71=>
 bif decide ((0:Int)≤s23∧s23.toNat<s16.length) then
 ob (s24[s23.toNat]?) fun x72=>
 cp k   n (s6) (s7) (s8) (s9) (s14) (s15) (s16) (s17) (s18) (IntKind.i64.wrap (s23+(1:Int))) (s24.set s23.toNat (x72.1,x71,(x72.2.2.1.1,x72.2.2.1.2.1,x72.2.2.1.2.2.1,x72.2.2.1.2.2.2.1,x72.2.2.1.2.2.2.2.1,x72.2.2.1.2.2.2.2.2.1,x72.2.2.1.2.2.2.2.2.2),x72.2.2.2.1,x72.2.2.2.2))
 else
 none
 else
 none
 else
 cr k  (k+61) (s6) (s7) (s8) (s9) (s14) (s15) (s16) (s17) ((↑s17.length:Int)) (s24) ((0:Int)) (s17)
theorem gX (k:Nat)  : ∀ (n:Nat) (s6:Int) (s7:Int) (s8:Int) (s9:Int) (s14:List (Int×List Int)) (s15:List Int) (s16:List (Int×List (Int×Int×Int)×(Int×Int×Int×Int×Int×Int×Int)×Int×Int)) (s17:List (Int×List Int×Int×Int×Int×Int×Int×Int×Int)) (s18:Int) (s23:Int) (s24:List (Int×List (Int×Int×Int)×(Int×Int×Int×Int×Int×Int×Int)×Int×Int)) ⦃s10:List (Int×List Int)⦄ ⦃s11:List Int⦄ ⦃s12:List (Int×List (Int×Int×Int)×(Int×Int×Int×Int×Int×Int×Int)×Int×Int)⦄ ⦃s13:List (Int×List Int×Int×Int×Int×Int×Int×Int×Int)⦄ ⦃j22:V⦄,itX (xX (xS (k+61)) 41 0 (k+61) false) Fl (8) (au (xX (xS (k+61)) 41 0 (k+61) false) (aC (xS (k+61)).P Tryz.f41) F5) n ⟨[.agg [.lit (.int .i64 s6),.lit (.int .i64 s7),.lit (.int .i64 s8),.lit (.int .i64 s9),.ro (List.map ao s10),.ro (List.map (aI IntKind.u64) s11),.ro (List.map aP s12),.ro (List.map b8 s13)],.ptr 0 0 0 0,.ptr 5 0 0 0,j22,uu,.ptr 0 0 0 4,.ro (List.map ao s10),.ro (List.map ao s14),.ptr 0 0 0 5,.ro (List.map (aI IntKind.u64) s11),.ro (List.map (aI IntKind.u64) s15),.ptr 0 0 0 4,.ptr 0 0 0 5,.ptr 0 0 0 6,.ro (List.map aP s12),.own 6 0 s16.length,.ptr 0 0 0 7,.ro (List.map b8 s13),.own 7 0 s17.length,.ptr 0 0 0 6,.ptr 0 0 0 7,.ptr 0 0 0 6,.own 6 0 s16.length,.lit (.int .i64 s18),.lit (.int .i64 s23),.junk,.junk,.junk,.junk,.junk,.junk,.junk,.junk,.junk,.junk,.junk,.junk,.junk,.junk,.junk,uu,uu,uu,uu,uu,uu,uu,uu,uu,uu,uu,uu,uu,uu,uu,uu,uu,uu,uu,uu],[.box [.lit (.int .i64 s6),.lit (.int .i64 s7),.lit (.int .i64 s8),.lit (.int .i64 s9),.ro (List.map ao s14),.ro (List.map (aI IntKind.u64) s15),.own 6 0 s16.length,.own 7 0 s17.length],.rows 0 [] 0 true,.rows 0 [] 0 true,.rows 0 [] 0 true,.rows 0 [] 0 true,.box [.lit (.int .i64 (0:Int)),.lit (.int .i64 (0:Int)),.lit (.int .i64 (0:Int)),.lit (.int .i64 (0:Int)),.own 1 0 0,.own 2 0 0,.own 3 0 0,.own 4 0 0],.rows 11 (List.map aP s24) 0 true,.rows 9 (List.map b8 s17) 0 true]⟩=ob (cp k   n s6 s7 s8 s9 s14 s15 s16 s17 s18 s23 s24) fun r=>some ((.agg [.lit (.int .i64 r.1),.lit (.int .i64 r.2.1),.lit (.int .i64 r.2.2.1),.lit (.int .i64 r.2.2.2.1),.ro (List.map ao r.2.2.2.2.1),.ro (List.map (aI IntKind.u64) r.2.2.2.2.2.1),.own 6 0 r.2.2.2.2.2.2.1.length,.own 7 0 r.2.2.2.2.2.2.2.1.length],[.box [.lit (.int .i64 r.1),.lit (.int .i64 r.2.1),.lit (.int .i64 r.2.2.1),.lit (.int .i64 r.2.2.2.1),.ro (List.map ao r.2.2.2.2.1),.ro (List.map (aI IntKind.u64) r.2.2.2.2.2.1),.own 6 0 r.2.2.2.2.2.2.1.length,.own 7 0 r.2.2.2.2.2.2.2.1.length],.rows 0 [] 0 true,.rows 0 [] 0 true,.rows 0 [] 0 true,.rows 0 [] 0 true,.box [.lit (.int .i64 r.1),.lit (.int .i64 r.2.1),.lit (.int .i64 r.2.2.1),.lit (.int .i64 r.2.2.2.1),.ro (List.map ao r.2.2.2.2.1),.ro (List.map (aI IntKind.u64) r.2.2.2.2.2.1),.own 6 0 r.2.2.2.2.2.2.1.length,.own 7 0 r.2.2.2.2.2.2.2.1.length],.rows 11 (List.map aP r.2.2.2.2.2.2.2.2.1) 0 true,.rows 9 (List.map b8 r.2.2.2.2.2.2.2.2.2) 0 true])):=by
 intro n
 induction n with
 | zero=>intros;rfl
 | succ n ih=>
  intro s6 s7 s8 s9 s14 s15 s16 s17 s18 s23 s24 s10 s11 s12 s13 j22
  rw [cp]
  simp (maxSteps:=2000000) -implicitDefEqProofs only [aaO,Yn,Zn,CY,kM,aaX,VI,W1,A3,Ba,kN,kD,aK (g:=41),aaI,Zc,Bs,kA,aaK,Yg,aaZ,YA,aaN,WC,↓syP,syA,syD,simprocAttr,syE,ah,ag,af,syW,xQ,QW,ih,ne k ]
  all_goals simp -implicitDefEqProofs only [List.map_nil]
def bu (k:Nat) (v0:((Int×Int×Int×Int)×List (Int×List Int)×List Int×List (Int×List (Int×Int×Int)×(Int×Int×Int×Int×Int×Int×Int)×Int×Int)×List (Int×List Int×Int×Int×Int×Int×Int×Int×Int))) (v1:(List (Int×Int×Int)))  : Nat→Int→Int→Int→Int→List (Int×List Int)→List (Int×List (Int×Int×Int)×(Int×Int×Int×Int×Int×Int×Int)×Int×Int)→List (Int×List Int×Int×Int×Int×Int×Int×Int×Int)→List (Int×List (Int×Int×Int)×(Int×Int×Int×Int×Int×Int×Int)×Int×Int)→List (Int×List Int×Int×Int×Int×Int×Int×Int×Int)→List (Int×Int×Int)→Int→List Int→Nat→Option (((Int×Int×Int×Int)×List (Int×List Int)×List Int×List (Int×List (Int×Int×Int)×(Int×Int×Int×Int×Int×Int×Int)×Int×Int)×List (Int×List Int×Int×Int×Int×Int×Int×Int×Int))×(List (Int×Int×Int)))
 | 0,_,_,_,_,_,_,_,_,_,_,_,_,_=>none
 | n+1,s86,s87,s88,s89,s90,s92,s93,s96,s97,s116,s118,s119,s120=>
 bif decide (s118<(↑v1.length:Int)) then
 ob (idx v1 s118) fun x149=>
 ob (iv (x149.1,x149.2.1,x149.2.2) v0.1.1 (↑v0.2.2.2.2.length:Int)) fun x150=>
 bif x150 then
 bif x149.1==(0:Int) then
 bif decide ((0:Int)≤x149.2.1∧x149.2.1.toNat<s92.length) then
 ob (s96[x149.2.1.toNat]?) fun x151=>
 ob (iw k (s86,s87,s88,s89) s90 s119 x149.2.1 (x151.1,x151.2.1,(x151.2.2.1.1,x151.2.2.1.2.1,x151.2.2.1.2.2.1,x151.2.2.1.2.2.2.1,x151.2.2.1.2.2.2.2.1,x151.2.2.1.2.2.2.2.2.1,x151.2.2.1.2.2.2.2.2.2),x151.2.2.2.1,x151.2.2.2.2) x149.2.2) fun x152=>
 bif decide ((0:Int)≤x149.2.1∧x149.2.1.toNat<s92.length) then
 ob (s96[x149.2.1.toNat]?) fun x153=>
 ck (s120==3||s120==0) (
 bif room (s116++x152.2.2).length 24 then
 bu k v0 v1  n (s86) (s87) (s88) (s89) (s90) (s92) (s93) (s96.set x149.2.1.toNat (x152.2.1.1,x152.2.1.2.1,(x152.2.1.2.2.1.1,x152.2.1.2.2.1.2.1,x152.2.1.2.2.1.2.2.1,x152.2.1.2.2.1.2.2.2.1,x152.2.1.2.2.1.2.2.2.2.1,x152.2.1.2.2.1.2.2.2.2.2.1,x152.2.1.2.2.1.2.2.2.2.2.2),x152.2.1.2.2.2.1,x152.2.1.2.2.2.2)) (s97) (s116++x152.2.2) (IntKind.i64.wrap (s118+(1:Int))) (x152.1) (3)
 else
 none)
 else
 none
 else
 none
 else
 bif x149.1==(1:Int) then
 bif decide ((0:Int)≤x149.2.1∧x149.2.1.toNat<s93.length) then
 ob (s97[x149.2.1.toNat]?) fun x154=>
 ob (fb (k+36) (s86,s87,s88,s89) s90 s119 (x154.1,x154.2.1,x154.2.2.1,x154.2.2.2.1,x154.2.2.2.2.1,x154.2.2.2.2.2.1,x154.2.2.2.2.2.2.1,x154.2.2.2.2.2.2.2.1,x154.2.2.2.2.2.2.2.2)) fun x155=>
 bif x155 then
 bif decide ((0:Int)≤x149.2.1∧x149.2.1.toNat<s93.length) then
 ob (s97[x149.2.1.toNat]?) fun x156=>
 ob (fu (k+20) (s86,s87,s88,s89) s90 s119 x149.2.1 (x156.1,x156.2.1,x156.2.2.1,x156.2.2.2.1,x156.2.2.2.2.1,x156.2.2.2.2.2.1,x156.2.2.2.2.2.2.1,x156.2.2.2.2.2.2.2.1,x156.2.2.2.2.2.2.2.2)) fun x157=>
 bif decide ((0:Int)≤x149.2.1∧x149.2.1.toNat<s93.length) then
 ob (s97[x149.2.1.toNat]?) fun x158=>
 ck (s120==3||s120==0) (
 bif room (s116++x157.2.2).length 24 then
 bu k v0 v1  n (s86) (s87) (s88) (s89) (s90) (s92) (s93) (s96) (s97.set x149.2.1.toNat (x157.2.1.1,x157.2.1.2.1,x157.2.1.2.2.1,x157.2.1.2.2.2.1,x157.2.1.2.2.2.2.1,x157.2.1.2.2.2.2.2.1,x157.2.1.2.2.2.2.2.2.1,x157.2.1.2.2.2.2.2.2.2.1,x157.2.1.2.2.2.2.2.2.2.2)) (s116++x157.2.2) (IntKind.i64.wrap (s118+(1:Int))) (x157.1) (3)
 else
 none)
 else
 none
 else
 none
 else
 ck (s120==3||s120==0) (
 bif room s116.length 24 then
 bu k v0 v1  n (s86) (s87) (s88) (s89) (s90) (s92) (s93) (s96) (s97) (s116) (IntKind.i64.wrap (s118+(1:Int))) (s119) (3)
 else
 none)
 else
 none
 else
 bif x149.1==(2:Int) then
 ob (bo s119 (3:Int) (1:Int)) fun x159=>
 ck (s120==3||s120==0) (
 bif room s116.length 24 then
 bu k v0 v1  n (s86) (s87) (s88) (s89) (s90) (s92) (s93) (s96) (s97) (s116) (IntKind.i64.wrap (s118+(1:Int))) (x159) (3)
 else
 none)
 else
 ck (s120==3||s120==0) (
 bif room s116.length 24 then
 bu k v0 v1  n (s86) (s87) (s88) (s89) (s90) (s92) (s93) (s96) (s97) (s116) (IntKind.i64.wrap (s118+(1:Int))) (s119) (3)
 else
 none)
 else
 bu k v0 v1  n (s86) (s87) (s88) (s89) (s90) (s92) (s93) (s96) (s97) (s116) (IntKind.i64.wrap (s118+(1:Int))) (s119) (s120)
 else
 ck (decide (s92.length≤s96.length)) (
 ck (decide (s93.length≤s97.length)) (
 some ((((s86),(s87),(s88),(s89)),(s90),(s119),(List.take s92.length s96),(List.take s93.length s97)),(s116))))
theorem lq (k:Nat) (v0_0_0 v0_0_1 v0_0_2 v0_0_3:Int) (v0_1:List (Int×List Int)) (v0_2:List Int) (v0_3:List (Int×List (Int×Int×Int)×(Int×Int×Int×Int×Int×Int×Int)×Int×Int)) (v0_4:List (Int×List Int×Int×Int×Int×Int×Int×Int×Int)) (v1:List (Int×Int×Int)):∀ (n:Nat) (s86:Int) (s87:Int) (s88:Int) (s89:Int) (s90:List (Int×List Int)) (s92:List (Int×List (Int×Int×Int)×(Int×Int×Int×Int×Int×Int×Int)×Int×Int)) (s93:List (Int×List Int×Int×Int×Int×Int×Int×Int×Int)) (s96:List (Int×List (Int×Int×Int)×(Int×Int×Int×Int×Int×Int×Int)×Int×Int)) (s97:List (Int×List Int×Int×Int×Int×Int×Int×Int×Int)) (s116:List (Int×Int×Int)) (s118:Int) (s119:List Int) (s120:Nat) ⦃s91:List Int⦄ ⦃s94:Bool⦄ ⦃s95:Bool⦄ ⦃s115:Nat⦄ ⦃j117:V⦄,rt none (itX (xX (xS (k+62)) 17 0 (k+62) false) Bx (15) (au (xX (xS (k+62)) 17 0 (k+62) false) (aC (xS (k+62)).P Tryz.f17) Gq) n ⟨[.agg [.lit (.int .i64 v0_0_0),.lit (.int .i64 v0_0_1),.lit (.int .i64 v0_0_2),.lit (.int .i64 v0_0_3),.ro (List.map ao v0_1),.ro (List.map (aI IntKind.u64) v0_2),.ro (List.map aP v0_3),.ro (List.map b8 v0_4)],.ro (List.map ej v1),.ptr 0 0 0 0,uu,.ptr 5 0 0 0,.own 6 0 0,.ptr 13 0 0 0,.own 14 s115 s116.length,uu,j117,.agg [.lit (.int .i64 v0_0_0),.lit (.int .i64 v0_0_1),.lit (.int .i64 v0_0_2),.lit (.int .i64 v0_0_3),.ro (List.map ao v0_1),.ro (List.map (aI IntKind.u64) v0_2),.ro (List.map aP v0_3),.ro (List.map b8 v0_4)],.agg [.lit (.int .i64 s86),.lit (.int .i64 s87),.lit (.int .i64 s88),.lit (.int .i64 s89),.ro (List.map ao s90),.ro (List.map (aI IntKind.u64) s91),.own 7 0 s92.length,.own 8 0 s93.length],.agg [.lit (.int .i64 v0_0_0),.lit (.int .i64 v0_0_1),.lit (.int .i64 v0_0_2),.lit (.int .i64 v0_0_3),.ro (List.map ao v0_1),.ro (List.map (aI IntKind.u64) v0_2),.ro (List.map aP v0_3),.ro (List.map b8 v0_4)],.lit (.bool s94),.lit (.bool s95),uu,.ro (List.map ej v1),.lit (.int .i64 (↑v1.length:Int)),.lit (.int .i64 s118),.junk,.junk,.junk,.junk,.junk,.junk,.junk,.junk,.junk,.junk,.junk,.junk,.junk,.junk,.junk,.junk,uu,uu],[.box [.lit (.int .i64 v0_0_0),.lit (.int .i64 v0_0_1),.lit (.int .i64 v0_0_2),.lit (.int .i64 v0_0_3),.ro (List.map ao v0_1),.ro (List.map (aI IntKind.u64) v0_2),.ro (List.map aP v0_3),.ro (List.map b8 v0_4)],.rows 0 [] 0 true,.rows 0 [] 0 true,.rows 0 [] 0 true,.rows 0 [] 0 true,.box [.lit (.int .i64 (0:Int)),.lit (.int .i64 (0:Int)),.lit (.int .i64 (0:Int)),.lit (.int .i64 (0:Int)),.own 1 0 0,.own 2 0 0,.own 3 0 0,.own 4 0 0],.rows 0 [] 0 true,.rows 11 (List.map aP s96) 0 true,.rows 9 (List.map b8 s97) 0 true,.rows 0 [] 0 true,.rows 0 [] 0 true,.rows 0 [] 0 true,.rows 0 [] 0 true,.box [.lit (.int .i64 s86),.lit (.int .i64 s87),.lit (.int .i64 s88),.lit (.int .i64 s89),.ro (List.map ao s90),.ro (List.map (aI IntKind.u64) s119),.own 7 0 s92.length,.own 8 0 s93.length],.rows s120 (List.map aM s116) s115 true]⟩)=ob (bu k ((v0_0_0,v0_0_1,v0_0_2,v0_0_3),v0_1,v0_2,v0_3,v0_4) v1  n s86 s87 s88 s89 s90 s92 s93 s96 s97 s116 s118 s119 s120) fun r=>some ((.tup [.agg [.lit (.int .i64 r.1.1.1),.lit (.int .i64 r.1.1.2.1),.lit (.int .i64 r.1.1.2.2.1),.lit (.int .i64 r.1.1.2.2.2),.ro (List.map ao r.1.2.1),.ro (List.map (aI .u64) r.1.2.2.1),.ro (List.map aP r.1.2.2.2.1),.ro (List.map b8 r.1.2.2.2.2)],.ro (List.map aM r.2)]),[]):=by
 intro n
 induction n with
 | zero=>intros;rfl
 | succ n ih=>
  intro s86 s87 s88 s89 s90 s92 s93 s96 s97 s116 s118 s119 s120 s91 s94 s95 s115 j117
  rw [bu]
  simp (maxSteps:=2000000) -implicitDefEqProofs only [aaO,Yn,Zn,CY,kM,aaX,VI,W1,A3,Ba,kN,kD,aK (g:=41),aaI,Zc,Bs,kA,aaK,Yg,aaZ,YA,aaN,WC,↓syP,syA,syD,simprocAttr,syE,ah,ag,af,syW,xQ,d8,pf,xg,D8,fh,w7,DR,gX,QK,ih]
  all_goals simp -implicitDefEqProofs only [List.map_nil]
def eE (k:Nat) (v0:((Int×Int×Int×Int)×List (Int×List Int)×List Int×List (Int×List (Int×Int×Int)×(Int×Int×Int×Int×Int×Int×Int)×Int×Int)×List (Int×List Int×Int×Int×Int×Int×Int×Int×Int))) (v1:(List (Int×Int×Int))):Option (((Int×Int×Int×Int)×List (Int×List Int)×List Int×List (Int×List (Int×Int×Int)×(Int×Int×Int×Int×Int×Int×Int)×Int×Int)×List (Int×List Int×Int×Int×Int×Int×Int×Int×Int))×(List (Int×Int×Int))):=
 ob (dX (k+59) v0.2.1) fun x160=>
 ob (aL 8 v0.2.2.1) fun x161=>
 ob (aL 104 v0.2.2.2.1) fun x162=>
 ob (aL 88 v0.2.2.2.2) fun x163=>
 ob (cp k (k+61) v0.1.1 v0.1.2.1 v0.1.2.2.1 v0.1.2.2.2 x160 x161 x162 x163 (↑x162.length:Int) 0 x162) fun x164=>
 ck (decide (x164.2.2.2.2.2.2.1.length≤x164.2.2.2.2.2.2.2.2.1.length)) (
 ck (decide (x164.2.2.2.2.2.2.2.1.length≤x164.2.2.2.2.2.2.2.2.2.length)) (
 ob (iZ (k+27) v0) fun x165=>
 bif !x165 then
 ck (decide (x164.2.2.2.2.2.2.1.length≤(List.take x164.2.2.2.2.2.2.1.length x164.2.2.2.2.2.2.2.2.1).length)) (
 ck (decide (x164.2.2.2.2.2.2.2.1.length≤(List.take x164.2.2.2.2.2.2.2.1.length x164.2.2.2.2.2.2.2.2.2).length)) (
 some (((x164.1,x164.2.1,x164.2.2.1,x164.2.2.2.1),x164.2.2.2.2.1,x164.2.2.2.2.2.1,(List.take x164.2.2.2.2.2.2.1.length (List.take x164.2.2.2.2.2.2.1.length x164.2.2.2.2.2.2.2.2.1)),(List.take x164.2.2.2.2.2.2.2.1.length (List.take x164.2.2.2.2.2.2.2.1.length x164.2.2.2.2.2.2.2.2.2))),[])))
 else
 bu k v0 v1 (k+62) x164.1 x164.2.1 x164.2.2.1 x164.2.2.2.1 x164.2.2.2.2.1 x164.2.2.2.2.2.2.1 x164.2.2.2.2.2.2.2.1 (List.take x164.2.2.2.2.2.2.1.length x164.2.2.2.2.2.2.2.2.1) (List.take x164.2.2.2.2.2.2.2.1.length x164.2.2.2.2.2.2.2.2.2) ([]) 0 x164.2.2.2.2.2.1 0))
theorem gP (k:Nat) (v0_0_0 v0_0_1 v0_0_2 v0_0_3:Int) (v0_1:List (Int×List Int)) (v0_2:List Int) (v0_3:List (Int×List (Int×Int×Int)×(Int×Int×Int×Int×Int×Int×Int)×Int×Int)) (v0_4:List (Int×List Int×Int×Int×Int×Int×Int×Int×Int)) (v1:List (Int×Int×Int)):xC (k+63) none 17 [.agg [.lit (.int .i64 v0_0_0),.lit (.int .i64 v0_0_1),.lit (.int .i64 v0_0_2),.lit (.int .i64 v0_0_3),.ro (List.map ao v0_1),.ro (List.map (aI .u64) v0_2),.ro (List.map aP v0_3),.ro (List.map b8 v0_4)],.ro (List.map ej v1)]=ob (eE k ((v0_0_0,v0_0_1,v0_0_2,v0_0_3),v0_1,v0_2,v0_3,v0_4) v1) fun r=>some ((.tup [.agg [.lit (.int .i64 r.1.1.1),.lit (.int .i64 r.1.1.2.1),.lit (.int .i64 r.1.1.2.2.1),.lit (.int .i64 r.1.1.2.2.2),.ro (List.map ao r.1.2.1),.ro (List.map (aI .u64) r.1.2.2.1),.ro (List.map aP r.1.2.2.2.1),.ro (List.map b8 r.1.2.2.2.2)],.ro (List.map aM r.2)]),[]):=by
 rw [aK]
 unfold eE
 have hl0:=fun (x170:Int×Int×Int×Int×List (Int×List Int)×List Int×List (Int×List (Int×Int×Int)×(Int×Int×Int×Int×Int×Int×Int)×Int×Int)×List (Int×List Int×Int×Int×Int×Int×Int×Int×Int)×List (Int×List (Int×Int×Int)×(Int×Int×Int×Int×Int×Int×Int)×Int×Int)×List (Int×List Int×Int×Int×Int×Int×Int×Int×Int))=>lq k v0_0_0 v0_0_1 v0_0_2 v0_0_3 v0_1 v0_2 v0_3 v0_4 v1 (k+62) (x170.fst) (x170.snd.fst) (x170.snd.snd.fst) (x170.snd.snd.snd.fst) (x170.snd.snd.snd.snd.fst) (x170.snd.snd.snd.snd.snd.snd.fst) (x170.snd.snd.snd.snd.snd.snd.snd.fst) (List.take x170.snd.snd.snd.snd.snd.snd.fst.length x170.snd.snd.snd.snd.snd.snd.snd.snd.fst) (List.take x170.snd.snd.snd.snd.snd.snd.snd.fst.length x170.snd.snd.snd.snd.snd.snd.snd.snd.snd) ([]) ((0:Int)) (x170.snd.snd.snd.snd.snd.fst) (0)
 try simp -implicitDefEqProofs only [List.map_nil,List.length_nil] at hl0
 simp (maxSteps:=2000000) -implicitDefEqProofs only [aaO,Yn,Zn,CY,kM,aaX,VI,W1,A3,Ba,kN,kD,aK (g:=41),aaI,Zc,Bs,kA,aaK,Yg,aaZ,YA,aaN,WC,↓syP,syA,syD,simprocAttr,syE,ah,ag,af,syW,xQ,fh,w7,gX,lq k v0_0_0 v0_0_1 v0_0_2 v0_0_3 v0_1 v0_2 v0_3 v0_4 v1,hl0]
 all_goals simp -implicitDefEqProofs only [List.map_nil]
end Go.Ab
set_option maxRecDepth 100000
set_option linter.unusedVariables false
set_option linter.unusedSimpArgs false
namespace Go.Ab
open Go.Proofs
def br (k:Nat)   : Nat→List (Int×List Int)→Int→Nat→List Int→Int→Nat→Option (Nat×List Int×Nat)
 | 0,_,_,_,_,_,_=>none
 | n+1,s7,s10,s12,s13,s15,s17=>
 bif decide (s15<s10) then
 ob (d9 k s7 s15) fun x24=>
 bif x24==(-1:Int) then
 ck (s17==1||s17==0) (
 bif room (s13++[s15]).length 8 then
 br k   n (s7) (s10) (s12+1) (s13++[s15]) (IntKind.i64.wrap (s15+(1:Int))) (1)
 else
 none)
 else
 br k   n (s7) (s10) (s12) (s13) (IntKind.i64.wrap (s15+(1:Int))) (s17)
 else
 some (s12,s13,s17)
theorem cJ (k:Nat)  : ∀ (n:Nat) (s7:List (Int×List Int)) (s10:Int) (s12:Nat) (s13:List Int) (s15:Int) (s17:Nat) ⦃s8:Bool⦄ ⦃s9:Bool⦄ ⦃j14:V⦄,itX (xX (xS (k+20)) 57 0 (k+20) false) wN (2) (au (xX (xS (k+20)) 57 0 (k+20) false) (aC (xS (k+20)).P Tryz.f57) BX) n ⟨[.ro (List.map ao s7),uu,.own 0 0 0,.own 1 s12 s13.length,j14,.ro (List.map ao s7),.lit (.bool s8),.lit (.bool s9),.ro (List.map ao s7),.lit (.int .i64 s10),.lit (.int .i64 s15),.junk,.junk,.junk,.junk,.junk,.junk,.junk,.junk,.junk,.junk,.junk,uu],[.rows 0 [] 0 true,.rows s17 (List.map (aI IntKind.i64) s13) s12 true]⟩=ob (br k   n s7 s10 s12 s13 s15 s17) fun r=>some ((.own 1 r.1 r.2.1.length,[.rows 0 [] 0 true,.rows r.2.2 (List.map (aI IntKind.i64) r.2.1) r.1 true])):=by
 intro n
 induction n with
 | zero=>intros;rfl
 | succ n ih=>
  intro s7 s10 s12 s13 s15 s17 s8 s9 j14
  rw [br]
  simp (maxSteps:=2000000) -implicitDefEqProofs only [aag,VC,VA,w6,w8,wV,wT,wZ,gQ,gL,gJ,gM,Yy,VB,VH,wB,gH,aK (g:=57),↓syP,syA,syD,simprocAttr,syE,ah,ag,af,syW,xQ,un,PX,ih]
  all_goals simp -implicitDefEqProofs only [List.map_nil]
theorem eM (k:Nat) (v1:List (Int×List Int)):∀ ⦃s8 s9:Bool⦄ ⦃j14:V⦄,itX (xX (xS (k+20)) 57 0 (k+20) false) wN 2 (au (xX (xS (k+20)) 57 0 (k+20) false) (aC (xS (k+20)).P Tryz.f57) BX) (k+20) (St.mk [.ro (List.map ao v1),uu,.own 0 0 0,.own 1 0 0,j14,.ro (List.map ao v1),.lit (.bool s8),.lit (.bool s9),.ro (List.map ao v1),.lit (.int .i64 (↑v1.length:Int)),.lit (.int .i64 (0:Int)),.junk,.junk,.junk,.junk,.junk,.junk,.junk,.junk,.junk,.junk,.junk,uu] [.rows 0 [] 0 true,.rows 0 [] 0 true])=ob (br k (k+20) v1 (↑v1.length:Int) 0 [] (0:Int) 0) fun r ↦ some (.own 1 r.fst r.snd.fst.length,[.rows 0 [] 0 true,.rows r.snd.snd (List.map (aI IntKind.i64) r.snd.fst) r.fst true]):=by
 have h:=cJ k  (k+20) (v1) ((↑v1.length:Int)) (0) ([]) ((0:Int)) (0)
 simp -implicitDefEqProofs only [List.map_nil,List.length_nil] at h
 exact h
def cw (k:Nat) (v0:(Int×Int×Int×Int)) (v1:(List (Int×List Int))) (v2:(List (List Int))) (o0:List (Int×List Int)→List Int→Nat→List (Int×List (Int×Int×Int)×(Int×Int×Int×Int×Int×Int×Int)×Int×Int)→Int→List (Int×List Int×Int×Int×Int×Int×Int×Int×Int)→Nat→Nat→List Int→Option (((Int×Int×Int×Int)×List (Int×List Int)×List Int×List (Int×List (Int×Int×Int)×(Int×Int×Int×Int×Int×Int×Int)×Int×Int)×List (Int×List Int×Int×Int×Int×Int×Int×Int×Int))×Bool)):Nat→List Int→List (Int×List Int)→List Int→Int→Nat→List (Int×List (Int×Int×Int)×(Int×Int×Int×Int×Int×Int×Int)×Int×Int)→Nat→Int→List Int→Int→List (Int×List Int×Int×Int×Int×Int×Int×Int×Int)→Nat→Option (((Int×Int×Int×Int)×List (Int×List Int)×List Int×List (Int×List (Int×Int×Int)×(Int×Int×Int×Int×Int×Int×Int)×Int×Int)×List (Int×List Int×Int×Int×Int×Int×Int×Int×Int))×Bool)
 | 0,_,_,_,_,_,_,_,_,_,_,_,_=>none
 | n+1,s81,s86,s87,s88,s89,s105,s107,s110,s111,s130,s133,s134=>
 bif decide (s110<s88) then
 ob (idx s81 s110) fun x159=>
 ck (decide (s107≤s111.length)) (
 ob (bI (k+20) (List.take s107 s111) x159) fun x160=>
 bif decide (x160<(0:Int)) then
 some (((((0:Int)),((0:Int)),((0:Int)),((0:Int))),[],[],[],[]),(false))
 else
 ck (s89==1) (
 ck (decide (s107≤s111.length∧(0:Int)≤x160∧x160<IntKind.i64.wrap (x160+(1:Int))∧(IntKind.i64.wrap (x160+(1:Int))).toNat≤s107∧s107≤9223372036854775807)) (
 cw k v0 v1 v2 o0 n (s81) (s86) (s87) (s88) (1) (s105) (s107 - ((IntKind.i64.wrap (x160+(1:Int))).toNat - x160.toNat)) (IntKind.i64.wrap (s110+(1:Int))) (Ek (List.take s107 s111) x160.toNat (IntKind.i64.wrap (x160+(1:Int))).toNat++List.drop s107 s111) (s130) (s133) (s134))))
 else
 ob (fX s81) fun x161=>
 ck (s134==9||s134==0) (
 bif room (s133++[(x161.1,x161.2.1,x161.2.2.1,x161.2.2.2.1,x161.2.2.2.2.1,x161.2.2.2.2.2.1,x161.2.2.2.2.2.2.1,x161.2.2.2.2.2.2.2.1,x161.2.2.2.2.2.2.2.2)]).length 88 then
 o0 (s86) (s87) (s89) (s105) (IntKind.i64.wrap (s130+(1:Int))) (s133++[(x161.1,x161.2.1,x161.2.2.1,x161.2.2.2.1,x161.2.2.2.2.1,x161.2.2.2.2.2.1,x161.2.2.2.2.2.2.1,x161.2.2.2.2.2.2.2.1,x161.2.2.2.2.2.2.2.2)]) (9) (s107) (s111)
 else
 none)
theorem pt (k:Nat) (v0_0 v0_1 v0_2 v0_3:Int) (v1:List (Int×List Int)) (v2:List (List Int)) (n56:Nat) (o0:List (Int×List Int)→List Int→Nat→List (Int×List (Int×Int×Int)×(Int×Int×Int×Int×Int×Int×Int)×Int×Int)→Int→List (Int×List Int×Int×Int×Int×Int×Int×Int×Int)→Nat→Nat→List Int→Option (((Int×Int×Int×Int)×List (Int×List Int)×List Int×List (Int×List (Int×Int×Int)×(Int×Int×Int×Int×Int×Int×Int)×Int×Int)×List (Int×List Int×Int×Int×Int×Int×Int×Int×Int))×Bool)) (ho0:∀ (s62:List (Int×List Int)) (s63:List Int) (s64:Nat) (s77:List (Int×List (Int×Int×Int)×(Int×Int×Int×Int×Int×Int×Int)×Int×Int)) (s113:Int) (s115:List (Int×List Int×Int×Int×Int×Int×Int×Int×Int)) (s116:Nat) (s135:Nat) (s138:List Int) ⦃s57:List Int⦄ ⦃s58:Bool⦄ ⦃s59:Bool⦄ ⦃s60:Bool⦄ ⦃s61:Bool⦄ ⦃s76:Nat⦄ ⦃s78:Nat⦄ ⦃s114:Nat⦄ ⦃j75 j112 j136 j137:V⦄,rt none (itX (xX (xS (k+21)) 23 0 (k+21) false) pi (14) (au (xX (xS (k+21)) 23 0 (k+21) false) (aC (xS (k+21)).P Tryz.f23) wb) n56 ⟨(.agg [.lit (.int .i64 v0_0),.lit (.int .i64 v0_1),.lit (.int .i64 v0_2),.lit (.int .i64 v0_3)]::.ro (List.map ao v1)::.ro (List.map cO v2)::.ptr 0 0 0 0::uu::uu::.ptr 5 0 0 0::.lit (.bool false)::.own 6 0 s135::.ptr 11 0 0 0::j75::uu::j112::uu::j136::j137::.agg [.lit (.int .i64 v0_0),.lit (.int .i64 v0_1),.lit (.int .i64 v0_2),.lit (.int .i64 v0_3)]::.lit (.bool s58)::.lit (.bool s59)::.lit (.bool false)::.ro (List.map ao v1)::.lit (.bool s60)::.lit (.bool s61)::.lit (.bool s61)::.lit (.bool false)::.ro (List.map cO v2)::.lit (.int .i64 (↑v2.length:Int))::.lit (.bool (decide ((3:Int)<(↑v2.length:Int))))::.lit (.bool (decide ((3:Int)<(↑v2.length:Int))))::uu::.ro (List.map ao v1)::.own 6 0 s57.length::.agg [.lit (.int .i64 v0_0),.lit (.int .i64 v0_1),.lit (.int .i64 v0_2),.lit (.int .i64 v0_3)]::.ro (List.map ao v1)::.ro (List.map ao s62)::.agg [.lit (.int .i64 v0_0),.lit (.int .i64 v0_1),.lit (.int .i64 v0_2),.lit (.int .i64 v0_3)]::.ro (List.map (aI IntKind.u64) s63)::.agg [.lit (.int .i64 v0_0),.lit (.int .i64 v0_1),.lit (.int .i64 v0_2),.lit (.int .i64 v0_3),.ro (List.map ao s62),.ro (List.map (aI IntKind.u64) s63),.nil,.nil]::.ptr 0 0 0 0::.lit (.int .i64 v0_0)::.junk::.junk::.junk::.junk::.junk::.junk::.junk::.junk::.junk::.junk::.junk::.ro (List.map cO v2)::.lit (.int .i64 (↑v2.length:Int))::.lit (.int .i64 s113)::.junk::.junk::.junk::.junk::.junk::.junk::.junk::.junk::.junk::.junk::.junk::.junk::.junk::.junk::.junk::.junk::.junk::.junk::.junk::.junk::.junk::.junk::.junk::.junk::.junk::.junk::.junk::.junk::.junk::uu::[]),[.box [.lit (.int .i64 v0_0),.lit (.int .i64 v0_1),.lit (.int .i64 v0_2),.lit (.int .i64 v0_3)],.rows 0 [] 0 true,.rows 0 [] 0 true,.rows 0 [] 0 true,.rows 0 [] 0 true,.box [.lit (.int .i64 (0:Int)),.lit (.int .i64 (0:Int)),.lit (.int .i64 (0:Int)),.lit (.int .i64 (0:Int)),.own 1 0 0,.own 2 0 0,.own 3 0 0,.own 4 0 0],.rows s64 (List.map (aI IntKind.i64) s138) 0 true,.rows 0 [] 0 true,.rows 0 [] 0 true,.rows 0 [] 0 true,.rows 0 [] 0 true,.box [.lit (.int .i64 v0_0),.lit (.int .i64 v0_1),.lit (.int .i64 v0_2),.lit (.int .i64 v0_3),.ro (List.map ao s62),.ro (List.map (aI IntKind.u64) s63),.own 12 s76 s77.length,.own 13 s114 s115.length],.rows s78 (List.map aP s77) s76 true,.rows s116 (List.map b8 s115) s114 true]⟩)=ob (o0 s62 s63 s64 s77 s113 s115 s116 s135 s138) fun r=>some ((.tup [.agg [.lit (.int .i64 r.1.1.1),.lit (.int .i64 r.1.1.2.1),.lit (.int .i64 r.1.1.2.2.1),.lit (.int .i64 r.1.1.2.2.2),.ro (List.map ao r.1.2.1),.ro (List.map (aI .u64) r.1.2.2.1),.ro (List.map aP r.1.2.2.2.1),.ro (List.map b8 r.1.2.2.2.2)],.lit (.bool r.2)]),[])):∀ (n:Nat) (s81:List Int) (s86:List (Int×List Int)) (s87:List Int) (s88:Int) (s89:Nat) (s105:List (Int×List (Int×Int×Int)×(Int×Int×Int×Int×Int×Int×Int)×Int×Int)) (s107:Nat) (s110:Int) (s111:List Int) (s130:Int) (s133:List (Int×List Int×Int×Int×Int×Int×Int×Int×Int)) (s134:Nat) ⦃s80:List Int⦄ ⦃s82:Bool⦄ ⦃s83:Bool⦄ ⦃s84:Bool⦄ ⦃s85:Bool⦄ ⦃s104:Nat⦄ ⦃s106:Nat⦄ ⦃s131:Bool⦄ ⦃s132:Nat⦄ ⦃j103 j108 j109:V⦄,rt none (itX (xX (xS (k+21)) 23 0 (k+21) false) FF (14) (au (xX (xS (k+21)) 23 0 (k+21) false) (bK (xX (xS (k+21)) 23 0 (k+21) false) pi 14 (au (xX (xS (k+21)) 23 0 (k+21) false) (aC (xS (k+21)).P Tryz.f23) wb) n56) Fq) n ⟨(.agg [.lit (.int .i64 v0_0),.lit (.int .i64 v0_1),.lit (.int .i64 v0_2),.lit (.int .i64 v0_3)]::.ro (List.map ao v1)::.ro (List.map cO v2)::.ptr 0 0 0 0::uu::uu::.ptr 5 0 0 0::.lit (.bool false)::.own 6 0 s107::.ptr 11 0 0 0::j103::uu::.ro (List.map (aI IntKind.i64) s81)::uu::j108::j109::.agg [.lit (.int .i64 v0_0),.lit (.int .i64 v0_1),.lit (.int .i64 v0_2),.lit (.int .i64 v0_3)]::.lit (.bool s82)::.lit (.bool s83)::.lit (.bool false)::.ro (List.map ao v1)::.lit (.bool s84)::.lit (.bool s85)::.lit (.bool s85)::.lit (.bool false)::.ro (List.map cO v2)::.lit (.int .i64 (↑v2.length:Int))::.lit (.bool (decide ((3:Int)<(↑v2.length:Int))))::.lit (.bool (decide ((3:Int)<(↑v2.length:Int))))::uu::.ro (List.map ao v1)::.own 6 0 s80.length::.agg [.lit (.int .i64 v0_0),.lit (.int .i64 v0_1),.lit (.int .i64 v0_2),.lit (.int .i64 v0_3)]::.ro (List.map ao v1)::.ro (List.map ao s86)::.agg [.lit (.int .i64 v0_0),.lit (.int .i64 v0_1),.lit (.int .i64 v0_2),.lit (.int .i64 v0_3)]::.ro (List.map (aI IntKind.u64) s87)::.agg [.lit (.int .i64 v0_0),.lit (.int .i64 v0_1),.lit (.int .i64 v0_2),.lit (.int .i64 v0_3),.ro (List.map ao s86),.ro (List.map (aI IntKind.u64) s87),.nil,.nil]::.ptr 0 0 0 0::.lit (.int .i64 v0_0)::.junk::.junk::.junk::.junk::.junk::.junk::.junk::.junk::.junk::.junk::.junk::.ro (List.map cO v2)::.lit (.int .i64 (↑v2.length:Int))::.lit (.int .i64 s130)::.lit (.bool s131)::.rp [.ro (List.map (aI IntKind.i64) s81)]::.ro (List.map (aI IntKind.i64) s81)::.ro (List.map (aI IntKind.i64) s81)::.lit (.int .i64 s88)::.lit (.int .i64 s110)::.junk::.junk::.junk::.junk::.junk::.junk::.junk::.junk::.junk::.junk::.junk::.junk::.junk::.junk::.junk::.junk::.junk::.junk::.junk::.junk::.junk::.junk::.junk::uu::[]),[.box [.lit (.int .i64 v0_0),.lit (.int .i64 v0_1),.lit (.int .i64 v0_2),.lit (.int .i64 v0_3)],.rows 0 [] 0 true,.rows 0 [] 0 true,.rows 0 [] 0 true,.rows 0 [] 0 true,.box [.lit (.int .i64 (0:Int)),.lit (.int .i64 (0:Int)),.lit (.int .i64 (0:Int)),.lit (.int .i64 (0:Int)),.own 1 0 0,.own 2 0 0,.own 3 0 0,.own 4 0 0],.rows s89 (List.map (aI IntKind.i64) s111) 0 true,.rows 0 [] 0 true,.rows 0 [] 0 true,.rows 0 [] 0 true,.rows 0 [] 0 true,.box [.lit (.int .i64 v0_0),.lit (.int .i64 v0_1),.lit (.int .i64 v0_2),.lit (.int .i64 v0_3),.ro (List.map ao s86),.ro (List.map (aI IntKind.u64) s87),.own 12 s104 s105.length,.own 13 s132 s133.length],.rows s106 (List.map aP s105) s104 true,.rows s134 (List.map b8 s133) s132 true]⟩)=ob (cw k (v0_0,v0_1,v0_2,v0_3) v1 v2 o0 n s81 s86 s87 s88 s89 s105 s107 s110 s111 s130 s133 s134) fun r=>some ((.tup [.agg [.lit (.int .i64 r.1.1.1),.lit (.int .i64 r.1.1.2.1),.lit (.int .i64 r.1.1.2.2.1),.lit (.int .i64 r.1.1.2.2.2),.ro (List.map ao r.1.2.1),.ro (List.map (aI .u64) r.1.2.2.1),.ro (List.map aP r.1.2.2.2.1),.ro (List.map b8 r.1.2.2.2.2)],.lit (.bool r.2)]),[]):=by
 intro n
 induction n with
 | zero=>intros;rfl
 | succ n ih=>
  intro s81 s86 s87 s88 s89 s105 s107 s110 s111 s130 s133 s134 s80 s82 s83 s84 s85 s104 s106 s131 s132 j103 j108 j109
  rw [cw]
  simp (maxSteps:=2000000) -implicitDefEqProofs only [aag,VC,VA,w6,w8,wV,wT,wZ,gQ,gL,gJ,gM,Yy,VB,VH,wB,gH,aK (g:=57),↓syP,syA,syD,simprocAttr,syE,ah,ag,af,syW,xQ,cF,bU,nt,dV,oE,lD,fh,cJ,eM,Qr,ih,ho0]
  all_goals simp -implicitDefEqProofs only [List.map_nil]
def bH (k:Nat) (v0:(Int×Int×Int×Int)) (v1:(List (Int×List Int))) (v2:(List (List Int)))  : Nat→List (Int×List Int)→List Int→Nat→List (Int×List (Int×Int×Int)×(Int×Int×Int×Int×Int×Int×Int)×Int×Int)→Int→List (Int×List Int×Int×Int×Int×Int×Int×Int×Int)→Nat→Nat→List Int→Option (((Int×Int×Int×Int)×List (Int×List Int)×List Int×List (Int×List (Int×Int×Int)×(Int×Int×Int×Int×Int×Int×Int)×Int×Int)×List (Int×List Int×Int×Int×Int×Int×Int×Int×Int))×Bool)
 | 0,_,_,_,_,_,_,_,_,_=>none
 | n+1,s62,s63,s64,s77,s113,s115,s116,s135,s138=>
 bif decide (s113<(↑v2.length:Int)) then
 ob (idx v2 s113) fun x155=>
 cw k v0 v1 v2 (fun s62 s63 s64 s77 s113 s115 s116 s135 s138=>bH k v0 v1 v2  n s62 s63 s64 s77 s113 s115 s116 s135 s138) (k+21) (x155) (s62) (s63) ((↑x155.length:Int)) (s64) (s77) (s135) ((0:Int)) (s138) (s113) (s115) (s116)
 else
 some ((((v0.1),(v0.2.1),(v0.2.2.1),(v0.2.2.2)),(s62),(s63),(s77),(s115)),(true))
theorem ln (k:Nat) (v0_0 v0_1 v0_2 v0_3:Int) (v1:List (Int×List Int)) (v2:List (List Int)):∀ (n:Nat) (s62:List (Int×List Int)) (s63:List Int) (s64:Nat) (s77:List (Int×List (Int×Int×Int)×(Int×Int×Int×Int×Int×Int×Int)×Int×Int)) (s113:Int) (s115:List (Int×List Int×Int×Int×Int×Int×Int×Int×Int)) (s116:Nat) (s135:Nat) (s138:List Int) ⦃s57:List Int⦄ ⦃s58:Bool⦄ ⦃s59:Bool⦄ ⦃s60:Bool⦄ ⦃s61:Bool⦄ ⦃s76:Nat⦄ ⦃s78:Nat⦄ ⦃s114:Nat⦄ ⦃j75 j112 j136 j137:V⦄,rt none (itX (xX (xS (k+21)) 23 0 (k+21) false) pi (14) (au (xX (xS (k+21)) 23 0 (k+21) false) (aC (xS (k+21)).P Tryz.f23) wb) n ⟨(.agg [.lit (.int .i64 v0_0),.lit (.int .i64 v0_1),.lit (.int .i64 v0_2),.lit (.int .i64 v0_3)]::.ro (List.map ao v1)::.ro (List.map cO v2)::.ptr 0 0 0 0::uu::uu::.ptr 5 0 0 0::.lit (.bool false)::.own 6 0 s135::.ptr 11 0 0 0::j75::uu::j112::uu::j136::j137::.agg [.lit (.int .i64 v0_0),.lit (.int .i64 v0_1),.lit (.int .i64 v0_2),.lit (.int .i64 v0_3)]::.lit (.bool s58)::.lit (.bool s59)::.lit (.bool false)::.ro (List.map ao v1)::.lit (.bool s60)::.lit (.bool s61)::.lit (.bool s61)::.lit (.bool false)::.ro (List.map cO v2)::.lit (.int .i64 (↑v2.length:Int))::.lit (.bool (decide ((3:Int)<(↑v2.length:Int))))::.lit (.bool (decide ((3:Int)<(↑v2.length:Int))))::uu::.ro (List.map ao v1)::.own 6 0 s57.length::.agg [.lit (.int .i64 v0_0),.lit (.int .i64 v0_1),.lit (.int .i64 v0_2),.lit (.int .i64 v0_3)]::.ro (List.map ao v1)::.ro (List.map ao s62)::.agg [.lit (.int .i64 v0_0),.lit (.int .i64 v0_1),.lit (.int .i64 v0_2),.lit (.int .i64 v0_3)]::.ro (List.map (aI IntKind.u64) s63)::.agg [.lit (.int .i64 v0_0),.lit (.int .i64 v0_1),.lit (.int .i64 v0_2),.lit (.int .i64 v0_3),.ro (List.map ao s62),.ro (List.map (aI IntKind.u64) s63),.nil,.nil]::.ptr 0 0 0 0::.lit (.int .i64 v0_0)::.junk::.junk::.junk::.junk::.junk::.junk::.junk::.junk::.junk::.junk::.junk::.ro (List.map cO v2)::.lit (.int .i64 (↑v2.length:Int))::.lit (.int .i64 s113)::.junk::.junk::.junk::.junk::.junk::.junk::.junk::.junk::.junk::.junk::.junk::.junk::.junk::.junk::.junk::.junk::.junk::.junk::.junk::.junk::.junk::.junk::.junk::.junk::.junk::.junk::.junk::.junk::.junk::uu::[]),[.box [.lit (.int .i64 v0_0),.lit (.int .i64 v0_1),.lit (.int .i64 v0_2),.lit (.int .i64 v0_3)],.rows 0 [] 0 true,.rows 0 [] 0 true,.rows 0 [] 0 true,.rows 0 [] 0 true,.box [.lit (.int .i64 (0:Int)),.lit (.int .i64 (0:Int)),.lit (.int .i64 (0:Int)),.lit (.int .i64 (0:Int)),.own 1 0 0,.own 2 0 0,.own 3 0 0,.own 4 0 0],.rows s64 (List.map (aI IntKind.i64) s138) 0 true,.rows 0 [] 0 true,.rows 0 [] 0 true,.rows 0 [] 0 true,.rows 0 [] 0 true,.box [.lit (.int .i64 v0_0),.lit (.int .i64 v0_1),.lit (.int .i64 v0_2),.lit (.int .i64 v0_3),.ro (List.map ao s62),.ro (List.map (aI IntKind.u64) s63),.own 12 s76 s77.length,.own 13 s114 s115.length],.rows s78 (List.map aP s77) s76 true,.rows s116 (List.map b8 s115) s114 true]⟩)=ob (bH k (v0_0,v0_1,v0_2,v0_3) v1 v2  n s62 s63 s64 s77 s113 s115 s116 s135 s138) fun r=>some ((.tup [.agg [.lit (.int .i64 r.1.1.1),.lit (.int .i64 r.1.1.2.1),.lit (.int .i64 r.1.1.2.2.1),.lit (.int .i64 r.1.1.2.2.2),.ro (List.map ao r.1.2.1),.ro (List.map (aI .u64) r.1.2.2.1),.ro (List.map aP r.1.2.2.2.1),.ro (List.map b8 r.1.2.2.2.2)],.lit (.bool r.2)]),[]):=by
 intro n
 induction n with
 | zero=>intros;rfl
 | succ n ih=>
  intro s62 s63 s64 s77 s113 s115 s116 s135 s138 s57 s58 s59 s60 s61 s76 s78 s114 j75 j112 j136 j137
  rw [bH]
  simp (maxSteps:=2000000) -implicitDefEqProofs only [aag,VC,VA,w6,w8,wV,wT,wZ,gQ,gL,gJ,gM,Yy,VB,VH,wB,gH,aK (g:=57),↓syP,syA,syD,simprocAttr,syE,ah,ag,af,syW,xQ,cF,bU,nt,dV,oE,lD,fh,cJ,eM,Qa,ih,pt k v0_0 v0_1 v0_2 v0_3 v1 v2 _ (fun s62 s63 s64 s77 s113 s115 s116 s135 s138=>bH k (v0_0,v0_1,v0_2,v0_3) v1 v2  n s62 s63 s64 s77 s113 s115 s116 s135 s138) ih]
  all_goals simp -implicitDefEqProofs only [List.map_nil]
def cC (k:Nat) (v0:(Int×Int×Int×Int)) (v1:(List (Int×List Int))) (v2:(List (List Int)))  : Nat→List (Int×List Int)→List Int→List Int→Nat→Int→List (Int×List (Int×Int×Int)×(Int×Int×Int×Int×Int×Int×Int)×Int×Int)→Nat→Option (((Int×Int×Int×Int)×List (Int×List Int)×List Int×List (Int×List (Int×Int×Int)×(Int×Int×Int×Int×Int×Int×Int)×Int×Int)×List (Int×List Int×Int×Int×Int×Int×Int×Int×Int))×Bool)
 | 0,_,_,_,_,_,_,_=>none
 | n+1,s38,s39,s40,s41,s52,s54,s55=>
 bif decide (s52<v0.1) then
 ob (mt s52) fun x153=>
 ck (s55==11||s55==0) (
 bif room (s54++[(x153.1,x153.2.1,(x153.2.2.1.1,x153.2.2.1.2.1,x153.2.2.1.2.2.1,x153.2.2.1.2.2.2.1,x153.2.2.1.2.2.2.2.1,x153.2.2.1.2.2.2.2.2.1,x153.2.2.1.2.2.2.2.2.2),x153.2.2.2.1,x153.2.2.2.2)]).length 104 then
 cC k v0 v1 v2  n (s38) (s39) (s40) (s41) (IntKind.i64.wrap (s52+(1:Int))) (s54++[(x153.1,x153.2.1,(x153.2.2.1.1,x153.2.2.1.2.1,x153.2.2.1.2.2.1,x153.2.2.1.2.2.2.1,x153.2.2.1.2.2.2.2.1,x153.2.2.1.2.2.2.2.2.1,x153.2.2.1.2.2.2.2.2.2),x153.2.2.2.1,x153.2.2.2.2)]) (11)
 else
 none)
 else
 bH k v0 v1 v2 (k+21) (s38) (s39) (s41) (s54) ((0:Int)) ([]) (0) (s40.length) (s40)
theorem gh (k:Nat) (v0_0 v0_1 v0_2 v0_3:Int) (v1:List (Int×List Int)) (v2:List (List Int)):∀ (n:Nat) (s38:List (Int×List Int)) (s39:List Int) (s40:List Int) (s41:Nat) (s52:Int) (s54:List (Int×List (Int×Int×Int)×(Int×Int×Int×Int×Int×Int×Int)×Int×Int)) (s55:Nat) ⦃s34:Bool⦄ ⦃s35:Bool⦄ ⦃s36:Bool⦄ ⦃s37:Bool⦄ ⦃s53:Nat⦄ ⦃j51:V⦄,rt none (itX (xX (xS (k+21)) 23 0 (k+21) false) EY (14) (au (xX (xS (k+21)) 23 0 (k+21) false) (aC (xS (k+21)).P Tryz.f23) Fv) n ⟨(.agg [.lit (.int .i64 v0_0),.lit (.int .i64 v0_1),.lit (.int .i64 v0_2),.lit (.int .i64 v0_3)]::.ro (List.map ao v1)::.ro (List.map cO v2)::.ptr 0 0 0 0::uu::uu::.ptr 5 0 0 0::.lit (.bool false)::.own 6 0 s40.length::.ptr 11 0 0 0::j51::uu::uu::uu::uu::uu::.agg [.lit (.int .i64 v0_0),.lit (.int .i64 v0_1),.lit (.int .i64 v0_2),.lit (.int .i64 v0_3)]::.lit (.bool s34)::.lit (.bool s35)::.lit (.bool false)::.ro (List.map ao v1)::.lit (.bool s36)::.lit (.bool s37)::.lit (.bool s37)::.lit (.bool false)::.ro (List.map cO v2)::.lit (.int .i64 (↑v2.length:Int))::.lit (.bool (decide ((3:Int)<(↑v2.length:Int))))::.lit (.bool (decide ((3:Int)<(↑v2.length:Int))))::uu::.ro (List.map ao v1)::.own 6 0 s40.length::.agg [.lit (.int .i64 v0_0),.lit (.int .i64 v0_1),.lit (.int .i64 v0_2),.lit (.int .i64 v0_3)]::.ro (List.map ao v1)::.ro (List.map ao s38)::.agg [.lit (.int .i64 v0_0),.lit (.int .i64 v0_1),.lit (.int .i64 v0_2),.lit (.int .i64 v0_3)]::.ro (List.map (aI IntKind.u64) s39)::.agg [.lit (.int .i64 v0_0),.lit (.int .i64 v0_1),.lit (.int .i64 v0_2),.lit (.int .i64 v0_3),.ro (List.map ao s38),.ro (List.map (aI IntKind.u64) s39),.nil,.nil]::.ptr 0 0 0 0::.lit (.int .i64 v0_0)::.lit (.int .i64 s52)::.junk::.junk::.junk::.junk::.junk::.junk::.junk::.junk::.junk::.junk::uu::uu::uu::uu::uu::uu::uu::uu::uu::uu::uu::uu::uu::uu::uu::uu::uu::uu::uu::uu::uu::uu::uu::uu::uu::uu::uu::uu::uu::uu::uu::uu::uu::[]),[.box [.lit (.int .i64 v0_0),.lit (.int .i64 v0_1),.lit (.int .i64 v0_2),.lit (.int .i64 v0_3)],.rows 0 [] 0 true,.rows 0 [] 0 true,.rows 0 [] 0 true,.rows 0 [] 0 true,.box [.lit (.int .i64 (0:Int)),.lit (.int .i64 (0:Int)),.lit (.int .i64 (0:Int)),.lit (.int .i64 (0:Int)),.own 1 0 0,.own 2 0 0,.own 3 0 0,.own 4 0 0],.rows s41 (List.map (aI IntKind.i64) s40) 0 true,.rows 0 [] 0 true,.rows 0 [] 0 true,.rows 0 [] 0 true,.rows 0 [] 0 true,.box [.lit (.int .i64 v0_0),.lit (.int .i64 v0_1),.lit (.int .i64 v0_2),.lit (.int .i64 v0_3),.ro (List.map ao s38),.ro (List.map (aI IntKind.u64) s39),.own 12 s53 s54.length,.own 13 0 0],.rows s55 (List.map aP s54) s53 true,.rows 0 [] 0 true]⟩)=ob (cC k (v0_0,v0_1,v0_2,v0_3) v1 v2  n s38 s39 s40 s41 s52 s54 s55) fun r=>some ((.tup [.agg [.lit (.int .i64 r.1.1.1),.lit (.int .i64 r.1.1.2.1),.lit (.int .i64 r.1.1.2.2.1),.lit (.int .i64 r.1.1.2.2.2),.ro (List.map ao r.1.2.1),.ro (List.map (aI .u64) r.1.2.2.1),.ro (List.map aP r.1.2.2.2.1),.ro (List.map b8 r.1.2.2.2.2)],.lit (.bool r.2)]),[]):=by
 intro n
 induction n with
 | zero=>intros;rfl
 | succ n ih=>
  intro s38 s39 s40 s41 s52 s54 s55 s34 s35 s36 s37 s53 j51
  rw [cC]
  have hu2:=ln k v0_0 v0_1 v0_2 v0_3 v1 v2 (k+21) (s38) (s39) (s41) (s54) ((0:Int)) ([]) (0) (s40.length) (s40)
  try simp -implicitDefEqProofs only [List.map_nil,List.length_nil] at hu2
  simp (maxSteps:=2000000) -implicitDefEqProofs only [aag,VC,VA,w6,w8,wV,wT,wZ,gQ,gL,gJ,gM,Yy,VB,VH,wB,gH,aK (g:=57),↓syP,syA,syD,simprocAttr,syE,ah,ag,af,syW,xQ,cF,bU,nt,dV,oE,lD,fh,cJ,eM,Qo,ih,ln k v0_0 v0_1 v0_2 v0_3 v1 v2,hu2]
  all_goals simp -implicitDefEqProofs only [List.map_nil]
def gF (k:Nat) (v0:(Int×Int×Int×Int)) (v1:(List (Int×List Int))) (v2:(List (List Int))):Option (((Int×Int×Int×Int)×List (Int×List Int)×List Int×List (Int×List (Int×Int×Int)×(Int×Int×Int×Int×Int×Int×Int)×Int×Int)×List (Int×List Int×Int×Int×Int×Int×Int×Int×Int))×Bool):=
 ob (bL v0) fun x162=>
 bif !x162 then
 some (((0,0,0,0),[],[],[],[]),false)
 else
 ob (cG (k+2) v1) fun x163=>
 bif !x163 then
 some (((0,0,0,0),[],[],[],[]),false)
 else
 bif decide (3<(↑v2.length:Int)) then
 some (((0,0,0,0),[],[],[],[]),false)
 else
 ob (cG (k+1) v1) fun x164=>
 bif !x164 then
 ob (dX (k+19) v1) fun x165=>
 ob (iX (k+17) v0) fun x166=>
 cC k v0 v1 v2 (k+21) x165 x166 ([]) 0 0 ([]) 0
 else
 ob (br k (k+20) v1 (↑v1.length:Int) 0 [] 0 0) fun x167=>
 ob (dX (k+19) v1) fun x168=>
 ob (iX (k+17) v0) fun x169=>
 cC k v0 v1 v2 (k+21) x168 x169 x167.2.1 x167.2.2 0 ([]) 0
theorem ml (k:Nat) (v0_0 v0_1 v0_2 v0_3:Int) (v1:List (Int×List Int)) (v2:List (List Int)):xC (k+22) none 23 [.agg [.lit (.int .i64 v0_0),.lit (.int .i64 v0_1),.lit (.int .i64 v0_2),.lit (.int .i64 v0_3)],.ro (List.map ao v1),.ro (List.map cO v2)]=ob (gF k (v0_0,v0_1,v0_2,v0_3) v1 v2) fun r=>some ((.tup [.agg [.lit (.int .i64 r.1.1.1),.lit (.int .i64 r.1.1.2.1),.lit (.int .i64 r.1.1.2.2.1),.lit (.int .i64 r.1.1.2.2.2),.ro (List.map ao r.1.2.1),.ro (List.map (aI .u64) r.1.2.2.1),.ro (List.map aP r.1.2.2.2.1),.ro (List.map b8 r.1.2.2.2.2)],.lit (.bool r.2)]),[]):=by
 rw [aK]
 unfold gF
 have hl0:=fun (x173:List (Int×List Int)) (x174:List Int)=>gh k v0_0 v0_1 v0_2 v0_3 v1 v2 (k+21) (x173) (x174) ([]) (0) ((0:Int)) ([]) (0)
 try simp -implicitDefEqProofs only [List.map_nil,List.length_nil] at hl0
 have hl1:=fun (x176:List (Int×List Int)) (x177:List Int) (x175:Nat×List Int×Nat)=>gh k v0_0 v0_1 v0_2 v0_3 v1 v2 (k+21) (x176) (x177) (x175.snd.fst) (x175.snd.snd) ((0:Int)) ([]) (0)
 try simp -implicitDefEqProofs only [List.map_nil,List.length_nil] at hl1
 simp (maxSteps:=2000000) -implicitDefEqProofs only [aag,VC,VA,w6,w8,wV,wT,wZ,gQ,gL,gJ,gM,Yy,VB,VH,wB,gH,aK (g:=57),↓syP,syA,syD,simprocAttr,syE,ah,ag,af,syW,xQ,cF,bU,nt,fh,cJ,eM,gh k v0_0 v0_1 v0_2 v0_3 v1 v2,hl0,hl1]
 all_goals simp -implicitDefEqProofs only [List.map_nil]
end Go.Ab
set_option maxRecDepth 100000
set_option linter.unusedVariables false
set_option linter.unusedSimpArgs false
namespace Go.Ab
open Go.Proofs
def m8 (k:Nat) (v0:((Int×Int×Int×Int)×List (Int×List Int)×List Int×List (Int×List (Int×Int×Int)×(Int×Int×Int×Int×Int×Int×Int)×Int×Int)×List (Int×List Int×Int×Int×Int×Int×Int×Int×Int))) (v1:(Int×Int×Int)):Option (((Int×Int×Int×Int)×List (Int×List Int)×List Int×List (Int×List (Int×Int×Int)×(Int×Int×Int×Int×Int×Int×Int)×Int×Int)×List (Int×List Int×Int×Int×Int×Int×Int×Int×Int))×(List (Int×Int×Int))):=
 ob (eE k v0 [v1]) fun x2=>
 some (((x2.1.1.1,x2.1.1.2.1,x2.1.1.2.2.1,x2.1.1.2.2.2),x2.1.2),x2.2)
theorem Dq (k:Nat) (v0_0_0 v0_0_1 v0_0_2 v0_0_3:Int) (v0_1:List (Int×List Int)) (v0_2:List Int) (v0_3:List (Int×List (Int×Int×Int)×(Int×Int×Int×Int×Int×Int×Int)×Int×Int)) (v0_4:List (Int×List Int×Int×Int×Int×Int×Int×Int×Int)) (v1_0 v1_1 v1_2:Int):xC (k+64) none 24 [.agg [.lit (.int .i64 v0_0_0),.lit (.int .i64 v0_0_1),.lit (.int .i64 v0_0_2),.lit (.int .i64 v0_0_3),.ro (List.map ao v0_1),.ro (List.map (aI .u64) v0_2),.ro (List.map aP v0_3),.ro (List.map b8 v0_4)],.agg [.lit (.int .i64 v1_0),.lit (.int .i64 v1_1),.lit (.int .u64 v1_2)]]=ob (m8 k ((v0_0_0,v0_0_1,v0_0_2,v0_0_3),v0_1,v0_2,v0_3,v0_4) (v1_0,v1_1,v1_2)) fun r=>some ((.tup [.agg [.lit (.int .i64 r.1.1.1),.lit (.int .i64 r.1.1.2.1),.lit (.int .i64 r.1.1.2.2.1),.lit (.int .i64 r.1.1.2.2.2),.ro (List.map ao r.1.2.1),.ro (List.map (aI .u64) r.1.2.2.1),.ro (List.map aP r.1.2.2.2.1),.ro (List.map b8 r.1.2.2.2.2)],.ro (List.map aM r.2)]),[]):=by
 rw [aK]
 unfold m8
 simp (maxSteps:=2000000) -implicitDefEqProofs only [afW,afa,↓syP,syA,syD,simprocAttr,syE,ah,ag,af,syW,xQ,gP]
 all_goals simp -implicitDefEqProofs only [List.map_nil]
end Go.Ab
set_option maxRecDepth 100000
set_option linter.unusedVariables false
set_option linter.unusedSimpArgs false
namespace Go.Ab
open Go.Proofs
def aX (k:Nat) (v0:(List (List Int)))  : Nat→Int→Option Bool
 | 0,_=>none
 | n+1,s3=>
 bif decide (s3<(↑v0.length:Int)) then
 bif decide (s3≤(10:Int)) then
 ob (idx v0 s3) fun x6=>
 bif decide ((60:Int)<(↑x6.length:Int)) then
 some (false)
 else
 aX k v0  n (IntKind.i64.wrap (s3+(1:Int)))
 else
 some (decide ((↑v0.length:Int)≤(10:Int)))
 else
 some (decide ((↑v0.length:Int)≤(10:Int)))
theorem gi (k:Nat) (v0:List (List Int)):∀ (n:Nat) (s3:Int),rt none (itX (xX (xS k) 22 0 k false) oY (0) (au (xX (xS k) 22 0 k false) (aC (xS k).P Tryz.f22) F0) n ⟨[.ro (List.map cO v0),uu,.lit (.bool false),.lit (.int .i64 s3),.junk,.junk,.junk,.junk,.junk,.junk,.junk,.junk,.junk,.junk,.junk,.junk,.junk,.junk,.junk,.junk,uu,uu,uu],[]⟩)=ob (aX k v0  n s3) fun r=>some ((.lit (.bool r)),[]):=by
 intro n
 induction n with
 | zero=>intros;rfl
 | succ n ih=>
  intro s3
  rw [aX]
  simp (maxSteps:=2000000) -implicitDefEqProofs only [ae3,adY,ads,KF,Lk,oD,oj,↓syP,syA,syD,simprocAttr,syE,ah,ag,af,syW,xQ,PG,ih]
  all_goals simp -implicitDefEqProofs only [List.map_nil]
def bG (k:Nat) (v0:(List (List Int))):Option Bool:=
 aX k v0 k 0
theorem cA (k:Nat) (v0:List (List Int)):xC (k+1) none 22 [.ro (List.map cO v0)]=ob (bG k v0) fun r=>some ((.lit (.bool r)),[]):=by
 rw [aK]
 unfold bG
 simp (maxSteps:=2000000) -implicitDefEqProofs only [ae3,adY,ads,KF,Lk,oD,oj,↓syP,syA,syD,simprocAttr,syE,ah,ag,af,syW,xQ,gi k v0]
 all_goals simp -implicitDefEqProofs only [List.map_nil]
end Go.Ab
set_option maxRecDepth 100000
set_option linter.unusedVariables false
set_option linter.unusedSimpArgs false
namespace Go.Ab
open Go.Proofs
end Go.Ab
set_option maxRecDepth 100000
set_option linter.unusedVariables false
set_option linter.unusedSimpArgs false
namespace Go.Ab
open Go.Proofs
end Go.Ab
set_option maxRecDepth 100000
set_option maxHeartbeats 4000000
set_option linter.unusedVariables false
set_option linter.unusedSimpArgs false
namespace Go.Ab
open Go.Proofs
def awS:Nat→(Int×Int×Int×Int)×List (Int×List Int)×List Int×List (Int×List (Int×Int×Int)×(Int×Int×Int×Int×Int×Int×Int)×Int×Int)×List (Int×List Int×Int×Int×Int×Int×Int×Int×Int)
 | 0=>((1,1,1,0),[],List.replicate 12 0,[(0,[],(1,0,0,0,0,0,0),0,0)],[])
 | n+1=>match m8 0 (awS n) (0,0,0) with | some r=>r.1 | none=>((0,0,0,0),[],[],[],[])
def awR:=match eE 0 (awS 20) [(0,0,0),(2,0,0)] with | some r=>r.1 | none=>awS 0
abbrev awC (x:(Int×Int×Int×Int)×List (Int×List Int)×List Int×List (Int×List (Int×Int×Int)×(Int×Int×Int×Int×Int×Int×Int)×Int×Int)×List (Int×List Int×Int×Int×Int×Int×Int×Int×Int)):List V:=
 [.lit (.int .i64 x.1.1),.lit (.int .i64 x.1.2.1),.lit (.int .i64 x.1.2.2.1),.lit (.int .i64 x.1.2.2.2),.ro (List.map ao x.2.1),.ro (List.map (aI .u64) x.2.2.1),.ro (List.map aP x.2.2.2.1),.ro (List.map b8 x.2.2.2.2)]
section
variable (j:Nat)
theorem afN:xC (j+79) none 23 [.agg [.lit (.int .i64 1),.lit (.int .i64 1),.lit (.int .i64 1),.lit (.int .i64 0)],.nil,.nil]=some (.tup [.agg (awC (awS 0)),.lit (.bool true)],[]):=by kernel_rfl
theorem afI:xC (j+79) none 26 [.agg (awC (awS 0))]=some (.lit (.int .i64 0),[]):=by kernel_rfl
theorem afQ:xC (j+79) none 25 [.agg (awC (awS 0))]=some (.lit (.bool false),[]):=by kernel_rfl
theorem af9:xC (j+79) none 29 [.agg (awC (awS 0))]=some (.lit (.bool false),[]):=by kernel_rfl
theorem af5:xC (j+79) none 20 [.agg (awC (awS 0))]=some (.lit (.bool true),[]):=by kernel_rfl
def awM:List Int:=[0,0,1,0,0,0,0,0,0,0,0,0]
def awW:List (Int×List (Int×Int×Int)×(Int×Int×Int×Int×Int×Int×Int)×Int×Int):=[(8,[],(5,3,0,0,0,0,0),0,0)]
theorem J3:awS 20=((1,1,1,0),[],awM,awW,[]):=by kernel_rfl
theorem Zb:awR=((1,1,1,0),[],[0,0,1,1,0,0,0,0,0,0,0,0],awW,[]):=by kernel_rfl
theorem acp:xC (j+79) none 25 [.agg (awC (awS 20))]=some (.lit (.bool true),[]):=by
 rw [J3]
 kernel_rfl
theorem act:xC (j+79) none 29 [.agg (awC (awS 20))]=some (.lit (.bool true),[]):=by
 rw [J3]
 kernel_rfl
theorem afF:xC (j+79) none 19 [.agg (awC (awS 20)),.agg (awC (awS 20))]=some (.lit (.bool true),[]):=by
 rw [J3]
 kernel_rfl
theorem adP:xC (j+79) none 20 [.agg (awC awR)]=some (.lit (.bool true),[]):=by
 rw [Zb]
 kernel_rfl
theorem afM:xC (j+79) none 17 [.agg (awC (awS 20)),.ro (List.map ej [(0,0,0),(2,0,0)])]=some (.tup [.agg (awC awR),.ro []],[]):=(gP (j+16) _ _ _ _ _ _ _ _ _).trans (by kernel_rfl)
theorem afZ:∀ i:Nat,i<20→xC (j+79) none 24 [.agg (awC (awS i)),.agg [.lit (.int .i64 0),.lit (.int .i64 0),.lit (.int .u64 0)]]=some (.tup [.agg (awC (awS (i+1))),.ro []],[]):=by
 intro i hi
 refine (Dq (j+15) _ _ _ _ _ _ _ _ _ _ _).trans ?_
 iterate 20
  rcases i with _ | i
  ·kernel_rfl
 omega
end
theorem aww {z:Int} (h:0≤z) (h':z≤99):IntKind.i64.wrap z=z:=IW (by omega) (by omega)
theorem Gh (j:Nat):xC (j+80) none 15 []=some (.lit (.bool true),[]):=by
 rw [aK]
 simp (maxSteps:=2000000) -implicitDefEqProofs only [afB,afx,ae0,Q2,Qw,Q7,P0,QA,Qb,QP,Qu,Qz,Q0,wj,wH,wL,↓syP,syA,syD,simprocAttr,syE,ah,ag,af,syW,xQ,afN,afI,afQ,af9,af5,acp,act,afF,adP,afM,afZ,QY,awC,aww,decide_true,decide_false,cond_true,cond_false]
end Go.Ab
