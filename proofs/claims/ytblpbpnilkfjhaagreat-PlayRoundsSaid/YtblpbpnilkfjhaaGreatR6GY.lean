import Derived.Test.YtblpbpnilkfjhaaGreatR6GX
import Derived.Test.YtblpbpnilkfjhaaGreatR6BP
import Derived.Test.YtblpbpnilkfjhaaGreatR6BX
import Derived.Test.YtblpbpnilkfjhaaGreatR6BY
import Derived.Test.YtblpbpnilkfjhaaGreatR6BA
set_option linter.unusedVariables false
set_option linter.unusedSimpArgs false
set_option maxRecDepth 100000
set_option linter.unusedVariables false
set_option linter.unusedSimpArgs false
namespace Go.Ab
open Go.Proofs
def gI (v0:(Int×Int×Int)) (v1:Int) (v2:Int):Option Bool:=
 bif v0.1==0 then
 ob (cC v0.2.1 v1) fun x4=>
 bif x4 then
 some true
 else
 bif v0.1==1 then
 ob (cC v0.2.1 v2) fun x5=>
 bif x5 then
 some true
 else
 bif v0.1==2 then
 some true
 else
 some (v0.1==3)
 else
 bif v0.1==2 then
 some true
 else
 some (v0.1==3)
 else
 bif v0.1==1 then
 ob (cC v0.2.1 v2) fun x6=>
 bif x6 then
 some true
 else
 bif v0.1==2 then
 some true
 else
 some (v0.1==3)
 else
 bif v0.1==2 then
 some true
 else
 some (v0.1==3)
theorem uE (k:Nat) (v0_0 v0_1 v0_2 v1 v2:Int):xC (k+2) none 42 [.agg [.lit (.int .i64 v0_0),.lit (.int .i64 v0_1),.lit (.int .u64 v0_2)],.lit (.int .i64 v1),.lit (.int .i64 v2)]=ob (gI (v0_0,v0_1,v0_2) v1 v2) fun r=>some ((.lit (.bool r)),[]):=by
 rw [aH]
 unfold gI
 simp (maxSteps:=2000000) -implicitDefEqProofs only [ahV,ag1,Sl,Rp,SI,ST,Rn,Rx,Sd,Ss,RD,xx,↓syP,syA,syD,simprocAttr,syE,ah,ag,ae,syW,xQ,gW]
 all_goals simp -implicitDefEqProofs only [List.map_nil]
def de (k:Nat) (v0:Tyt)  : Nat→Tyt→Int→Int→Tyt→Option Tyt
 | 0,_,_,_,_=>none
 | n+1,s23,s24,s30,s31=>
 bif decide (s30<s24) then
 bif decide ((0:Int)≤s30∧s30.toNat<s23.length) then
 ob (s31[s30.toNat]?) fun x39=>
 ob (aL 8 x39.2) fun x40=>
 bif decide ((0:Int)≤s30∧s30.toNat<s23.length) then
 ob (s31[s30.toNat]?) fun x41=>
 de k v0  n (s23) (s24) (IntKind.i64.wrap (s30+(1:Int))) (s31.set s30.toNat (x41.1,x40))
 else
 none
 else
 none
 else
 ck (decide (s23.length≤s31.length)) (
 some (List.take s23.length s31))
theorem ot (k:Nat) (v0:Tyt):∀ (n:Nat) (s23:Tyt) (s24:Int) (s30:Int) (s31:Tyt) ⦃j29:V⦄,rt none (itX (xX (xS (k+1)) 58 0 (k+1) false) GQ (2) (au (xX (xS (k+1)) 58 0 (k+1) false) (ao (xS (k+1)).P Tryz.f58) Hk) n ⟨[.ro (List.map an v0),uu,.own 0 0 0,.own 1 0 s23.length,j29,.ro (List.map an v0),.own 1 0 s23.length,.own 1 0 s23.length,.lit (.int .i64 s24),.lit (.int .i64 s30),.junk,.junk,.junk,.junk,.junk,.junk,.junk,.junk,.junk,.junk,.junk,.junk,.junk,uu],[.rows 0 [] 0 true,.rows 2 (List.map an s31) 0 true]⟩)=ob (de k v0  n s23 s24 s30 s31) fun r=>some ((.ro (List.map an r)),[]):=by
 intro n
 induction n with
 | zero=>intros;rfl
 | succ n ih=>
  intro s23 s24 s30 s31 j29
  rw [de]
  simp (maxSteps:=2000000) -implicitDefEqProofs only [agK,acT,acL,JR,pY,↓syP,syA,syD,simprocAttr,syE,ah,ag,ae,syW,xQ,Rl,ih]
  all_goals simp -implicitDefEqProofs only [List.map_nil]
def dn (k:Nat) (v0:Tyt):Option Tyt:=
 ob (aL 32 v0) fun x42=>
 de k v0 (k+1) x42 ((↑x42.length:Int)) 0 x42
theorem cU (k:Nat) (v0:Tyt):xC (k+2) none 58 [.ro (List.map an v0)]=ob (dn k v0) fun r=>some ((.ro (List.map an r)),[]):=by
 rw [aH]
 unfold dn
 simp (maxSteps:=2000000) -implicitDefEqProofs only [agK,acT,acL,JR,pY,↓syP,syA,syD,simprocAttr,syE,ah,ag,ae,syW,xQ,ot k v0]
 all_goals simp -implicitDefEqProofs only [List.map_nil]
end Go.Ab
set_option maxRecDepth 100000
set_option linter.unusedVariables false
set_option linter.unusedSimpArgs false
namespace Go.Ab
open Go.Proofs
def cg (k:Nat)   : Nat→List Int→Int→Tyt→Int→Option Int
 | 0,_,_,_,_=>none
 | n+1,s20,s21,s26,s40=>
 bif decide (s40<s21) then
 ob (idx s20 s40) fun x46=>
 bif decide (x46<(0:Int)) then
 some (s40)
 else
 bif decide ((↑s26.length:Int)≤x46) then
 some (s40)
 else
 cg k   n (s20) (s21) (s26) (IntKind.i64.wrap (s40+(1:Int)))
 else
 some ((-1:Int))
theorem od (k:Nat)  : ∀ (n:Nat) (s20:List Int) (s21:Int) (s26:Tyt) (s40:Int) ⦃s22:Int⦄ ⦃s23:Int⦄ ⦃s24:Int⦄ ⦃s25:Int⦄ ⦃s27:List Int⦄ ⦃s28:List Tyw⦄ ⦃s29:List Tys⦄ ⦃s30:Int⦄ ⦃s31:Int⦄ ⦃s32:Int⦄ ⦃s33:Int⦄ ⦃s34:Int⦄ ⦃s35:Int⦄ ⦃s36:Int⦄ ⦃s37:Int⦄ ⦃j39:V⦄,itX (xX (xS (k+29)) 97 0 (k+29) false) GK (4) (au (xX (xS (k+29)) 97 0 (k+29) false) (ao (xS (k+29)).P Tryz.f97) G4) n ⟨[.ro (List.map (aF IntKind.i64) s20),.fn (Fn.func (54:FuncId)) [] [.ptr 0 0 0 0],uu,uu,.lit (.int .i64 (0:Int)),j39,.ro (List.map (aF IntKind.i64) s20),.lit (.int .i64 s21),.lit (.int .i64 s40),.junk,.junk,.junk,.junk,.junk,.junk,.junk,.junk,.junk,.junk],[.box [.lit (.int .i64 s22),.lit (.int .i64 s23),.lit (.int .i64 s24),.lit (.int .i64 s25),.ro (List.map an s26),.ro (List.map (aF IntKind.u64) s27),.ro (List.map aG s28),.ro (List.map bn s29)],.box [.lit (.bool false)],.box [.lit (.int .i64 s22),.lit (.int .i64 s23),.lit (.int .i64 s24),.lit (.int .i64 s25),.ro (List.map an s26),.ro (List.map (aF IntKind.u64) s27),.ro (List.map aG s28),.ro (List.map bn s29)],.box [.lit (.int .i64 s30),.ro (List.map (aF IntKind.i64) s20),.lit (.int .i64 s31),.lit (.int .i64 s32),.lit (.int .i64 s33),.lit (.int .u64 s34),.lit (.int .u64 s35),.lit (.int .u64 s36),.lit (.int .i64 s37)]]⟩=ob (cg k   n s20 s21 s26 s40) fun r=>some ((.lit (.int .i64 r),[.box [.lit (.int .i64 s22),.lit (.int .i64 s23),.lit (.int .i64 s24),.lit (.int .i64 s25),.ro (List.map an s26),.ro (List.map (aF IntKind.u64) s27),.ro (List.map aG s28),.ro (List.map bn s29)],.box [.lit (.bool false)],.box [.lit (.int .i64 s22),.lit (.int .i64 s23),.lit (.int .i64 s24),.lit (.int .i64 s25),.ro (List.map an s26),.ro (List.map (aF IntKind.u64) s27),.ro (List.map aG s28),.ro (List.map bn s29)],.box [.lit (.int .i64 s30),.ro (List.map (aF IntKind.i64) s20),.lit (.int .i64 s31),.lit (.int .i64 s32),.lit (.int .i64 s33),.lit (.int .u64 s34),.lit (.int .u64 s35),.lit (.int .u64 s36),.lit (.int .i64 s37)]])):=by
 intro n
 induction n with
 | zero=>intros;rfl
 | succ n ih=>
  intro s20 s21 s26 s40 s22 s23 s24 s25 s27 s28 s29 s30 s31 s32 s33 s34 s35 s36 s37 j39
  rw [cg]
  simp (maxSteps:=2000000) -implicitDefEqProofs only [ab4,Ye,abB,CW,CX,D5,eh,eo,lk,lF,oj,ab2,aaW,aH (g:=51),M6,M3,ab7,Z7,Du,Ds,DK,CH,Dz,Cv,CZ,DW,lO,abZ,Zy,Cn,lC,abV,Y2,acb,abC,aa9,Cr,Ej,lJ,ln,IS,GD,Gp,kP,cE,ab8,ZA,Z1,D0,lz,↓syP,syA,syD,simprocAttr,syE,ah,ag,ae,syW,xQ,Ru,ih]
  all_goals simp -implicitDefEqProofs only [List.map_nil]
def bM (k:Nat)   : Nat→List Tys→Int→Tyt→Int→Option Int
 | 0,_,_,_,_=>none
 | n+1,s9,s10,s15,s50=>
 bif decide (s50<s10) then
 ob (idx s9 s50) fun x59=>
 bif decide (x59.1<(0:Int)) then
 some (s50)
 else
 bif decide ((6:Int)≤x59.1) then
 some (s50)
 else
 ob (cg k (k+29) x59.2.1 (↑x59.2.1.length:Int) s15 (0:Int)) fun x60=>
 bif decide ((0:Int)≤x60) then
 some (s50)
 else
 bif x59.1 !=(0:Int) then
 bif (↑x59.2.1.length:Int)==(0:Int) then
 some (s50)
 else
 bM k   n (s9) (s10) (s15) (IntKind.i64.wrap (s50+(1:Int)))
 else
 bM k   n (s9) (s10) (s15) (IntKind.i64.wrap (s50+(1:Int)))
 else
 some ((-1:Int))
theorem nF (k:Nat)  : ∀ (n:Nat) (s9:List Tys) (s10:Int) (s15:Tyt) (s50:Int) ⦃s11:Int⦄ ⦃s12:Int⦄ ⦃s13:Int⦄ ⦃s14:Int⦄ ⦃s16:List Int⦄ ⦃s17:List Tyw⦄ ⦃j49:V⦄,itX (xX (xS (k+32)) 96 0 (k+32) false) AK (3) (au (xX (xS (k+32)) 96 0 (k+32) false) (ao (xS (k+32)).P Tryz.f96) xV) n ⟨[.ro (List.map bn s9),.fn (Fn.func (53:FuncId)) [] [.ptr 0 0 0 0],uu,uu,.lit (.int .i64 (0:Int)),j49,.ro (List.map bn s9),.lit (.int .i64 s10),.lit (.int .i64 s50),.junk,.junk,.junk,.junk,.junk,.junk,.junk,.junk,.junk,.junk],[.box [.lit (.int .i64 s11),.lit (.int .i64 s12),.lit (.int .i64 s13),.lit (.int .i64 s14),.ro (List.map an s15),.ro (List.map (aF IntKind.u64) s16),.ro (List.map aG s17),.ro (List.map bn s9)],.box [.lit (.bool false)],.box [.lit (.int .i64 s11),.lit (.int .i64 s12),.lit (.int .i64 s13),.lit (.int .i64 s14),.ro (List.map an s15),.ro (List.map (aF IntKind.u64) s16),.ro (List.map aG s17),.ro (List.map bn s9)]]⟩=ob (bM k   n s9 s10 s15 s50) fun r=>some ((.lit (.int .i64 r),[.box [.lit (.int .i64 s11),.lit (.int .i64 s12),.lit (.int .i64 s13),.lit (.int .i64 s14),.ro (List.map an s15),.ro (List.map (aF IntKind.u64) s16),.ro (List.map aG s17),.ro (List.map bn s9)],.box [.lit (.bool false)],.box [.lit (.int .i64 s11),.lit (.int .i64 s12),.lit (.int .i64 s13),.lit (.int .i64 s14),.ro (List.map an s15),.ro (List.map (aF IntKind.u64) s16),.ro (List.map aG s17),.ro (List.map bn s9)]])):=by
 intro n
 induction n with
 | zero=>intros;rfl
 | succ n ih=>
  intro s9 s10 s15 s50 s11 s12 s13 s14 s16 s17 j49
  rw [bM]
  simp (maxSteps:=2000000) -implicitDefEqProofs only [ab4,Ye,abB,CW,CX,D5,eh,eo,lk,lF,oj,ab2,aaW,aH (g:=51),M6,M3,ab7,Z7,Du,Ds,DK,CH,Dz,Cv,CZ,DW,lO,abZ,Zy,Cn,lC,abV,Y2,acb,abC,aa9,Cr,Ej,lJ,ln,IS,GD,Gp,kP,cE,ab8,ZA,Z1,D0,lz,↓syP,syA,syD,simprocAttr,syE,ah,ag,ae,syW,xQ,od,Hr,ih]
  all_goals simp -implicitDefEqProofs only [List.map_nil]
def eb (k:Nat) (v0:Typ)  : Nat→Int→Option Bool
 | 0,_=>none
 | n+1,s67=>
 bif decide (s67<(↑v0.2.2.2.1.length:Int)) then
 ob (idx v0.2.2.2.1 s67) fun x75=>
 ob (i7 (k+9) (v0.1.1,v0.1.2.1,v0.1.2.2.1,v0.1.2.2.2) v0.2.1 v0.2.2.1 s67 (x75.1,x75.2.1,(x75.2.2.1.1,x75.2.2.1.2.1,x75.2.2.1.2.2.1,x75.2.2.1.2.2.2.1,x75.2.2.1.2.2.2.2.1,x75.2.2.1.2.2.2.2.2.1,x75.2.2.1.2.2.2.2.2.2),x75.2.2.2.1,x75.2.2.2.2)) fun x76=>
 bif !x76 then
 some (false)
 else
 eb k v0  n (IntKind.i64.wrap (s67+(1:Int)))
 else
 ob (bM k (k+32) v0.2.2.2.2 (↑v0.2.2.2.2.length:Int) v0.2.1 (0:Int)) fun x77=>
 some (!decide ((0:Int)≤x77))
theorem rW (k:Nat) (v0_0_0 v0_0_1 v0_0_2 v0_0_3:Int) (v0_1:Tyt) (v0_2:List Int) (v0_3:List Tyw) (v0_4:List Tys):∀ (n:Nat) (s67:Int) ⦃s3:Bool⦄ ⦃s4:Bool⦄ ⦃j65 j66:V⦄,rt none (bq (itX (xX (xS (k+33)) 94 0 (k+33) false) rB (4) (au (xX (xS (k+33)) 94 0 (k+33) false) (ao (xS (k+33)).P Tryz.f94) G7) n ⟨[.yld 3,.ptr 2 0 0 0,uu,j65,j66,.ptr 2 0 0 6,.ro (List.map aG v0_3),.lit (.int .i64 (↑v0_3.length:Int)),.lit (.int .i64 s67),.junk,.junk,.junk,.junk,.junk,.junk,.junk,.junk,.junk,.junk,.junk,.junk,.junk,.junk,.junk,.junk,.junk,.junk,.junk,.junk,.junk],[.box [.lit (.int .i64 v0_0_0),.lit (.int .i64 v0_0_1),.lit (.int .i64 v0_0_2),.lit (.int .i64 v0_0_3),.ro (List.map an v0_1),.ro (List.map (aF IntKind.u64) v0_2),.ro (List.map aG v0_3),.ro (List.map bn v0_4)],.box [.lit (.bool false)],.box [.lit (.int .i64 v0_0_0),.lit (.int .i64 v0_0_1),.lit (.int .i64 v0_0_2),.lit (.int .i64 v0_0_3),.ro (List.map an v0_1),.ro (List.map (aF IntKind.u64) v0_2),.ro (List.map aG v0_3),.ro (List.map bn v0_4)],(.loop ⟨LoopState.ready,none,20,[.agg [.lit (.int .i64 v0_0_0),.lit (.int .i64 v0_0_1),.lit (.int .i64 v0_0_2),.lit (.int .i64 v0_0_3),.ro (List.map an v0_1),.ro (List.map (aF IntKind.u64) v0_2),.ro (List.map aG v0_3),.ro (List.map bn v0_4)],.ptr 0 0 0 0,.ptr 1 0 0 0,.ptr 0 0 0 0,.agg [.lit (.int .i64 v0_0_0),.lit (.int .i64 v0_0_1),.lit (.int .i64 v0_0_2),.lit (.int .i64 v0_0_3)],.lit (.bool s3),.lit (.bool s4),.lit (.bool false),.ptr 0 0 0 6,.ro (List.map aG v0_3),.lit (.int .i64 (↑v0_3.length:Int)),.ptr 0 0 0 0,.ptr 0 0 0 0,.lit (.int .i64 v0_0_0),.lit (.bool ((↑v0_3.length:Int)!=v0_0_0)),.lit (.bool ((↑v0_3.length:Int)!=v0_0_0)),.lit (.bool false),.ptr 0 0 0 7,.ro (List.map bn v0_4),.lit (.int .i64 (↑v0_4.length:Int)),.lit (.bool (decide ((3:Int)<(↑v0_4.length:Int)))),.lit (.bool (decide ((3:Int)<(↑v0_4.length:Int)))),.agg [.lit (.int .i64 v0_0_0),.lit (.int .i64 v0_0_1),.lit (.int .i64 v0_0_2),.lit (.int .i64 v0_0_3),.ro (List.map an v0_1),.ro (List.map (aF IntKind.u64) v0_2),.ro (List.map aG v0_3),.ro (List.map bn v0_4)],.fn (Fn.func (94:FuncId)) [] [.ptr 2 0 0 0],uu,uu,uu,uu,uu,uu],[(24:Tmp)],Mi,K9⟩)]⟩) (rfK (au (xX (xS (k+34)) 20 0 (k+34) false) (ao (xS (k+34)).P Tryz.f20) GJ) [.agg [.lit (.int .i64 v0_0_0),.lit (.int .i64 v0_0_1),.lit (.int .i64 v0_0_2),.lit (.int .i64 v0_0_3),.ro (List.map an v0_1),.ro (List.map (aF IntKind.u64) v0_2),.ro (List.map aG v0_3),.ro (List.map bn v0_4)],.ptr 0 0 0 0,.ptr 1 0 0 0,.ptr 0 0 0 0,.agg [.lit (.int .i64 v0_0_0),.lit (.int .i64 v0_0_1),.lit (.int .i64 v0_0_2),.lit (.int .i64 v0_0_3)],.lit (.bool s3),.lit (.bool s4),.lit (.bool false),.ptr 0 0 0 6,.ro (List.map aG v0_3),.lit (.int .i64 (↑v0_3.length:Int)),.ptr 0 0 0 0,.ptr 0 0 0 0,.lit (.int .i64 v0_0_0),.lit (.bool ((↑v0_3.length:Int)!=v0_0_0)),.lit (.bool ((↑v0_3.length:Int)!=v0_0_0)),.lit (.bool false),.ptr 0 0 0 7,.ro (List.map bn v0_4),.lit (.int .i64 (↑v0_4.length:Int)),.lit (.bool (decide ((3:Int)<(↑v0_4.length:Int)))),.lit (.bool (decide ((3:Int)<(↑v0_4.length:Int)))),.agg [.lit (.int .i64 v0_0_0),.lit (.int .i64 v0_0_1),.lit (.int .i64 v0_0_2),.lit (.int .i64 v0_0_3),.ro (List.map an v0_1),.ro (List.map (aF IntKind.u64) v0_2),.ro (List.map aG v0_3),.ro (List.map bn v0_4)],.fn (Fn.func (94:FuncId)) [] [.ptr 2 0 0 0],uu,uu,uu,uu,uu,uu] (3)))=ob (eb k ((v0_0_0,v0_0_1,v0_0_2,v0_0_3),v0_1,v0_2,v0_3,v0_4)  n s67) fun r=>some ((.lit (.bool r)),[]):=by
 intro n
 induction n with
 | zero=>intros;rfl
 | succ n ih=>
  intro s67 s3 s4 j65 j66
  rw [eb]
  simp (maxSteps:=2000000) -implicitDefEqProofs only [ab4,Ye,abB,CW,CX,D5,eh,eo,lk,lF,oj,ab2,aaW,aH (g:=51),M6,M3,ab7,Z7,Du,Ds,DK,CH,Dz,Cv,CZ,DW,lO,abZ,Zy,Cn,lC,abV,Y2,acb,abC,aa9,Cr,Ej,lJ,ln,IS,GD,Gp,kP,cE,ab8,ZA,Z1,D0,lz,↓syP,syA,syD,simprocAttr,syE,ah,ag,ae,syW,xQ,ct,Ar,nF,RV,ih]
  all_goals simp -implicitDefEqProofs only [List.map_nil]
def eq (k:Nat) (v0:Typ):Option Bool:=
 ob (b7 v0.1) fun x78=>
 bif !x78 then
 some false
 else
 bif (↑v0.2.2.2.1.length:Int)!=v0.1.1 then
 some false
 else
 bif decide (3<(↑v0.2.2.2.2.length:Int)) then
 some false
 else
 eb k v0 (k+33) 0
theorem dI (k:Nat) (v0_0_0 v0_0_1 v0_0_2 v0_0_3:Int) (v0_1:Tyt) (v0_2:List Int) (v0_3:List Tyw) (v0_4:List Tys):xC (k+35) none 20 [.agg [.lit (.int .i64 v0_0_0),.lit (.int .i64 v0_0_1),.lit (.int .i64 v0_0_2),.lit (.int .i64 v0_0_3),.ro (List.map an v0_1),.ro (List.map (aF .u64) v0_2),.ro (List.map aG v0_3),.ro (List.map bn v0_4)]]=ob (eq k ((v0_0_0,v0_0_1,v0_0_2,v0_0_3),v0_1,v0_2,v0_3,v0_4)) fun r=>some ((.lit (.bool r)),[]):=by
 rw [aH]
 unfold eq
 simp (maxSteps:=2000000) -implicitDefEqProofs only [ab4,Ye,abB,CW,CX,D5,eh,eo,lk,lF,oj,ab2,aaW,aH (g:=51),M6,M3,ab7,Z7,Du,Ds,DK,CH,Dz,Cv,CZ,DW,lO,abZ,Zy,Cn,lC,abV,Y2,acb,abC,aa9,Cr,Ej,lJ,ln,IS,GD,Gp,kP,cE,ab8,ZA,Z1,D0,lz,↓syP,syA,syD,simprocAttr,syE,ah,ag,ae,syW,xQ,ct,rW k v0_0_0 v0_0_1 v0_0_2 v0_0_3 v0_1 v0_2 v0_3 v0_4]
 all_goals simp -implicitDefEqProofs only [List.map_nil]
end Go.Ab
set_option maxRecDepth 100000
set_option linter.unusedVariables false
set_option linter.unusedSimpArgs false
namespace Go.Ab
open Go.Proofs
def cK (k:Nat)   : Nat→Int→Int→Int→Int→Tyt→List Int→List Tyw→List Tys→Int→List Tyw→Int→List Tys→Option (Int×Int×Int×Int×Tyt×List Int×List Tyw×List Tys×List Tyw×List Tys)
 | 0,_,_,_,_,_,_,_,_,_,_,_,_=>none
 | n+1,s26,s27,s28,s29,s34,s35,s36,s37,s39,s47,s49,s50=>
 bif decide (s49<s39) then
 bif decide ((0:Int)≤s49∧s49.toNat<s37.length) then
 ob (s50[s49.toNat]?) fun x76=>
 ob (aL 8 x76.2.1) fun x77=>
 bif decide ((0:Int)≤s49∧s49.toNat<s37.length) then
 ob (s50[s49.toNat]?) fun x78=>
 cK k   n (s26) (s27) (s28) (s29) (s34) (s35) (s36) (s37) (s39) (s47) (IntKind.i64.wrap (s49+(1:Int))) (s50.set s49.toNat (x78.1,x77,x78.2.2.1,x78.2.2.2.1,x78.2.2.2.2.1,x78.2.2.2.2.2.1,x78.2.2.2.2.2.2.1,x78.2.2.2.2.2.2.2.1,x78.2.2.2.2.2.2.2.2))
 else
 none
 else
 none
 else
 some (s26,s27,s28,s29,s34,s35,s36,s37,s47,s50)
theorem nA (k:Nat)  : ∀ (n:Nat) (s26:Int) (s27:Int) (s28:Int) (s29:Int) (s34:Tyt) (s35:List Int) (s36:List Tyw) (s37:List Tys) (s39:Int) (s47:List Tyw) (s49:Int) (s50:List Tys) ⦃s30:Tyt⦄ ⦃s31:List Int⦄ ⦃s32:List Tyw⦄ ⦃s33:List Tys⦄ ⦃s38:Int⦄ ⦃j46 j48:V⦄,itX (xX (xS (k+61)) 41 0 (k+61) false) GB (8) (au (xX (xS (k+61)) 41 0 (k+61) false) (ao (xS (k+61)).P Tryz.f41) HO) n ⟨[.agg [.lit (.int .i64 s26),.lit (.int .i64 s27),.lit (.int .i64 s28),.lit (.int .i64 s29),.ro (List.map an s30),.ro (List.map (aF IntKind.u64) s31),.ro (List.map aG s32),.ro (List.map bn s33)],.ptr 0 0 0 0,.ptr 5 0 0 0,j46,j48,.ptr 0 0 0 4,.ro (List.map an s30),.ro (List.map an s34),.ptr 0 0 0 5,.ro (List.map (aF IntKind.u64) s31),.ro (List.map (aF IntKind.u64) s35),.ptr 0 0 0 4,.ptr 0 0 0 5,.ptr 0 0 0 6,.ro (List.map aG s32),.own 6 0 s36.length,.ptr 0 0 0 7,.ro (List.map bn s33),.own 7 0 s37.length,.ptr 0 0 0 6,.ptr 0 0 0 7,.ptr 0 0 0 6,.own 6 0 s36.length,.lit (.int .i64 s38),.junk,.junk,.junk,.junk,.junk,.junk,.junk,.junk,.junk,.junk,.junk,.junk,.junk,.junk,.junk,.junk,.ptr 0 0 0 7,.own 7 0 s37.length,.lit (.int .i64 s39),.lit (.int .i64 s49),.junk,.junk,.junk,.junk,.junk,.junk,.junk,.junk,.junk,.junk,.junk,.junk,.junk,.junk,.junk,uu],[.box [.lit (.int .i64 s26),.lit (.int .i64 s27),.lit (.int .i64 s28),.lit (.int .i64 s29),.ro (List.map an s34),.ro (List.map (aF IntKind.u64) s35),.own 6 0 s36.length,.own 7 0 s37.length],.rows 0 [] 0 true,.rows 0 [] 0 true,.rows 0 [] 0 true,.rows 0 [] 0 true,.box [.lit (.int .i64 (0:Int)),.lit (.int .i64 (0:Int)),.lit (.int .i64 (0:Int)),.lit (.int .i64 (0:Int)),.own 1 0 0,.own 2 0 0,.own 3 0 0,.own 4 0 0],.rows 11 (List.map aG s47) 0 true,.rows 9 (List.map bn s50) 0 true]⟩=ob (cK k   n s26 s27 s28 s29 s34 s35 s36 s37 s39 s47 s49 s50) fun r=>some ((.agg [.lit (.int .i64 r.1),.lit (.int .i64 r.2.1),.lit (.int .i64 r.2.2.1),.lit (.int .i64 r.2.2.2.1),.ro (List.map an r.2.2.2.2.1),.ro (List.map (aF IntKind.u64) r.2.2.2.2.2.1),.own 6 0 r.2.2.2.2.2.2.1.length,.own 7 0 r.2.2.2.2.2.2.2.1.length],[.box [.lit (.int .i64 r.1),.lit (.int .i64 r.2.1),.lit (.int .i64 r.2.2.1),.lit (.int .i64 r.2.2.2.1),.ro (List.map an r.2.2.2.2.1),.ro (List.map (aF IntKind.u64) r.2.2.2.2.2.1),.own 6 0 r.2.2.2.2.2.2.1.length,.own 7 0 r.2.2.2.2.2.2.2.1.length],.rows 0 [] 0 true,.rows 0 [] 0 true,.rows 0 [] 0 true,.rows 0 [] 0 true,.box [.lit (.int .i64 r.1),.lit (.int .i64 r.2.1),.lit (.int .i64 r.2.2.1),.lit (.int .i64 r.2.2.2.1),.ro (List.map an r.2.2.2.2.1),.ro (List.map (aF IntKind.u64) r.2.2.2.2.2.1),.own 6 0 r.2.2.2.2.2.2.1.length,.own 7 0 r.2.2.2.2.2.2.2.1.length],.rows 11 (List.map aG r.2.2.2.2.2.2.2.2.1) 0 true,.rows 9 (List.map bn r.2.2.2.2.2.2.2.2.2) 0 true])):=by
 intro n
 induction n with
 | zero=>intros;rfl
 | succ n ih=>
  intro s26 s27 s28 s29 s34 s35 s36 s37 s39 s47 s49 s50 s30 s31 s32 s33 s38 j46 j48
  rw [cK]
  simp (maxSteps:=2000000) -implicitDefEqProofs only [RF,Or,Q0,oO,fd,RM,NY,QQ,pd,pi,eZ,eY,aH (g:=41),Rb,PZ,oV,fi,RZ,Nh,RH,Ng,RB,OQ,↓syP,syA,syD,simprocAttr,syE,ah,ag,ae,syW,xQ,Rk,ih]
  all_goals simp -implicitDefEqProofs only [List.map_nil]
def bN (k:Nat)   : Nat→Int→Int→Int→Int→Tyt→List Int→List Tyw→List Tys→Int→Int→List Tyw→Option (Int×Int×Int×Int×Tyt×List Int×List Tyw×List Tys×List Tyw×List Tys)
 | 0,_,_,_,_,_,_,_,_,_,_,_=>none
 | n+1,s6,s7,s8,s9,s14,s15,s16,s17,s18,s23,s24=>
 bif decide (s23<s18) then
 bif decide ((0:Int)≤s23∧s23.toNat<s16.length) then
 ob (s24[s23.toNat]?) fun x70=>
 ob (aL 24 x70.2.1) fun x71=>
 bif decide ((0:Int)≤s23∧s23.toNat<s16.length) then
 ob (s24[s23.toNat]?) fun x72=>
 bN k   n (s6) (s7) (s8) (s9) (s14) (s15) (s16) (s17) (s18) (IntKind.i64.wrap (s23+(1:Int))) (s24.set s23.toNat (x72.1,x71,(x72.2.2.1.1,x72.2.2.1.2.1,x72.2.2.1.2.2.1,x72.2.2.1.2.2.2.1,x72.2.2.1.2.2.2.2.1,x72.2.2.1.2.2.2.2.2.1,x72.2.2.1.2.2.2.2.2.2),x72.2.2.2.1,x72.2.2.2.2))
 else
 none
 else
 none
 else
 cK k  (k+61) (s6) (s7) (s8) (s9) (s14) (s15) (s16) (s17) ((↑s17.length:Int)) (s24) ((0:Int)) (s17)
theorem cu (k:Nat)  : ∀ (n:Nat) (s6:Int) (s7:Int) (s8:Int) (s9:Int) (s14:Tyt) (s15:List Int) (s16:List Tyw) (s17:List Tys) (s18:Int) (s23:Int) (s24:List Tyw) ⦃s10:Tyt⦄ ⦃s11:List Int⦄ ⦃s12:List Tyw⦄ ⦃s13:List Tys⦄ ⦃j22:V⦄,itX (xX (xS (k+61)) 41 0 (k+61) false) HE (8) (au (xX (xS (k+61)) 41 0 (k+61) false) (ao (xS (k+61)).P Tryz.f41) GW) n ⟨[.agg [.lit (.int .i64 s6),.lit (.int .i64 s7),.lit (.int .i64 s8),.lit (.int .i64 s9),.ro (List.map an s10),.ro (List.map (aF IntKind.u64) s11),.ro (List.map aG s12),.ro (List.map bn s13)],.ptr 0 0 0 0,.ptr 5 0 0 0,j22,uu,.ptr 0 0 0 4,.ro (List.map an s10),.ro (List.map an s14),.ptr 0 0 0 5,.ro (List.map (aF IntKind.u64) s11),.ro (List.map (aF IntKind.u64) s15),.ptr 0 0 0 4,.ptr 0 0 0 5,.ptr 0 0 0 6,.ro (List.map aG s12),.own 6 0 s16.length,.ptr 0 0 0 7,.ro (List.map bn s13),.own 7 0 s17.length,.ptr 0 0 0 6,.ptr 0 0 0 7,.ptr 0 0 0 6,.own 6 0 s16.length,.lit (.int .i64 s18),.lit (.int .i64 s23),.junk,.junk,.junk,.junk,.junk,.junk,.junk,.junk,.junk,.junk,.junk,.junk,.junk,.junk,.junk,uu,uu,uu,uu,uu,uu,uu,uu,uu,uu,uu,uu,uu,uu,uu,uu,uu,uu,uu,uu],[.box [.lit (.int .i64 s6),.lit (.int .i64 s7),.lit (.int .i64 s8),.lit (.int .i64 s9),.ro (List.map an s14),.ro (List.map (aF IntKind.u64) s15),.own 6 0 s16.length,.own 7 0 s17.length],.rows 0 [] 0 true,.rows 0 [] 0 true,.rows 0 [] 0 true,.rows 0 [] 0 true,.box [.lit (.int .i64 (0:Int)),.lit (.int .i64 (0:Int)),.lit (.int .i64 (0:Int)),.lit (.int .i64 (0:Int)),.own 1 0 0,.own 2 0 0,.own 3 0 0,.own 4 0 0],.rows 11 (List.map aG s24) 0 true,.rows 9 (List.map bn s17) 0 true]⟩=ob (bN k   n s6 s7 s8 s9 s14 s15 s16 s17 s18 s23 s24) fun r=>some ((.agg [.lit (.int .i64 r.1),.lit (.int .i64 r.2.1),.lit (.int .i64 r.2.2.1),.lit (.int .i64 r.2.2.2.1),.ro (List.map an r.2.2.2.2.1),.ro (List.map (aF IntKind.u64) r.2.2.2.2.2.1),.own 6 0 r.2.2.2.2.2.2.1.length,.own 7 0 r.2.2.2.2.2.2.2.1.length],[.box [.lit (.int .i64 r.1),.lit (.int .i64 r.2.1),.lit (.int .i64 r.2.2.1),.lit (.int .i64 r.2.2.2.1),.ro (List.map an r.2.2.2.2.1),.ro (List.map (aF IntKind.u64) r.2.2.2.2.2.1),.own 6 0 r.2.2.2.2.2.2.1.length,.own 7 0 r.2.2.2.2.2.2.2.1.length],.rows 0 [] 0 true,.rows 0 [] 0 true,.rows 0 [] 0 true,.rows 0 [] 0 true,.box [.lit (.int .i64 r.1),.lit (.int .i64 r.2.1),.lit (.int .i64 r.2.2.1),.lit (.int .i64 r.2.2.2.1),.ro (List.map an r.2.2.2.2.1),.ro (List.map (aF IntKind.u64) r.2.2.2.2.2.1),.own 6 0 r.2.2.2.2.2.2.1.length,.own 7 0 r.2.2.2.2.2.2.2.1.length],.rows 11 (List.map aG r.2.2.2.2.2.2.2.2.1) 0 true,.rows 9 (List.map bn r.2.2.2.2.2.2.2.2.2) 0 true])):=by
 intro n
 induction n with
 | zero=>intros;rfl
 | succ n ih=>
  intro s6 s7 s8 s9 s14 s15 s16 s17 s18 s23 s24 s10 s11 s12 s13 j22
  rw [bN]
  simp (maxSteps:=2000000) -implicitDefEqProofs only [RF,Or,Q0,oO,fd,RM,NY,QQ,pd,pi,eZ,eY,aH (g:=41),Rb,PZ,oV,fi,RZ,Nh,RH,Ng,RB,OQ,↓syP,syA,syD,simprocAttr,syE,ah,ag,ae,syW,xQ,Rt,ih,nA k ]
  all_goals simp -implicitDefEqProofs only [List.map_nil]
def bh (k:Nat) (v0:Typ) (v1:Tye)  : Nat→Int→Int→Int→Int→Tyt→List Tyw→List Tys→List Tyw→List Tys→Tye→Int→List Int→Nat→Option (Typ×Tye)
 | 0,_,_,_,_,_,_,_,_,_,_,_,_,_=>none
 | n+1,s86,s87,s88,s89,s90,s92,s93,s96,s97,s116,s118,s119,s120=>
 bif decide (s118<(↑v1.length:Int)) then
 ob (idx v1 s118) fun x149=>
 ob (gI (x149.1,x149.2.1,x149.2.2) v0.1.1 (↑v0.2.2.2.2.length:Int)) fun x150=>
 bif x150 then
 bif x149.1==(0:Int) then
 bif decide ((0:Int)≤x149.2.1∧x149.2.1.toNat<s92.length) then
 ob (s96[x149.2.1.toNat]?) fun x151=>
 ob (gA k (s86,s87,s88,s89) s90 s119 x149.2.1 (x151.1,x151.2.1,(x151.2.2.1.1,x151.2.2.1.2.1,x151.2.2.1.2.2.1,x151.2.2.1.2.2.2.1,x151.2.2.1.2.2.2.2.1,x151.2.2.1.2.2.2.2.2.1,x151.2.2.1.2.2.2.2.2.2),x151.2.2.2.1,x151.2.2.2.2) x149.2.2) fun x152=>
 bif decide ((0:Int)≤x149.2.1∧x149.2.1.toNat<s92.length) then
 ob (s96[x149.2.1.toNat]?) fun x153=>
 ck (s120==3||s120==0) (
 bif room (s116++x152.2.2).length 24 then
 bh k v0 v1  n (s86) (s87) (s88) (s89) (s90) (s92) (s93) (s96.set x149.2.1.toNat (x152.2.1.1,x152.2.1.2.1,(x152.2.1.2.2.1.1,x152.2.1.2.2.1.2.1,x152.2.1.2.2.1.2.2.1,x152.2.1.2.2.1.2.2.2.1,x152.2.1.2.2.1.2.2.2.2.1,x152.2.1.2.2.1.2.2.2.2.2.1,x152.2.1.2.2.1.2.2.2.2.2.2),x152.2.1.2.2.2.1,x152.2.1.2.2.2.2)) (s97) (s116++x152.2.2) (IntKind.i64.wrap (s118+(1:Int))) (x152.1) (3)
 else
 none)
 else
 none
 else
 none
 else
 bif x149.1==(1:Int) then
 bif decide ((0:Int)≤x149.2.1∧x149.2.1.toNat<s93.length) then
 ob (s97[x149.2.1.toNat]?) fun x154=>
 ob (eU (k+36) (s86,s87,s88,s89) s90 s119 (x154.1,x154.2.1,x154.2.2.1,x154.2.2.2.1,x154.2.2.2.2.1,x154.2.2.2.2.2.1,x154.2.2.2.2.2.2.1,x154.2.2.2.2.2.2.2.1,x154.2.2.2.2.2.2.2.2)) fun x155=>
 bif x155 then
 bif decide ((0:Int)≤x149.2.1∧x149.2.1.toNat<s93.length) then
 ob (s97[x149.2.1.toNat]?) fun x156=>
 ob (fb (k+20) (s86,s87,s88,s89) s90 s119 x149.2.1 (x156.1,x156.2.1,x156.2.2.1,x156.2.2.2.1,x156.2.2.2.2.1,x156.2.2.2.2.2.1,x156.2.2.2.2.2.2.1,x156.2.2.2.2.2.2.2.1,x156.2.2.2.2.2.2.2.2)) fun x157=>
 bif decide ((0:Int)≤x149.2.1∧x149.2.1.toNat<s93.length) then
 ob (s97[x149.2.1.toNat]?) fun x158=>
 ck (s120==3||s120==0) (
 bif room (s116++x157.2.2).length 24 then
 bh k v0 v1  n (s86) (s87) (s88) (s89) (s90) (s92) (s93) (s96) (s97.set x149.2.1.toNat (x157.2.1.1,x157.2.1.2.1,x157.2.1.2.2.1,x157.2.1.2.2.2.1,x157.2.1.2.2.2.2.1,x157.2.1.2.2.2.2.2.1,x157.2.1.2.2.2.2.2.2.1,x157.2.1.2.2.2.2.2.2.2.1,x157.2.1.2.2.2.2.2.2.2.2)) (s116++x157.2.2) (IntKind.i64.wrap (s118+(1:Int))) (x157.1) (3)
 else
 none)
 else
 none
 else
 none
 else
 ck (s120==3||s120==0) (
 bif room s116.length 24 then
 bh k v0 v1  n (s86) (s87) (s88) (s89) (s90) (s92) (s93) (s96) (s97) (s116) (IntKind.i64.wrap (s118+(1:Int))) (s119) (3)
 else
 none)
 else
 none
 else
 bif x149.1==(2:Int) then
 ob (bo s119 (3:Int) (1:Int)) fun x159=>
 ck (s120==3||s120==0) (
 bif room s116.length 24 then
 bh k v0 v1  n (s86) (s87) (s88) (s89) (s90) (s92) (s93) (s96) (s97) (s116) (IntKind.i64.wrap (s118+(1:Int))) (x159) (3)
 else
 none)
 else
 ck (s120==3||s120==0) (
 bif room s116.length 24 then
 bh k v0 v1  n (s86) (s87) (s88) (s89) (s90) (s92) (s93) (s96) (s97) (s116) (IntKind.i64.wrap (s118+(1:Int))) (s119) (3)
 else
 none)
 else
 bh k v0 v1  n (s86) (s87) (s88) (s89) (s90) (s92) (s93) (s96) (s97) (s116) (IntKind.i64.wrap (s118+(1:Int))) (s119) (s120)
 else
 ck (decide (s92.length≤s96.length)) (
 ck (decide (s93.length≤s97.length)) (
 some ((((s86),(s87),(s88),(s89)),(s90),(s119),(List.take s92.length s96),(List.take s93.length s97)),(s116))))
theorem mo (k:Nat) (v0_0_0 v0_0_1 v0_0_2 v0_0_3:Int) (v0_1:Tyt) (v0_2:List Int) (v0_3:List Tyw) (v0_4:List Tys) (v1:Tye):∀ (n:Nat) (s86:Int) (s87:Int) (s88:Int) (s89:Int) (s90:Tyt) (s92:List Tyw) (s93:List Tys) (s96:List Tyw) (s97:List Tys) (s116:Tye) (s118:Int) (s119:List Int) (s120:Nat) ⦃s91:List Int⦄ ⦃s94:Bool⦄ ⦃s95:Bool⦄ ⦃s115:Nat⦄ ⦃j117:V⦄,rt none (itX (xX (xS (k+62)) 17 0 (k+62) false) uM (15) (au (xX (xS (k+62)) 17 0 (k+62) false) (ao (xS (k+62)).P Tryz.f17) Aa) n ⟨[.agg [.lit (.int .i64 v0_0_0),.lit (.int .i64 v0_0_1),.lit (.int .i64 v0_0_2),.lit (.int .i64 v0_0_3),.ro (List.map an v0_1),.ro (List.map (aF IntKind.u64) v0_2),.ro (List.map aG v0_3),.ro (List.map bn v0_4)],.ro (List.map fX v1),.ptr 0 0 0 0,uu,.ptr 5 0 0 0,.own 6 0 0,.ptr 13 0 0 0,.own 14 s115 s116.length,uu,j117,.agg [.lit (.int .i64 v0_0_0),.lit (.int .i64 v0_0_1),.lit (.int .i64 v0_0_2),.lit (.int .i64 v0_0_3),.ro (List.map an v0_1),.ro (List.map (aF IntKind.u64) v0_2),.ro (List.map aG v0_3),.ro (List.map bn v0_4)],.agg [.lit (.int .i64 s86),.lit (.int .i64 s87),.lit (.int .i64 s88),.lit (.int .i64 s89),.ro (List.map an s90),.ro (List.map (aF IntKind.u64) s91),.own 7 0 s92.length,.own 8 0 s93.length],.agg [.lit (.int .i64 v0_0_0),.lit (.int .i64 v0_0_1),.lit (.int .i64 v0_0_2),.lit (.int .i64 v0_0_3),.ro (List.map an v0_1),.ro (List.map (aF IntKind.u64) v0_2),.ro (List.map aG v0_3),.ro (List.map bn v0_4)],.lit (.bool s94),.lit (.bool s95),uu,.ro (List.map fX v1),.lit (.int .i64 (↑v1.length:Int)),.lit (.int .i64 s118),.junk,.junk,.junk,.junk,.junk,.junk,.junk,.junk,.junk,.junk,.junk,.junk,.junk,.junk,.junk,.junk,uu,uu],[.box [.lit (.int .i64 v0_0_0),.lit (.int .i64 v0_0_1),.lit (.int .i64 v0_0_2),.lit (.int .i64 v0_0_3),.ro (List.map an v0_1),.ro (List.map (aF IntKind.u64) v0_2),.ro (List.map aG v0_3),.ro (List.map bn v0_4)],.rows 0 [] 0 true,.rows 0 [] 0 true,.rows 0 [] 0 true,.rows 0 [] 0 true,.box [.lit (.int .i64 (0:Int)),.lit (.int .i64 (0:Int)),.lit (.int .i64 (0:Int)),.lit (.int .i64 (0:Int)),.own 1 0 0,.own 2 0 0,.own 3 0 0,.own 4 0 0],.rows 0 [] 0 true,.rows 11 (List.map aG s96) 0 true,.rows 9 (List.map bn s97) 0 true,.rows 0 [] 0 true,.rows 0 [] 0 true,.rows 0 [] 0 true,.rows 0 [] 0 true,.box [.lit (.int .i64 s86),.lit (.int .i64 s87),.lit (.int .i64 s88),.lit (.int .i64 s89),.ro (List.map an s90),.ro (List.map (aF IntKind.u64) s119),.own 7 0 s92.length,.own 8 0 s93.length],.rows s120 (List.map aD s116) s115 true]⟩)=ob (bh k ((v0_0_0,v0_0_1,v0_0_2,v0_0_3),v0_1,v0_2,v0_3,v0_4) v1  n s86 s87 s88 s89 s90 s92 s93 s96 s97 s116 s118 s119 s120) fun r=>some ((.tup [.agg [.lit (.int .i64 r.1.1.1),.lit (.int .i64 r.1.1.2.1),.lit (.int .i64 r.1.1.2.2.1),.lit (.int .i64 r.1.1.2.2.2),.ro (List.map an r.1.2.1),.ro (List.map (aF .u64) r.1.2.2.1),.ro (List.map aG r.1.2.2.2.1),.ro (List.map bn r.1.2.2.2.2)],.ro (List.map aD r.2)]),[]):=by
 intro n
 induction n with
 | zero=>intros;rfl
 | succ n ih=>
  intro s86 s87 s88 s89 s90 s92 s93 s96 s97 s116 s118 s119 s120 s91 s94 s95 s115 j117
  rw [bh]
  simp (maxSteps:=2000000) -implicitDefEqProofs only [RF,Or,Q0,oO,fd,RM,NY,QQ,pd,pi,eZ,eY,aH (g:=41),Rb,PZ,oV,fi,RZ,Nh,RH,Ng,RB,OQ,↓syP,syA,syD,simprocAttr,syE,ah,ag,ae,syW,xQ,dS,mv,ow,uE,cU,dI,u4,cu,Hq,ih]
  all_goals simp -implicitDefEqProofs only [List.map_nil]
def gB (k:Nat) (v0:Typ) (v1:Tye):Option (Typ×Tye):=
 ob (dn (k+59) v0.2.1) fun x160=>
 ob (aL 8 v0.2.2.1) fun x161=>
 ob (aL 104 v0.2.2.2.1) fun x162=>
 ob (aL 88 v0.2.2.2.2) fun x163=>
 ob (bN k (k+61) v0.1.1 v0.1.2.1 v0.1.2.2.1 v0.1.2.2.2 x160 x161 x162 x163 (↑x162.length:Int) 0 x162) fun x164=>
 ck (decide (x164.2.2.2.2.2.2.1.length≤x164.2.2.2.2.2.2.2.2.1.length)) (
 ck (decide (x164.2.2.2.2.2.2.2.1.length≤x164.2.2.2.2.2.2.2.2.2.length)) (
 ob (eq (k+27) v0) fun x165=>
 bif !x165 then
 ck (decide (x164.2.2.2.2.2.2.1.length≤(List.take x164.2.2.2.2.2.2.1.length x164.2.2.2.2.2.2.2.2.1).length)) (
 ck (decide (x164.2.2.2.2.2.2.2.1.length≤(List.take x164.2.2.2.2.2.2.2.1.length x164.2.2.2.2.2.2.2.2.2).length)) (
 some (((x164.1,x164.2.1,x164.2.2.1,x164.2.2.2.1),x164.2.2.2.2.1,x164.2.2.2.2.2.1,(List.take x164.2.2.2.2.2.2.1.length (List.take x164.2.2.2.2.2.2.1.length x164.2.2.2.2.2.2.2.2.1)),(List.take x164.2.2.2.2.2.2.2.1.length (List.take x164.2.2.2.2.2.2.2.1.length x164.2.2.2.2.2.2.2.2.2))),[])))
 else
 bh k v0 v1 (k+62) x164.1 x164.2.1 x164.2.2.1 x164.2.2.2.1 x164.2.2.2.2.1 x164.2.2.2.2.2.2.1 x164.2.2.2.2.2.2.2.1 (List.take x164.2.2.2.2.2.2.1.length x164.2.2.2.2.2.2.2.2.1) (List.take x164.2.2.2.2.2.2.2.1.length x164.2.2.2.2.2.2.2.2.2) ([]) 0 x164.2.2.2.2.2.1 0))
theorem I3 (k:Nat) (v0_0_0 v0_0_1 v0_0_2 v0_0_3:Int) (v0_1:Tyt) (v0_2:List Int) (v0_3:List Tyw) (v0_4:List Tys) (v1:Tye):xC (k+63) none 17 [.agg [.lit (.int .i64 v0_0_0),.lit (.int .i64 v0_0_1),.lit (.int .i64 v0_0_2),.lit (.int .i64 v0_0_3),.ro (List.map an v0_1),.ro (List.map (aF .u64) v0_2),.ro (List.map aG v0_3),.ro (List.map bn v0_4)],.ro (List.map fX v1)]=ob (gB k ((v0_0_0,v0_0_1,v0_0_2,v0_0_3),v0_1,v0_2,v0_3,v0_4) v1) fun r=>some ((.tup [.agg [.lit (.int .i64 r.1.1.1),.lit (.int .i64 r.1.1.2.1),.lit (.int .i64 r.1.1.2.2.1),.lit (.int .i64 r.1.1.2.2.2),.ro (List.map an r.1.2.1),.ro (List.map (aF .u64) r.1.2.2.1),.ro (List.map aG r.1.2.2.2.1),.ro (List.map bn r.1.2.2.2.2)],.ro (List.map aD r.2)]),[]):=by
 rw [aH]
 unfold gB
 have hl0:=fun (x170:Int×Int×Int×Int×Tyt×List Int×List Tyw×List Tys×List Tyw×List Tys)=>mo k v0_0_0 v0_0_1 v0_0_2 v0_0_3 v0_1 v0_2 v0_3 v0_4 v1 (k+62) (x170.fst) (x170.snd.fst) (x170.snd.snd.fst) (x170.snd.snd.snd.fst) (x170.snd.snd.snd.snd.fst) (x170.snd.snd.snd.snd.snd.snd.fst) (x170.snd.snd.snd.snd.snd.snd.snd.fst) (List.take x170.snd.snd.snd.snd.snd.snd.fst.length x170.snd.snd.snd.snd.snd.snd.snd.snd.fst) (List.take x170.snd.snd.snd.snd.snd.snd.snd.fst.length x170.snd.snd.snd.snd.snd.snd.snd.snd.snd) ([]) ((0:Int)) (x170.snd.snd.snd.snd.snd.fst) (0)
 try simp -implicitDefEqProofs only [List.map_nil,List.length_nil] at hl0
 simp (maxSteps:=2000000) -implicitDefEqProofs only [RF,Or,Q0,oO,fd,RM,NY,QQ,pd,pi,eZ,eY,aH (g:=41),Rb,PZ,oV,fi,RZ,Nh,RH,Ng,RB,OQ,↓syP,syA,syD,simprocAttr,syE,ah,ag,ae,syW,xQ,cU,dI,cu,mo k v0_0_0 v0_0_1 v0_0_2 v0_0_3 v0_1 v0_2 v0_3 v0_4 v1,hl0]
 all_goals simp -implicitDefEqProofs only [List.map_nil]
end Go.Ab
set_option maxRecDepth 100000
set_option linter.unusedVariables false
set_option linter.unusedSimpArgs false
namespace Go.Ab
open Go.Proofs
def bD (k:Nat)   : Nat→Tyt→Int→Nat→List Int→Int→Nat→Option (Nat×List Int×Nat)
 | 0,_,_,_,_,_,_=>none
 | n+1,s7,s10,s12,s13,s15,s17=>
 bif decide (s15<s10) then
 ob (eT k s7 s15) fun x24=>
 bif x24==(-1:Int) then
 ck (s17==1||s17==0) (
 bif room (s13++[s15]).length 8 then
 bD k   n (s7) (s10) (s12+1) (s13++[s15]) (IntKind.i64.wrap (s15+(1:Int))) (1)
 else
 none)
 else
 bD k   n (s7) (s10) (s12) (s13) (IntKind.i64.wrap (s15+(1:Int))) (s17)
 else
 some (s12,s13,s17)
theorem dd (k:Nat)  : ∀ (n:Nat) (s7:Tyt) (s10:Int) (s12:Nat) (s13:List Int) (s15:Int) (s17:Nat) ⦃s8:Bool⦄ ⦃s9:Bool⦄ ⦃j14:V⦄,itX (xX (xS (k+20)) 57 0 (k+20) false) xD (2) (au (xX (xS (k+20)) 57 0 (k+20) false) (ao (xS (k+20)).P Tryz.f57) Dq) n ⟨[.ro (List.map an s7),uu,.own 0 0 0,.own 1 s12 s13.length,j14,.ro (List.map an s7),.lit (.bool s8),.lit (.bool s9),.ro (List.map an s7),.lit (.int .i64 s10),.lit (.int .i64 s15),.junk,.junk,.junk,.junk,.junk,.junk,.junk,.junk,.junk,.junk,.junk,uu],[.rows 0 [] 0 true,.rows s17 (List.map (aF IntKind.i64) s13) s12 true]⟩=ob (bD k   n s7 s10 s12 s13 s15 s17) fun r=>some ((.own 1 r.1 r.2.1.length,[.rows 0 [] 0 true,.rows r.2.2 (List.map (aF IntKind.i64) r.2.1) r.1 true])):=by
 intro n
 induction n with
 | zero=>intros;rfl
 | succ n ih=>
  intro s7 s10 s12 s13 s15 s17 s8 s9 j14
  rw [bD]
  simp (maxSteps:=2000000) -implicitDefEqProofs only [aba,Xv,Xu,xH,Ao,AB,Ag,Ai,iV,iS,iT,iZ,YP,Xs,Xr,AE,i6,aH (g:=57),↓syP,syA,syD,simprocAttr,syE,ah,ag,ae,syW,xQ,uk,SC,ih]
  all_goals simp -implicitDefEqProofs only [List.map_nil]
theorem fE (k:Nat) (v1:Tyt):∀ ⦃s8 s9:Bool⦄ ⦃j14:V⦄,itX (xX (xS (k+20)) 57 0 (k+20) false) xD 2 (au (xX (xS (k+20)) 57 0 (k+20) false) (ao (xS (k+20)).P Tryz.f57) Dq) (k+20) (St.mk [.ro (List.map an v1),uu,.own 0 0 0,.own 1 0 0,j14,.ro (List.map an v1),.lit (.bool s8),.lit (.bool s9),.ro (List.map an v1),.lit (.int .i64 (↑v1.length:Int)),.lit (.int .i64 (0:Int)),.junk,.junk,.junk,.junk,.junk,.junk,.junk,.junk,.junk,.junk,.junk,uu] [.rows 0 [] 0 true,.rows 0 [] 0 true])=ob (bD k (k+20) v1 (↑v1.length:Int) 0 [] (0:Int) 0) fun r ↦ some (.own 1 r.fst r.snd.fst.length,[.rows 0 [] 0 true,.rows r.snd.snd (List.map (aF IntKind.i64) r.snd.fst) r.fst true]):=by
 have h:=dd k  (k+20) (v1) ((↑v1.length:Int)) (0) ([]) ((0:Int)) (0)
 simp -implicitDefEqProofs only [List.map_nil,List.length_nil] at h
 exact h
def cQ (k:Nat) (v0:(Int×Int×Int×Int)) (v1:Tyt) (v2:(List (List Int))) (o0:Tyt→List Int→Nat→List Tyw→Int→List Tys→Nat→Nat→List Int→Option (Typ×Bool)):Nat→List Int→Tyt→List Int→Int→Nat→List Tyw→Nat→Int→List Int→Int→List Tys→Nat→Option (Typ×Bool)
 | 0,_,_,_,_,_,_,_,_,_,_,_,_=>none
 | n+1,s81,s86,s87,s88,s89,s105,s107,s110,s111,s130,s133,s134=>
 bif decide (s110<s88) then
 ob (idx s81 s110) fun x159=>
 ck (decide (s107≤s111.length)) (
 ob (dl (k+20) (List.take s107 s111) x159) fun x160=>
 bif decide (x160<(0:Int)) then
 some (((((0:Int)),((0:Int)),((0:Int)),((0:Int))),[],[],[],[]),(false))
 else
 ck (s89==1) (
 ck (decide (s107≤s111.length∧(0:Int)≤x160∧x160<IntKind.i64.wrap (x160+(1:Int))∧(IntKind.i64.wrap (x160+(1:Int))).toNat≤s107∧s107≤9223372036854775807)) (
 cQ k v0 v1 v2 o0 n (s81) (s86) (s87) (s88) (1) (s105) (s107 - ((IntKind.i64.wrap (x160+(1:Int))).toNat - x160.toNat)) (IntKind.i64.wrap (s110+(1:Int))) (EB (List.take s107 s111) x160.toNat (IntKind.i64.wrap (x160+(1:Int))).toNat++List.drop s107 s111) (s130) (s133) (s134))))
 else
 ob (gV s81) fun x161=>
 ck (s134==9||s134==0) (
 bif room (s133++[(x161.1,x161.2.1,x161.2.2.1,x161.2.2.2.1,x161.2.2.2.2.1,x161.2.2.2.2.2.1,x161.2.2.2.2.2.2.1,x161.2.2.2.2.2.2.2.1,x161.2.2.2.2.2.2.2.2)]).length 88 then
 o0 (s86) (s87) (s89) (s105) (IntKind.i64.wrap (s130+(1:Int))) (s133++[(x161.1,x161.2.1,x161.2.2.1,x161.2.2.2.1,x161.2.2.2.2.1,x161.2.2.2.2.2.1,x161.2.2.2.2.2.2.1,x161.2.2.2.2.2.2.2.1,x161.2.2.2.2.2.2.2.2)]) (9) (s107) (s111)
 else
 none)
theorem rX (k:Nat) (v0_0 v0_1 v0_2 v0_3:Int) (v1:Tyt) (v2:List (List Int)) (n56:Nat) (o0:Tyt→List Int→Nat→List Tyw→Int→List Tys→Nat→Nat→List Int→Option (Typ×Bool)) (ho0:∀ (s62:Tyt) (s63:List Int) (s64:Nat) (s77:List Tyw) (s113:Int) (s115:List Tys) (s116:Nat) (s135:Nat) (s138:List Int) ⦃s57:List Int⦄ ⦃s58:Bool⦄ ⦃s59:Bool⦄ ⦃s60:Bool⦄ ⦃s61:Bool⦄ ⦃s76:Nat⦄ ⦃s78:Nat⦄ ⦃s114:Nat⦄ ⦃j75 j112 j136 j137:V⦄,rt none (itX (xX (xS (k+21)) 23 0 (k+21) false) rJ (14) (au (xX (xS (k+21)) 23 0 (k+21) false) (ao (xS (k+21)).P Tryz.f23) xT) n56 ⟨(.agg [.lit (.int .i64 v0_0),.lit (.int .i64 v0_1),.lit (.int .i64 v0_2),.lit (.int .i64 v0_3)]::.ro (List.map an v1)::.ro (List.map cA v2)::.ptr 0 0 0 0::uu::uu::.ptr 5 0 0 0::.lit (.bool false)::.own 6 0 s135::.ptr 11 0 0 0::j75::uu::j112::uu::j136::j137::.agg [.lit (.int .i64 v0_0),.lit (.int .i64 v0_1),.lit (.int .i64 v0_2),.lit (.int .i64 v0_3)]::.lit (.bool s58)::.lit (.bool s59)::.lit (.bool false)::.ro (List.map an v1)::.lit (.bool s60)::.lit (.bool s61)::.lit (.bool s61)::.lit (.bool false)::.ro (List.map cA v2)::.lit (.int .i64 (↑v2.length:Int))::.lit (.bool (decide ((3:Int)<(↑v2.length:Int))))::.lit (.bool (decide ((3:Int)<(↑v2.length:Int))))::uu::.ro (List.map an v1)::.own 6 0 s57.length::.agg [.lit (.int .i64 v0_0),.lit (.int .i64 v0_1),.lit (.int .i64 v0_2),.lit (.int .i64 v0_3)]::.ro (List.map an v1)::.ro (List.map an s62)::.agg [.lit (.int .i64 v0_0),.lit (.int .i64 v0_1),.lit (.int .i64 v0_2),.lit (.int .i64 v0_3)]::.ro (List.map (aF IntKind.u64) s63)::.agg [.lit (.int .i64 v0_0),.lit (.int .i64 v0_1),.lit (.int .i64 v0_2),.lit (.int .i64 v0_3),.ro (List.map an s62),.ro (List.map (aF IntKind.u64) s63),.nil,.nil]::.ptr 0 0 0 0::.lit (.int .i64 v0_0)::.junk::.junk::.junk::.junk::.junk::.junk::.junk::.junk::.junk::.junk::.junk::.ro (List.map cA v2)::.lit (.int .i64 (↑v2.length:Int))::.lit (.int .i64 s113)::.junk::.junk::.junk::.junk::.junk::.junk::.junk::.junk::.junk::.junk::.junk::.junk::.junk::.junk::.junk::.junk::.junk::.junk::.junk::.junk::.junk::.junk::.junk::.junk::.junk::.junk::.junk::.junk::.junk::uu::[]),[.box [.lit (.int .i64 v0_0),.lit (.int .i64 v0_1),.lit (.int .i64 v0_2),.lit (.int .i64 v0_3)],.rows 0 [] 0 true,.rows 0 [] 0 true,.rows 0 [] 0 true,.rows 0 [] 0 true,.box [.lit (.int .i64 (0:Int)),.lit (.int .i64 (0:Int)),.lit (.int .i64 (0:Int)),.lit (.int .i64 (0:Int)),.own 1 0 0,.own 2 0 0,.own 3 0 0,.own 4 0 0],.rows s64 (List.map (aF IntKind.i64) s138) 0 true,.rows 0 [] 0 true,.rows 0 [] 0 true,.rows 0 [] 0 true,.rows 0 [] 0 true,.box [.lit (.int .i64 v0_0),.lit (.int .i64 v0_1),.lit (.int .i64 v0_2),.lit (.int .i64 v0_3),.ro (List.map an s62),.ro (List.map (aF IntKind.u64) s63),.own 12 s76 s77.length,.own 13 s114 s115.length],.rows s78 (List.map aG s77) s76 true,.rows s116 (List.map bn s115) s114 true]⟩)=ob (o0 s62 s63 s64 s77 s113 s115 s116 s135 s138) fun r=>some ((.tup [.agg [.lit (.int .i64 r.1.1.1),.lit (.int .i64 r.1.1.2.1),.lit (.int .i64 r.1.1.2.2.1),.lit (.int .i64 r.1.1.2.2.2),.ro (List.map an r.1.2.1),.ro (List.map (aF .u64) r.1.2.2.1),.ro (List.map aG r.1.2.2.2.1),.ro (List.map bn r.1.2.2.2.2)],.lit (.bool r.2)]),[])):∀ (n:Nat) (s81:List Int) (s86:Tyt) (s87:List Int) (s88:Int) (s89:Nat) (s105:List Tyw) (s107:Nat) (s110:Int) (s111:List Int) (s130:Int) (s133:List Tys) (s134:Nat) ⦃s80:List Int⦄ ⦃s82:Bool⦄ ⦃s83:Bool⦄ ⦃s84:Bool⦄ ⦃s85:Bool⦄ ⦃s104:Nat⦄ ⦃s106:Nat⦄ ⦃s131:Bool⦄ ⦃s132:Nat⦄ ⦃j103 j108 j109:V⦄,rt none (itX (xX (xS (k+21)) 23 0 (k+21) false) GT (14) (au (xX (xS (k+21)) 23 0 (k+21) false) (eO (xX (xS (k+21)) 23 0 (k+21) false) rJ 14 (au (xX (xS (k+21)) 23 0 (k+21) false) (ao (xS (k+21)).P Tryz.f23) xT) n56) GP) n ⟨(.agg [.lit (.int .i64 v0_0),.lit (.int .i64 v0_1),.lit (.int .i64 v0_2),.lit (.int .i64 v0_3)]::.ro (List.map an v1)::.ro (List.map cA v2)::.ptr 0 0 0 0::uu::uu::.ptr 5 0 0 0::.lit (.bool false)::.own 6 0 s107::.ptr 11 0 0 0::j103::uu::.ro (List.map (aF IntKind.i64) s81)::uu::j108::j109::.agg [.lit (.int .i64 v0_0),.lit (.int .i64 v0_1),.lit (.int .i64 v0_2),.lit (.int .i64 v0_3)]::.lit (.bool s82)::.lit (.bool s83)::.lit (.bool false)::.ro (List.map an v1)::.lit (.bool s84)::.lit (.bool s85)::.lit (.bool s85)::.lit (.bool false)::.ro (List.map cA v2)::.lit (.int .i64 (↑v2.length:Int))::.lit (.bool (decide ((3:Int)<(↑v2.length:Int))))::.lit (.bool (decide ((3:Int)<(↑v2.length:Int))))::uu::.ro (List.map an v1)::.own 6 0 s80.length::.agg [.lit (.int .i64 v0_0),.lit (.int .i64 v0_1),.lit (.int .i64 v0_2),.lit (.int .i64 v0_3)]::.ro (List.map an v1)::.ro (List.map an s86)::.agg [.lit (.int .i64 v0_0),.lit (.int .i64 v0_1),.lit (.int .i64 v0_2),.lit (.int .i64 v0_3)]::.ro (List.map (aF IntKind.u64) s87)::.agg [.lit (.int .i64 v0_0),.lit (.int .i64 v0_1),.lit (.int .i64 v0_2),.lit (.int .i64 v0_3),.ro (List.map an s86),.ro (List.map (aF IntKind.u64) s87),.nil,.nil]::.ptr 0 0 0 0::.lit (.int .i64 v0_0)::.junk::.junk::.junk::.junk::.junk::.junk::.junk::.junk::.junk::.junk::.junk::.ro (List.map cA v2)::.lit (.int .i64 (↑v2.length:Int))::.lit (.int .i64 s130)::.lit (.bool s131)::.rp [.ro (List.map (aF IntKind.i64) s81)]::.ro (List.map (aF IntKind.i64) s81)::.ro (List.map (aF IntKind.i64) s81)::.lit (.int .i64 s88)::.lit (.int .i64 s110)::.junk::.junk::.junk::.junk::.junk::.junk::.junk::.junk::.junk::.junk::.junk::.junk::.junk::.junk::.junk::.junk::.junk::.junk::.junk::.junk::.junk::.junk::.junk::uu::[]),[.box [.lit (.int .i64 v0_0),.lit (.int .i64 v0_1),.lit (.int .i64 v0_2),.lit (.int .i64 v0_3)],.rows 0 [] 0 true,.rows 0 [] 0 true,.rows 0 [] 0 true,.rows 0 [] 0 true,.box [.lit (.int .i64 (0:Int)),.lit (.int .i64 (0:Int)),.lit (.int .i64 (0:Int)),.lit (.int .i64 (0:Int)),.own 1 0 0,.own 2 0 0,.own 3 0 0,.own 4 0 0],.rows s89 (List.map (aF IntKind.i64) s111) 0 true,.rows 0 [] 0 true,.rows 0 [] 0 true,.rows 0 [] 0 true,.rows 0 [] 0 true,.box [.lit (.int .i64 v0_0),.lit (.int .i64 v0_1),.lit (.int .i64 v0_2),.lit (.int .i64 v0_3),.ro (List.map an s86),.ro (List.map (aF IntKind.u64) s87),.own 12 s104 s105.length,.own 13 s132 s133.length],.rows s106 (List.map aG s105) s104 true,.rows s134 (List.map bn s133) s132 true]⟩)=ob (cQ k (v0_0,v0_1,v0_2,v0_3) v1 v2 o0 n s81 s86 s87 s88 s89 s105 s107 s110 s111 s130 s133 s134) fun r=>some ((.tup [.agg [.lit (.int .i64 r.1.1.1),.lit (.int .i64 r.1.1.2.1),.lit (.int .i64 r.1.1.2.2.1),.lit (.int .i64 r.1.1.2.2.2),.ro (List.map an r.1.2.1),.ro (List.map (aF .u64) r.1.2.2.1),.ro (List.map aG r.1.2.2.2.1),.ro (List.map bn r.1.2.2.2.2)],.lit (.bool r.2)]),[]):=by
 intro n
 induction n with
 | zero=>intros;rfl
 | succ n ih=>
  intro s81 s86 s87 s88 s89 s105 s107 s110 s111 s130 s133 s134 s80 s82 s83 s84 s85 s104 s106 s131 s132 j103 j108 j109
  rw [cQ]
  simp (maxSteps:=2000000) -implicitDefEqProofs only [aba,Xv,Xu,xH,Ao,AB,Ag,Ai,iV,iS,iT,iZ,YP,Xs,Xr,AE,i6,aH (g:=57),↓syP,syA,syD,simprocAttr,syE,ah,ag,ae,syW,xQ,cS,ct,om,ga,pU,mG,cU,dd,fE,R9,ih,ho0]
  all_goals simp -implicitDefEqProofs only [List.map_nil]
def b8 (k:Nat) (v0:(Int×Int×Int×Int)) (v1:Tyt) (v2:(List (List Int)))  : Nat→Tyt→List Int→Nat→List Tyw→Int→List Tys→Nat→Nat→List Int→Option (Typ×Bool)
 | 0,_,_,_,_,_,_,_,_,_=>none
 | n+1,s62,s63,s64,s77,s113,s115,s116,s135,s138=>
 bif decide (s113<(↑v2.length:Int)) then
 ob (idx v2 s113) fun x155=>
 cQ k v0 v1 v2 (fun s62 s63 s64 s77 s113 s115 s116 s135 s138=>b8 k v0 v1 v2  n s62 s63 s64 s77 s113 s115 s116 s135 s138) (k+21) (x155) (s62) (s63) ((↑x155.length:Int)) (s64) (s77) (s135) ((0:Int)) (s138) (s113) (s115) (s116)
 else
 some ((((v0.1),(v0.2.1),(v0.2.2.1),(v0.2.2.2)),(s62),(s63),(s77),(s115)),(true))
theorem mm (k:Nat) (v0_0 v0_1 v0_2 v0_3:Int) (v1:Tyt) (v2:List (List Int)):∀ (n:Nat) (s62:Tyt) (s63:List Int) (s64:Nat) (s77:List Tyw) (s113:Int) (s115:List Tys) (s116:Nat) (s135:Nat) (s138:List Int) ⦃s57:List Int⦄ ⦃s58:Bool⦄ ⦃s59:Bool⦄ ⦃s60:Bool⦄ ⦃s61:Bool⦄ ⦃s76:Nat⦄ ⦃s78:Nat⦄ ⦃s114:Nat⦄ ⦃j75 j112 j136 j137:V⦄,rt none (itX (xX (xS (k+21)) 23 0 (k+21) false) rJ (14) (au (xX (xS (k+21)) 23 0 (k+21) false) (ao (xS (k+21)).P Tryz.f23) xT) n ⟨(.agg [.lit (.int .i64 v0_0),.lit (.int .i64 v0_1),.lit (.int .i64 v0_2),.lit (.int .i64 v0_3)]::.ro (List.map an v1)::.ro (List.map cA v2)::.ptr 0 0 0 0::uu::uu::.ptr 5 0 0 0::.lit (.bool false)::.own 6 0 s135::.ptr 11 0 0 0::j75::uu::j112::uu::j136::j137::.agg [.lit (.int .i64 v0_0),.lit (.int .i64 v0_1),.lit (.int .i64 v0_2),.lit (.int .i64 v0_3)]::.lit (.bool s58)::.lit (.bool s59)::.lit (.bool false)::.ro (List.map an v1)::.lit (.bool s60)::.lit (.bool s61)::.lit (.bool s61)::.lit (.bool false)::.ro (List.map cA v2)::.lit (.int .i64 (↑v2.length:Int))::.lit (.bool (decide ((3:Int)<(↑v2.length:Int))))::.lit (.bool (decide ((3:Int)<(↑v2.length:Int))))::uu::.ro (List.map an v1)::.own 6 0 s57.length::.agg [.lit (.int .i64 v0_0),.lit (.int .i64 v0_1),.lit (.int .i64 v0_2),.lit (.int .i64 v0_3)]::.ro (List.map an v1)::.ro (List.map an s62)::.agg [.lit (.int .i64 v0_0),.lit (.int .i64 v0_1),.lit (.int .i64 v0_2),.lit (.int .i64 v0_3)]::.ro (List.map (aF IntKind.u64) s63)::.agg [.lit (.int .i64 v0_0),.lit (.int .i64 v0_1),.lit (.int .i64 v0_2),.lit (.int .i64 v0_3),.ro (List.map an s62),.ro (List.map (aF IntKind.u64) s63),.nil,.nil]::.ptr 0 0 0 0::.lit (.int .i64 v0_0)::.junk::.junk::.junk::.junk::.junk::.junk::.junk::.junk::.junk::.junk::.junk::.ro (List.map cA v2)::.lit (.int .i64 (↑v2.length:Int))::.lit (.int .i64 s113)::.junk::.junk::.junk::.junk::.junk::.junk::.junk::.junk::.junk::.junk::.junk::.junk::.junk::.junk::.junk::.junk::.junk::.junk::.junk::.junk::.junk::.junk::.junk::.junk::.junk::.junk::.junk::.junk::.junk::uu::[]),[.box [.lit (.int .i64 v0_0),.lit (.int .i64 v0_1),.lit (.int .i64 v0_2),.lit (.int .i64 v0_3)],.rows 0 [] 0 true,.rows 0 [] 0 true,.rows 0 [] 0 true,.rows 0 [] 0 true,.box [.lit (.int .i64 (0:Int)),.lit (.int .i64 (0:Int)),.lit (.int .i64 (0:Int)),.lit (.int .i64 (0:Int)),.own 1 0 0,.own 2 0 0,.own 3 0 0,.own 4 0 0],.rows s64 (List.map (aF IntKind.i64) s138) 0 true,.rows 0 [] 0 true,.rows 0 [] 0 true,.rows 0 [] 0 true,.rows 0 [] 0 true,.box [.lit (.int .i64 v0_0),.lit (.int .i64 v0_1),.lit (.int .i64 v0_2),.lit (.int .i64 v0_3),.ro (List.map an s62),.ro (List.map (aF IntKind.u64) s63),.own 12 s76 s77.length,.own 13 s114 s115.length],.rows s78 (List.map aG s77) s76 true,.rows s116 (List.map bn s115) s114 true]⟩)=ob (b8 k (v0_0,v0_1,v0_2,v0_3) v1 v2  n s62 s63 s64 s77 s113 s115 s116 s135 s138) fun r=>some ((.tup [.agg [.lit (.int .i64 r.1.1.1),.lit (.int .i64 r.1.1.2.1),.lit (.int .i64 r.1.1.2.2.1),.lit (.int .i64 r.1.1.2.2.2),.ro (List.map an r.1.2.1),.ro (List.map (aF .u64) r.1.2.2.1),.ro (List.map aG r.1.2.2.2.1),.ro (List.map bn r.1.2.2.2.2)],.lit (.bool r.2)]),[]):=by
 intro n
 induction n with
 | zero=>intros;rfl
 | succ n ih=>
  intro s62 s63 s64 s77 s113 s115 s116 s135 s138 s57 s58 s59 s60 s61 s76 s78 s114 j75 j112 j136 j137
  rw [b8]
  simp (maxSteps:=2000000) -implicitDefEqProofs only [aba,Xv,Xu,xH,Ao,AB,Ag,Ai,iV,iS,iT,iZ,YP,Xs,Xr,AE,i6,aH (g:=57),↓syP,syA,syD,simprocAttr,syE,ah,ag,ae,syW,xQ,cS,ct,om,ga,pU,mG,cU,dd,fE,SZ,ih,rX k v0_0 v0_1 v0_2 v0_3 v1 v2 _ (fun s62 s63 s64 s77 s113 s115 s116 s135 s138=>b8 k (v0_0,v0_1,v0_2,v0_3) v1 v2  n s62 s63 s64 s77 s113 s115 s116 s135 s138) ih]
  all_goals simp -implicitDefEqProofs only [List.map_nil]
def cP (k:Nat) (v0:(Int×Int×Int×Int)) (v1:Tyt) (v2:(List (List Int)))  : Nat→Tyt→List Int→List Int→Nat→Int→List Tyw→Nat→Option (Typ×Bool)
 | 0,_,_,_,_,_,_,_=>none
 | n+1,s38,s39,s40,s41,s52,s54,s55=>
 bif decide (s52<v0.1) then
 ob (mS s52) fun x153=>
 ck (s55==11||s55==0) (
 bif room (s54++[(x153.1,x153.2.1,(x153.2.2.1.1,x153.2.2.1.2.1,x153.2.2.1.2.2.1,x153.2.2.1.2.2.2.1,x153.2.2.1.2.2.2.2.1,x153.2.2.1.2.2.2.2.2.1,x153.2.2.1.2.2.2.2.2.2),x153.2.2.2.1,x153.2.2.2.2)]).length 104 then
 cP k v0 v1 v2  n (s38) (s39) (s40) (s41) (IntKind.i64.wrap (s52+(1:Int))) (s54++[(x153.1,x153.2.1,(x153.2.2.1.1,x153.2.2.1.2.1,x153.2.2.1.2.2.1,x153.2.2.1.2.2.2.1,x153.2.2.1.2.2.2.2.1,x153.2.2.1.2.2.2.2.2.1,x153.2.2.1.2.2.2.2.2.2),x153.2.2.2.1,x153.2.2.2.2)]) (11)
 else
 none)
 else
 b8 k v0 v1 v2 (k+21) (s38) (s39) (s41) (s54) ((0:Int)) ([]) (0) (s40.length) (s40)
theorem ie (k:Nat) (v0_0 v0_1 v0_2 v0_3:Int) (v1:Tyt) (v2:List (List Int)):∀ (n:Nat) (s38:Tyt) (s39:List Int) (s40:List Int) (s41:Nat) (s52:Int) (s54:List Tyw) (s55:Nat) ⦃s34:Bool⦄ ⦃s35:Bool⦄ ⦃s36:Bool⦄ ⦃s37:Bool⦄ ⦃s53:Nat⦄ ⦃j51:V⦄,rt none (itX (xX (xS (k+21)) 23 0 (k+21) false) HN (14) (au (xX (xS (k+21)) 23 0 (k+21) false) (ao (xS (k+21)).P Tryz.f23) GA) n ⟨(.agg [.lit (.int .i64 v0_0),.lit (.int .i64 v0_1),.lit (.int .i64 v0_2),.lit (.int .i64 v0_3)]::.ro (List.map an v1)::.ro (List.map cA v2)::.ptr 0 0 0 0::uu::uu::.ptr 5 0 0 0::.lit (.bool false)::.own 6 0 s40.length::.ptr 11 0 0 0::j51::uu::uu::uu::uu::uu::.agg [.lit (.int .i64 v0_0),.lit (.int .i64 v0_1),.lit (.int .i64 v0_2),.lit (.int .i64 v0_3)]::.lit (.bool s34)::.lit (.bool s35)::.lit (.bool false)::.ro (List.map an v1)::.lit (.bool s36)::.lit (.bool s37)::.lit (.bool s37)::.lit (.bool false)::.ro (List.map cA v2)::.lit (.int .i64 (↑v2.length:Int))::.lit (.bool (decide ((3:Int)<(↑v2.length:Int))))::.lit (.bool (decide ((3:Int)<(↑v2.length:Int))))::uu::.ro (List.map an v1)::.own 6 0 s40.length::.agg [.lit (.int .i64 v0_0),.lit (.int .i64 v0_1),.lit (.int .i64 v0_2),.lit (.int .i64 v0_3)]::.ro (List.map an v1)::.ro (List.map an s38)::.agg [.lit (.int .i64 v0_0),.lit (.int .i64 v0_1),.lit (.int .i64 v0_2),.lit (.int .i64 v0_3)]::.ro (List.map (aF IntKind.u64) s39)::.agg [.lit (.int .i64 v0_0),.lit (.int .i64 v0_1),.lit (.int .i64 v0_2),.lit (.int .i64 v0_3),.ro (List.map an s38),.ro (List.map (aF IntKind.u64) s39),.nil,.nil]::.ptr 0 0 0 0::.lit (.int .i64 v0_0)::.lit (.int .i64 s52)::.junk::.junk::.junk::.junk::.junk::.junk::.junk::.junk::.junk::.junk::uu::uu::uu::uu::uu::uu::uu::uu::uu::uu::uu::uu::uu::uu::uu::uu::uu::uu::uu::uu::uu::uu::uu::uu::uu::uu::uu::uu::uu::uu::uu::uu::uu::[]),[.box [.lit (.int .i64 v0_0),.lit (.int .i64 v0_1),.lit (.int .i64 v0_2),.lit (.int .i64 v0_3)],.rows 0 [] 0 true,.rows 0 [] 0 true,.rows 0 [] 0 true,.rows 0 [] 0 true,.box [.lit (.int .i64 (0:Int)),.lit (.int .i64 (0:Int)),.lit (.int .i64 (0:Int)),.lit (.int .i64 (0:Int)),.own 1 0 0,.own 2 0 0,.own 3 0 0,.own 4 0 0],.rows s41 (List.map (aF IntKind.i64) s40) 0 true,.rows 0 [] 0 true,.rows 0 [] 0 true,.rows 0 [] 0 true,.rows 0 [] 0 true,.box [.lit (.int .i64 v0_0),.lit (.int .i64 v0_1),.lit (.int .i64 v0_2),.lit (.int .i64 v0_3),.ro (List.map an s38),.ro (List.map (aF IntKind.u64) s39),.own 12 s53 s54.length,.own 13 0 0],.rows s55 (List.map aG s54) s53 true,.rows 0 [] 0 true]⟩)=ob (cP k (v0_0,v0_1,v0_2,v0_3) v1 v2  n s38 s39 s40 s41 s52 s54 s55) fun r=>some ((.tup [.agg [.lit (.int .i64 r.1.1.1),.lit (.int .i64 r.1.1.2.1),.lit (.int .i64 r.1.1.2.2.1),.lit (.int .i64 r.1.1.2.2.2),.ro (List.map an r.1.2.1),.ro (List.map (aF .u64) r.1.2.2.1),.ro (List.map aG r.1.2.2.2.1),.ro (List.map bn r.1.2.2.2.2)],.lit (.bool r.2)]),[]):=by
 intro n
 induction n with
 | zero=>intros;rfl
 | succ n ih=>
  intro s38 s39 s40 s41 s52 s54 s55 s34 s35 s36 s37 s53 j51
  rw [cP]
  have hu2:=mm k v0_0 v0_1 v0_2 v0_3 v1 v2 (k+21) (s38) (s39) (s41) (s54) ((0:Int)) ([]) (0) (s40.length) (s40)
  try simp -implicitDefEqProofs only [List.map_nil,List.length_nil] at hu2
  simp (maxSteps:=2000000) -implicitDefEqProofs only [aba,Xv,Xu,xH,Ao,AB,Ag,Ai,iV,iS,iT,iZ,YP,Xs,Xr,AE,i6,aH (g:=57),↓syP,syA,syD,simprocAttr,syE,ah,ag,ae,syW,xQ,cS,ct,om,ga,pU,mG,cU,dd,fE,RA,ih,mm k v0_0 v0_1 v0_2 v0_3 v1 v2,hu2]
  all_goals simp -implicitDefEqProofs only [List.map_nil]
def iX (k:Nat) (v0:(Int×Int×Int×Int)) (v1:Tyt) (v2:(List (List Int))):Option (Typ×Bool):=
 ob (b7 v0) fun x162=>
 bif !x162 then
 some (((0,0,0,0),[],[],[],[]),false)
 else
 ob (cT (k+2) v1) fun x163=>
 bif !x163 then
 some (((0,0,0,0),[],[],[],[]),false)
 else
 bif decide (3<(↑v2.length:Int)) then
 some (((0,0,0,0),[],[],[],[]),false)
 else
 ob (cT (k+1) v1) fun x164=>
 bif !x164 then
 ob (dn (k+19) v1) fun x165=>
 ob (lD (k+17) v0) fun x166=>
 cP k v0 v1 v2 (k+21) x165 x166 ([]) 0 0 ([]) 0
 else
 ob (bD k (k+20) v1 (↑v1.length:Int) 0 [] 0 0) fun x167=>
 ob (dn (k+19) v1) fun x168=>
 ob (lD (k+17) v0) fun x169=>
 cP k v0 v1 v2 (k+21) x168 x169 x167.2.1 x167.2.2 0 ([]) 0
theorem HW (k:Nat) (v0_0 v0_1 v0_2 v0_3:Int) (v1:Tyt) (v2:List (List Int)):xC (k+22) none 23 [.agg [.lit (.int .i64 v0_0),.lit (.int .i64 v0_1),.lit (.int .i64 v0_2),.lit (.int .i64 v0_3)],.ro (List.map an v1),.ro (List.map cA v2)]=ob (iX k (v0_0,v0_1,v0_2,v0_3) v1 v2) fun r=>some ((.tup [.agg [.lit (.int .i64 r.1.1.1),.lit (.int .i64 r.1.1.2.1),.lit (.int .i64 r.1.1.2.2.1),.lit (.int .i64 r.1.1.2.2.2),.ro (List.map an r.1.2.1),.ro (List.map (aF .u64) r.1.2.2.1),.ro (List.map aG r.1.2.2.2.1),.ro (List.map bn r.1.2.2.2.2)],.lit (.bool r.2)]),[]):=by
 rw [aH]
 unfold iX
 have hl0:=fun (x173:Tyt) (x174:List Int)=>ie k v0_0 v0_1 v0_2 v0_3 v1 v2 (k+21) (x173) (x174) ([]) (0) ((0:Int)) ([]) (0)
 try simp -implicitDefEqProofs only [List.map_nil,List.length_nil] at hl0
 have hl1:=fun (x176:Tyt) (x177:List Int) (x175:Nat×List Int×Nat)=>ie k v0_0 v0_1 v0_2 v0_3 v1 v2 (k+21) (x176) (x177) (x175.snd.fst) (x175.snd.snd) ((0:Int)) ([]) (0)
 try simp -implicitDefEqProofs only [List.map_nil,List.length_nil] at hl1
 simp (maxSteps:=2000000) -implicitDefEqProofs only [aba,Xv,Xu,xH,Ao,AB,Ag,Ai,iV,iS,iT,iZ,YP,Xs,Xr,AE,i6,aH (g:=57),↓syP,syA,syD,simprocAttr,syE,ah,ag,ae,syW,xQ,cS,ct,om,cU,dd,fE,ie k v0_0 v0_1 v0_2 v0_3 v1 v2,hl0,hl1]
 all_goals simp -implicitDefEqProofs only [List.map_nil]
end Go.Ab
set_option maxRecDepth 100000
set_option linter.unusedVariables false
set_option linter.unusedSimpArgs false
namespace Go.Ab
open Go.Proofs
end Go.Ab
set_option maxRecDepth 100000
set_option linter.unusedVariables false
set_option linter.unusedSimpArgs false
namespace Go.Ab
open Go.Proofs
def aX (k:Nat) (v0:(List (List Int)))  : Nat→Int→Option Bool
 | 0,_=>none
 | n+1,s3=>
 bif decide (s3<(↑v0.length:Int)) then
 bif decide (s3≤(10:Int)) then
 ob (idx v0 s3) fun x6=>
 bif decide ((60:Int)<(↑x6.length:Int)) then
 some (false)
 else
 aX k v0  n (IntKind.i64.wrap (s3+(1:Int)))
 else
 some (decide ((↑v0.length:Int)≤(10:Int)))
 else
 some (decide ((↑v0.length:Int)≤(10:Int)))
theorem ib (k:Nat) (v0:List (List Int)):∀ (n:Nat) (s3:Int),rt none (itX (xX (xS k) 22 0 k false) rv (0) (au (xX (xS k) 22 0 k false) (ao (xS k).P Tryz.f22) HJ) n ⟨[.ro (List.map cA v0),uu,.lit (.bool false),.lit (.int .i64 s3),.junk,.junk,.junk,.junk,.junk,.junk,.junk,.junk,.junk,.junk,.junk,.junk,.junk,.junk,.junk,.junk,uu,uu,uu],[]⟩)=ob (aX k v0  n s3) fun r=>some ((.lit (.bool r)),[]):=by
 intro n
 induction n with
 | zero=>intros;rfl
 | succ n ih=>
  intro s3
  rw [aX]
  simp (maxSteps:=2000000) -implicitDefEqProofs only [agW,acz,adW,KU,LA,pV,pI,↓syP,syA,syD,simprocAttr,syE,ah,ag,ae,syW,xQ,RP,ih]
  all_goals simp -implicitDefEqProofs only [List.map_nil]
def b9 (k:Nat) (v0:(List (List Int))):Option Bool:=
 aX k v0 k 0
theorem lZ (k:Nat) (v0:List (List Int)):xC (k+1) none 22 [.ro (List.map cA v0)]=ob (b9 k v0) fun r=>some ((.lit (.bool r)),[]):=by
 rw [aH]
 unfold b9
 simp (maxSteps:=2000000) -implicitDefEqProofs only [agW,acz,adW,KU,LA,pV,pI,↓syP,syA,syD,simprocAttr,syE,ah,ag,ae,syW,xQ,ib k v0]
 all_goals simp -implicitDefEqProofs only [List.map_nil]
def bC (k:Nat) (v0:Tye) (v1:Tye)  : Nat→Int→Option Bool
 | 0,_=>none
 | n+1,s32=>
 bif decide (s32<(↑v0.length:Int)) then
 ob (idx v0 s32) fun x37=>
 ob (idx v1 s32) fun x38=>
 bif !(x37.1==x38.1&&(x37.2.1==x38.2.1&&x37.2.2==x38.2.2)) then
 some (false)
 else
 bC k v0 v1  n (IntKind.i64.wrap (s32+(1:Int)))
 else
 some (true)
theorem lE (k:Nat) (v0 v1:Tye):∀ (n:Nat) (s32:Int),rt none (itX (xX (xS k) 18 0 k false) Gn (0) (au (xX (xS k) 18 0 k false) (ao (xS k).P Tryz.f18) GF) n ⟨[.ro (List.map aD v0),.ro (List.map aD v1),uu,uu,.lit (.bool false),.lit (.int .i64 s32),.ro (List.map aD v0),.lit (.int .i64 (↑v0.length:Int)),.ro (List.map aD v1),.lit (.int .i64 (↑v1.length:Int)),.lit (.bool ((↑v0.length:Int)!=(↑v1.length:Int))),.junk,.junk,.junk,.junk,.junk,.junk,.junk,.junk,.junk,.junk,.junk,.junk,.junk,.junk,.junk],[]⟩)=ob (bC k v0 v1  n s32) fun r=>some ((.lit (.bool r)),[]):=by
 intro n
 induction n with
 | zero=>intros;rfl
 | succ n ih=>
  intro s32
  rw [bC]
  simp (maxSteps:=2000000) -implicitDefEqProofs only [agw,ad1,ad8,Lz,rb,↓syP,syA,syD,simprocAttr,syE,ah,ag,ae,syW,xQ,SU,ih]
  all_goals simp -implicitDefEqProofs only [List.map_nil]
def dw (k:Nat) (v0:Tye) (v1:Tye):Option Bool:=
 bif (↑v0.length:Int)!=(↑v1.length:Int) then
 some false
 else
 bC k v0 v1 k 0
theorem oq (k:Nat) (v0 v1:Tye):xC (k+1) none 18 [.ro (List.map aD v0),.ro (List.map aD v1)]=ob (dw k v0 v1) fun r=>some ((.lit (.bool r)),[]):=by
 rw [aH]
 unfold dw
 simp (maxSteps:=2000000) -implicitDefEqProofs only [agw,ad1,ad8,Lz,rb,↓syP,syA,syD,simprocAttr,syE,ah,ag,ae,syW,xQ,lE k v0 v1]
 all_goals simp -implicitDefEqProofs only [List.map_nil]
end Go.Ab
set_option maxRecDepth 100000
set_option linter.unusedVariables false
set_option linter.unusedSimpArgs false
namespace Go.Ab
open Go.Proofs
def aB (k:Nat) (v0:(List Tys))  : Nat→Int→Option Int
 | 0,_=>none
 | n+1,s6=>
 bif decide (s6<(↑v0.length:Int)) then
 ob (idx v0 s6) fun x11=>
 ob (go (x11.1,x11.2.1,x11.2.2.1,x11.2.2.2.1,x11.2.2.2.2.1,x11.2.2.2.2.2.1,x11.2.2.2.2.2.2.1,x11.2.2.2.2.2.2.2.1,x11.2.2.2.2.2.2.2.2)) fun x12=>
 bif x12 then
 some (s6)
 else
 aB k v0  n (IntKind.i64.wrap (s6+(1:Int)))
 else
 some ((-1:Int))
theorem ed (k:Nat) (v0:List Tys):∀ (n:Nat) (s6:Int) ⦃j5:V⦄,rt none (itX (xX (xS (k+8)) 96 0 (k+8) false) AK (0) (au (xX (xS (k+8)) 96 0 (k+8) false) (ao (xS (k+8)).P Tryz.f96) xV) n ⟨[.ro (List.map bn v0),.fn (Fn.func (28:FuncId)) [] [],uu,uu,.lit (.int .i64 (0:Int)),j5,.ro (List.map bn v0),.lit (.int .i64 (↑v0.length:Int)),.lit (.int .i64 s6),.junk,.junk,.junk,.junk,.junk,.junk,.junk,.junk,.junk,.junk],[]⟩)=ob (aB k v0  n s6) fun r=>some ((.lit (.int .i64 r)),[]):=by
 intro n
 induction n with
 | zero=>intros;rfl
 | succ n ih=>
  intro s6 j5
  rw [aB]
  simp (maxSteps:=2000000) -implicitDefEqProofs only [IS,GD,Gp,kP,cE,↓syP,syA,syD,simprocAttr,syE,ah,ag,ae,syW,xQ,Cd,Hr,ih]
  all_goals simp -implicitDefEqProofs only [List.map_nil]
def bd (k:Nat) (v0:(List Tys)):Option Int:=
 aB k v0 (k+8) 0
theorem fq (k:Nat) (v0:List Tys):xC (k+9) none 96 [.ro (List.map bn v0),.fn (Fn.func (28:FuncId)) [] []]=ob (bd k v0) fun r=>some ((.lit (.int .i64 r)),[]):=by
 rw [aH]
 unfold bd
 simp (maxSteps:=2000000) -implicitDefEqProofs only [IS,GD,Gp,kP,cE,↓syP,syA,syD,simprocAttr,syE,ah,ag,ae,syW,xQ,ed k v0]
 all_goals simp -implicitDefEqProofs only [List.map_nil]
def aR (k:Nat) (v0:(List Tys)):Option Bool:=
 ob (bd (k+8) v0) fun x14=>
 some (decide (0≤x14))
theorem cy (k:Nat) (v0:List Tys):xC (k+18) none 52 [.ro (List.map bn v0),.fn (Fn.func (28:FuncId)) [] []]=ob (aR k v0) fun r=>some ((.lit (.bool r)),[]):=by
 rw [aH]
 unfold aR
 simp (maxSteps:=2000000) -implicitDefEqProofs only [M6,M3,IS,GD,Gp,kP,cE,↓syP,syA,syD,simprocAttr,syE,ah,ag,ae,syW,xQ,fq]
 all_goals simp -implicitDefEqProofs only [List.map_nil]
def cH (k : Nat) (v0 : ((Int × Int × Int × Int) × List (Int × List Int) × List Int × List (Int × List (Int × Int × Int) × (Int × Int × Int × Int × Int × Int × Int) × Int × Int) × List (Int × List Int × Int × Int × Int × Int × Int × Int × Int)))  : Nat → Int → Option Bool
 | 0,_ => none
 | n + 1,s30 =>
 bif decide (s30 < (↑v0.2.2.2.1.length : Int)) then
 ob (idx v0.2.2.2.1 s30) fun x41 =>
 ob (gn (x41.1,x41.2.1,(x41.2.2.1.1,x41.2.2.1.2.1,x41.2.2.1.2.2.1,x41.2.2.1.2.2.2.1,x41.2.2.1.2.2.2.2.1,x41.2.2.1.2.2.2.2.2.1,x41.2.2.1.2.2.2.2.2.2),x41.2.2.2.1,x41.2.2.2.2)) fun x42 =>
 bif !x42 then
 some (false)
 else
 ob (fg (v0.1.1,v0.1.2.1,v0.1.2.2.1,v0.1.2.2.2) s30) fun x43 =>
 ob (aI v0.2.2.1 x43) fun x44 =>
 bif x44 != (0 : Int) then
 some (false)
 else
 cH k v0  n (IntKind.i64.wrap (s30 + (1 : Int)))
 else
 some (true)
theorem nD (k:Nat) (v0_0_0 v0_0_1 v0_0_2 v0_0_3:Int) (v0_1:Tyt) (v0_2:List Int) (v0_3:List Tyw) (v0_4:List Tys):∀ (n:Nat) (s30:Int) ⦃s19:Bool⦄ ⦃s20:Bool⦄ ⦃s21:Bool⦄ ⦃j28 j29:V⦄,rt none (itX (xX (xS (k+35)) 25 0 (k+35) false) rK (1) (au (xX (xS (k+35)) 25 0 (k+35) false) (ao (xS (k+35)).P Tryz.f25) G2) n ⟨[.agg [.lit (.int .i64 v0_0_0),.lit (.int .i64 v0_0_1),.lit (.int .i64 v0_0_2),.lit (.int .i64 v0_0_3),.ro (List.map an v0_1),.ro (List.map (aF IntKind.u64) v0_2),.ro (List.map aG v0_3),.ro (List.map bn v0_4)],.ptr 0 0 0 0,.lit (.bool false),j28,j29,.agg [.lit (.int .i64 v0_0_0),.lit (.int .i64 v0_0_1),.lit (.int .i64 v0_0_2),.lit (.int .i64 v0_0_3),.ro (List.map an v0_1),.ro (List.map (aF IntKind.u64) v0_2),.ro (List.map aG v0_3),.ro (List.map bn v0_4)],.lit (.bool s19),.lit (.bool s20),.lit (.bool false),.ptr 0 0 0 7,.ro (List.map bn v0_4),.lit (.bool s21),.lit (.bool s21),.ptr 0 0 0 6,.ro (List.map aG v0_3),.lit (.int .i64 (↑v0_3.length:Int)),.lit (.int .i64 s30),.junk,.junk,.junk,.junk,.junk,.junk,.junk,.junk,.junk,.junk,.junk,.junk,.junk,.junk,.junk,.junk,.junk,.junk],[.box [.lit (.int .i64 v0_0_0),.lit (.int .i64 v0_0_1),.lit (.int .i64 v0_0_2),.lit (.int .i64 v0_0_3),.ro (List.map an v0_1),.ro (List.map (aF IntKind.u64) v0_2),.ro (List.map aG v0_3),.ro (List.map bn v0_4)]]⟩)=ob (cH k ((v0_0_0,v0_0_1,v0_0_2,v0_0_3),v0_1,v0_2,v0_3,v0_4)  n s30) fun r=>some ((.lit (.bool r)),[]):=by
 intro n
 induction n with
 | zero=>intros;rfl
 | succ n ih=>
  intro s30 s19 s20 s21 j28 j29
  rw [cH]
  simp (maxSteps:=2000000) -implicitDefEqProofs only [agS,aft,afM,JO,LL,KY,re,pR,pS,M6,M3,IS,GD,Gp,kP,cE,↓syP,syA,syD,simprocAttr,syE,ah,ag,ae,syW,xQ,da,ri,AO,dI,cy,RE,ih]
  all_goals simp -implicitDefEqProofs only [List.map_nil]
def fZ (k:Nat) (v0:Typ):Option Bool:=
 ob (eq k v0) fun x45=>
 bif !x45 then
 some false
 else
 ob (aR (k+17) v0.2.2.2.2) fun x46=>
 bif x46 then
 some false
 else
 cH k v0 (k+35) 0
theorem B5 (k:Nat) (v0_0_0 v0_0_1 v0_0_2 v0_0_3:Int) (v0_1:Tyt) (v0_2:List Int) (v0_3:List Tyw) (v0_4:List Tys):xC (k+36) none 25 [.agg [.lit (.int .i64 v0_0_0),.lit (.int .i64 v0_0_1),.lit (.int .i64 v0_0_2),.lit (.int .i64 v0_0_3),.ro (List.map an v0_1),.ro (List.map (aF .u64) v0_2),.ro (List.map aG v0_3),.ro (List.map bn v0_4)]]=ob (fZ k ((v0_0_0,v0_0_1,v0_0_2,v0_0_3),v0_1,v0_2,v0_3,v0_4)) fun r=>some ((.lit (.bool r)),[]):=by
 rw [aH]
 unfold fZ
 simp (maxSteps:=2000000) -implicitDefEqProofs only [agS,aft,afM,JO,LL,KY,re,pR,pS,M6,M3,IS,GD,Gp,kP,cE,↓syP,syA,syD,simprocAttr,syE,ah,ag,ae,syW,xQ,dI,cy,nD k v0_0_0 v0_0_1 v0_0_2 v0_0_3 v0_1 v0_2 v0_3 v0_4]
 all_goals simp -implicitDefEqProofs only [List.map_nil]
def f9 (v0:Tys):Option Bool:=
 some (decide (0<(↑v0.2.1.length:Int)))
theorem wb (k:Nat) (v0_0:Int) (v0_1:List Int) (v0_2_0 v0_2_1 v0_2_2 v0_2_3 v0_2_4 v0_2_5 v0_2_6:Int):xC (k+1) none 67 [.agg [.lit (.int .i64 v0_0),.ro (List.map (aF .i64) v0_1),.lit (.int .i64 v0_2_0),.lit (.int .i64 v0_2_1),.lit (.int .i64 v0_2_2),.lit (.int .u64 v0_2_3),.lit (.int .u64 v0_2_4),.lit (.int .u64 v0_2_5),.lit (.int .i64 v0_2_6)]]=ob (f9 (v0_0,v0_1,(v0_2_0,v0_2_1,v0_2_2,v0_2_3,v0_2_4,v0_2_5,v0_2_6))) fun r=>some ((.lit (.bool r)),[]):=by
 rw [aH]
 unfold f9
 simp (maxSteps:=2000000) -implicitDefEqProofs only [agZ,acR,↓syP,syA,syD,simprocAttr,syE,ah,ag,ae,syW,xQ]
 all_goals simp -implicitDefEqProofs only [List.map_nil]
def az (k:Nat) (v0:(List Tys))  : Nat→Int→Option Int
 | 0,_=>none
 | n+1,s56=>
 bif decide (s56<(↑v0.length:Int)) then
 ob (idx v0 s56) fun x61=>
 ob (f9 (x61.1,x61.2.1,x61.2.2.1,x61.2.2.2.1,x61.2.2.2.2.1,x61.2.2.2.2.2.1,x61.2.2.2.2.2.2.1,x61.2.2.2.2.2.2.2.1,x61.2.2.2.2.2.2.2.2)) fun x62=>
 bif x62 then
 some (s56)
 else
 az k v0  n (IntKind.i64.wrap (s56+(1:Int)))
 else
 some ((-1:Int))
theorem dO (k:Nat) (v0:List Tys):∀ (n:Nat) (s56:Int) ⦃j55:V⦄,rt none (itX (xX (xS (k+8)) 96 0 (k+8) false) AK (0) (au (xX (xS (k+8)) 96 0 (k+8) false) (ao (xS (k+8)).P Tryz.f96) xV) n ⟨[.ro (List.map bn v0),.fn (Fn.func (67:FuncId)) [] [],uu,uu,.lit (.int .i64 (0:Int)),j55,.ro (List.map bn v0),.lit (.int .i64 (↑v0.length:Int)),.lit (.int .i64 s56),.junk,.junk,.junk,.junk,.junk,.junk,.junk,.junk,.junk,.junk],[]⟩)=ob (az k v0  n s56) fun r=>some ((.lit (.int .i64 r)),[]):=by
 intro n
 induction n with
 | zero=>intros;rfl
 | succ n ih=>
  intro s56 j55
  rw [az]
  simp (maxSteps:=2000000) -implicitDefEqProofs only [IS,GD,Gp,kP,cE,↓syP,syA,syD,simprocAttr,syE,ah,ag,ae,syW,xQ,wb,Hr,ih]
  all_goals simp -implicitDefEqProofs only [List.map_nil]
def aZ (k:Nat) (v0:(List Tys)):Option Int:=
 az k v0 (k+8) 0
theorem eS (k:Nat) (v0:List Tys):xC (k+9) none 96 [.ro (List.map bn v0),.fn (Fn.func (67:FuncId)) [] []]=ob (aZ k v0) fun r=>some ((.lit (.int .i64 r)),[]):=by
 rw [aH]
 unfold aZ
 simp (maxSteps:=2000000) -implicitDefEqProofs only [IS,GD,Gp,kP,cE,↓syP,syA,syD,simprocAttr,syE,ah,ag,ae,syW,xQ,dO k v0]
 all_goals simp -implicitDefEqProofs only [List.map_nil]
def aO (k:Nat) (v0:(List Tys)):Option Bool:=
 ob (aZ (k+8) v0) fun x64=>
 some (decide (0≤x64))
theorem en (k:Nat) (v0:List Tys):xC (k+18) none 52 [.ro (List.map bn v0),.fn (Fn.func (67:FuncId)) [] []]=ob (aO k v0) fun r=>some ((.lit (.bool r)),[]):=by
 rw [aH]
 unfold aO
 simp (maxSteps:=2000000) -implicitDefEqProofs only [M6,M3,IS,GD,Gp,kP,cE,↓syP,syA,syD,simprocAttr,syE,ah,ag,ae,syW,xQ,eS]
 all_goals simp -implicitDefEqProofs only [List.map_nil]
def gb (k:Nat) (v0:Typ):Option Bool:=
 ob (fZ k v0) fun x69=>
 bif x69 then
 ob (aI v0.2.2.1 0) fun x70=>
 bif x70==0 then
 ob (aO (k+18) v0.2.2.2.2) fun x71=>
 some (!x71)
 else
 some false
 else
 some false
theorem pf (k:Nat) (v0_0_0 v0_0_1 v0_0_2 v0_0_3:Int) (v0_1:Tyt) (v0_2:List Int) (v0_3:List Tyw) (v0_4:List Tys):xC (k+37) none 29 [.agg [.lit (.int .i64 v0_0_0),.lit (.int .i64 v0_0_1),.lit (.int .i64 v0_0_2),.lit (.int .i64 v0_0_3),.ro (List.map an v0_1),.ro (List.map (aF .u64) v0_2),.ro (List.map aG v0_3),.ro (List.map bn v0_4)]]=ob (gb k ((v0_0_0,v0_0_1,v0_0_2,v0_0_3),v0_1,v0_2,v0_3,v0_4)) fun r=>some ((.lit (.bool r)),[]):=by
 rw [aH]
 unfold gb
 simp (maxSteps:=2000000) -implicitDefEqProofs only [ahm,agA,Sh,Rz,Ak,M6,M3,agZ,acR,IS,GD,Gp,kP,cE,↓syP,syA,syD,simprocAttr,syE,ah,ag,ae,syW,xQ,da,B5,en]
 all_goals simp -implicitDefEqProofs only [List.map_nil]
end Go.Ab
set_option maxRecDepth 100000
set_option linter.unusedVariables false
set_option linter.unusedSimpArgs false
namespace Go.Ab
open Go.Proofs
end Go.Ab
