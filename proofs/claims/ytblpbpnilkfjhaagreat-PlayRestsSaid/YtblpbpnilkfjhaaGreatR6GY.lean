import Derived.Test.YtblpbpnilkfjhaaGreatR6GX
import Derived.Test.YtblpbpnilkfjhaaGreatR6BP
import Derived.Test.YtblpbpnilkfjhaaGreatR6BX
import Derived.Test.YtblpbpnilkfjhaaGreatR6BY
import Derived.Test.YtblpbpnilkfjhaaGreatR6BA
set_option linter.unusedVariables false
set_option linter.unusedSimpArgs false
set_option maxRecDepth 100000
set_option linter.unusedVariables false
set_option linter.unusedSimpArgs false
namespace Go.Ab
open Go.Proofs
def gK (v0:(Int×Int×Int)) (v1:Int) (v2:Int):Option Bool:=
 bif v0.1==0 then
 ob (cJ v0.2.1 v1) fun x4=>
 bif x4 then
 some true
 else
 bif v0.1==1 then
 ob (cJ v0.2.1 v2) fun x5=>
 bif x5 then
 some true
 else
 bif v0.1==2 then
 some true
 else
 some (v0.1==3)
 else
 bif v0.1==2 then
 some true
 else
 some (v0.1==3)
 else
 bif v0.1==1 then
 ob (cJ v0.2.1 v2) fun x6=>
 bif x6 then
 some true
 else
 bif v0.1==2 then
 some true
 else
 some (v0.1==3)
 else
 bif v0.1==2 then
 some true
 else
 some (v0.1==3)
theorem wu (k:Nat) (v0_0 v0_1 v0_2 v1 v2:Int):xC (k+2) none 42 [.agg [.lit (.int .i64 v0_0),.lit (.int .i64 v0_1),.lit (.int .u64 v0_2)],.lit (.int .i64 v1),.lit (.int .i64 v2)]=ob (gK (v0_0,v0_1,v0_2) v1 v2) fun r=>some ((.lit (.bool r)),[]):=by
 rw [aH]
 unfold gK
 simp (maxSteps:=2000000) -implicitDefEqProofs only [ajT,ajf,S7,Uj,TK,Uk,TS,Te,Tb,SP,SZ,A4,↓syP,syA,syD,simprocAttr,syE,ah,ag,ae,syW,xQ,iv]
def dE (k : Nat) (v0 : (List Int)) (v1 : (List Int))  : Nat → Int → Option Bool
 | 0,_ => none
 | n + 1,sK =>
 bif decide (sK < (↑v0.length : Int)) then
 bif !(↑v0.length : Int) == (↑v1.length : Int) then
 some (false)
 else
 ob (idx v0 sK) fun xO =>
 ob (idx v1 sK) fun xP =>
 bif xO != xP then
 some (false)
 else
 dE k v0 v1  n (IntKind.i64.wrap (sK + (1 : Int)))
 else
 some ((↑v0.length : Int) == (↑v1.length : Int))
theorem rm (k:Nat) (v0 v1:List Int):∀ (n:Nat) (sK:Int) ⦃j13:V⦄,rt none (itX (xX (xS k) 45 0 k false) rL (0) (au (xX (xS k) 45 0 k false) (ap (xS k).P Tryz.f45) Hv) n ⟨[.ro (List.map (aF IntKind.u64) v0),.ro (List.map (aF IntKind.u64) v1),uu,uu,.lit (.bool false),.lit (.bool ((↑v0.length:Int)==(↑v1.length:Int))),j13,.ro (List.map (aF IntKind.u64) v0),.lit (.int .i64 (↑v0.length:Int)),.ro (List.map (aF IntKind.u64) v1),.lit (.int .i64 (↑v1.length:Int)),.lit (.bool ((↑v0.length:Int)==(↑v1.length:Int))),.ro (List.map (aF IntKind.u64) v0),.lit (.int .i64 (↑v0.length:Int)),.lit (.int .i64 sK),.junk,.junk,.junk,.junk,.junk,.junk,.junk,.junk,.junk,.junk,.junk,.junk,.junk,.junk,.junk,.junk,uu],[]⟩)=ob (dE k v0 v1  n sK) fun r=>some ((.lit (.bool r)),[]):=by
 intro n
 induction n with
 | zero=>intros;rfl
 | succ n ih=>
  intro sK j13
  rw [dE]
  simp (maxSteps:=2000000) -implicitDefEqProofs only [ajr,agt,ahX,NP,My,ru,rb,↓syP,syA,syD,simprocAttr,syE,ah,ag,ae,syW,xQ,UB,ih]
def ko (k:Nat) (v0:(List Int)) (v1:(List Int)):Option Bool:=
 dE k v0 v1 k 0
theorem Fq (k:Nat) (v0 v1:List Int):xC (k+1) none 45 [.ro (List.map (aF .u64) v0),.ro (List.map (aF .u64) v1)]=ob (ko k v0 v1) fun r=>some ((.lit (.bool r)),[]):=by
 rw [aH]
 unfold ko
 simp (maxSteps:=2000000) -implicitDefEqProofs only [ajr,agt,ahX,NP,My,ru,rb,↓syP,syA,syD,simprocAttr,syE,ah,ag,ae,syW,xQ,rm k v0 v1]
def dk (k:Nat) (v0:Tyt)  : Nat→Tyt→Int→Int→Tyt→Option Tyt
 | 0,_,_,_,_=>none
 | n+1,sB,sN,sC,sF=>
 bif decide (sC<sN) then
 bif decide ((0:Int)≤sC∧sC.toNat<sB.length) then
 ob (sF[sC.toNat]?) fun xW=>
 ob (aQ 8 xW.2) fun xn=>
 bif decide ((0:Int)≤sC∧sC.toNat<sB.length) then
 ob (sF[sC.toNat]?) fun xT=>
 dk k v0  n (sB) (sN) (IntKind.i64.wrap (sC+(1:Int))) (sF.set sC.toNat (xT.1,xn))
 else
 none
 else
 none
 else
 ck (decide (sB.length≤sF.length)) (
 some (List.take sB.length sF))
theorem oR (k:Nat) (v0:Tyt):∀ (n:Nat) (sB:Tyt) (sN sC:Int) (sF:Tyt) ⦃j29:V⦄,rt none (itX (xX (xS (k+1)) 58 0 (k+1) false) Hz (2) (au (xX (xS (k+1)) 58 0 (k+1) false) (ap (xS (k+1)).P Tryz.f58) Iv) n ⟨[.ro (List.map an v0),uu,.own 0 0 0,.own 1 0 sB.length,j29,.ro (List.map an v0),.own 1 0 sB.length,.own 1 0 sB.length,.lit (.int .i64 sN),.lit (.int .i64 sC),.junk,.junk,.junk,.junk,.junk,.junk,.junk,.junk,.junk,.junk,.junk,.junk,.junk,uu],[.rows 0 [] 0 true,.rows 2 (List.map an sF) 0 true]⟩)=ob (dk k v0  n sB sN sC sF) fun r=>some ((.ro (List.map an r)),[]):=by
 intro n
 induction n with
 | zero=>intros;rfl
 | succ n ih=>
  intro sB sN sC sF j29
  rw [dk]
  simp (maxSteps:=2000000) -implicitDefEqProofs only [ajl,aiO,agG,NS,pG,↓syP,syA,syD,simprocAttr,syE,ah,ag,ae,syW,xQ,Ta,ih]
def dw (k:Nat) (v0:Tyt):Option Tyt:=
 ob (aQ 32 v0) fun xj=>
 dk k v0 (k+1) xj ((↑xj.length:Int)) 0 xj
theorem db (k:Nat) (v0:Tyt):xC (k+2) none 58 [.ro (List.map an v0)]=ob (dw k v0) fun r=>some ((.ro (List.map an r)),[]):=by
 rw [aH]
 unfold dw
 simp (maxSteps:=2000000) -implicitDefEqProofs only [ajl,aiO,agG,NS,pG,↓syP,syA,syD,simprocAttr,syE,ah,ag,ae,syW,xQ,oR k v0]
end Go.Ab
set_option maxRecDepth 100000
set_option linter.unusedVariables false
set_option linter.unusedSimpArgs false
namespace Go.Ab
open Go.Proofs
def cA (k:Nat)   : Nat→List Int→Int→Tyt→Int→Option Int
 | 0,_,_,_,_=>none
 | n+1,st,sx,sW,sO=>
 bif decide (sO<sx) then
 ob (idx st sO) fun xg=>
 bif decide (xg<(0:Int)) then
 some (sO)
 else
 bif decide ((↑sW.length:Int)≤xg) then
 some (sO)
 else
 cA k   n (st) (sx) (sW) (IntKind.i64.wrap (sO+(1:Int)))
 else
 some ((-1:Int))
theorem nG (k:Nat)  : ∀ (n:Nat) (st:List Int) (sx:Int) (sW:Tyt) (sO:Int) ⦃s22 sB sN s25:Int⦄ ⦃sp:List Int⦄ ⦃sq:List Tyw⦄ ⦃sr:List Tys⦄ ⦃sC sF s32 s33 sl sm sg sU:Int⦄ ⦃j39:V⦄,itX (xX (xS (k+29)) 97 0 (k+29) false) IB (4) (au (xX (xS (k+29)) 97 0 (k+29) false) (ap (xS (k+29)).P Tryz.f97) HO) n ⟨[.ro (List.map (aF IntKind.i64) st),.fn (Fn.func (54:FuncId)) [] [.ptr 0 0 0 0],uu,uu,.lit (.int .i64 (0:Int)),j39,.ro (List.map (aF IntKind.i64) st),.lit (.int .i64 sx),.lit (.int .i64 sO),.junk,.junk,.junk,.junk,.junk,.junk,.junk,.junk,.junk,.junk],[.box [.lit (.int .i64 s22),.lit (.int .i64 sB),.lit (.int .i64 sN),.lit (.int .i64 s25),.ro (List.map an sW),.ro (List.map (aF IntKind.u64) sp),.ro (List.map aK sq),.ro (List.map bD sr)],.box [.lit (.bool false)],.box [.lit (.int .i64 s22),.lit (.int .i64 sB),.lit (.int .i64 sN),.lit (.int .i64 s25),.ro (List.map an sW),.ro (List.map (aF IntKind.u64) sp),.ro (List.map aK sq),.ro (List.map bD sr)],.box [.lit (.int .i64 sC),.ro (List.map (aF IntKind.i64) st),.lit (.int .i64 sF),.lit (.int .i64 s32),.lit (.int .i64 s33),.lit (.int .u64 sl),.lit (.int .u64 sm),.lit (.int .u64 sg),.lit (.int .i64 sU)]]⟩=ob (cA k   n st sx sW sO) fun r=>some ((.lit (.int .i64 r),[.box [.lit (.int .i64 s22),.lit (.int .i64 sB),.lit (.int .i64 sN),.lit (.int .i64 s25),.ro (List.map an sW),.ro (List.map (aF IntKind.u64) sp),.ro (List.map aK sq),.ro (List.map bD sr)],.box [.lit (.bool false)],.box [.lit (.int .i64 s22),.lit (.int .i64 sB),.lit (.int .i64 sN),.lit (.int .i64 s25),.ro (List.map an sW),.ro (List.map (aF IntKind.u64) sp),.ro (List.map aK sq),.ro (List.map bD sr)],.box [.lit (.int .i64 sC),.ro (List.map (aF IntKind.i64) st),.lit (.int .i64 sF),.lit (.int .i64 s32),.lit (.int .i64 s33),.lit (.int .u64 sl),.lit (.int .u64 sm),.lit (.int .u64 sg),.lit (.int .i64 sU)]])):=by
 intro n
 induction n with
 | zero=>intros;rfl
 | succ n ih=>
  intro st sx sW sO s22 sB sN s25 sp sq sr sC sF s32 s33 sl sm sg sU j39
  rw [cA]
  simp (maxSteps:=2000000) -implicitDefEqProofs only [aei,abS,aao,EW,D3,Ej,eD,eC,lU,lE,ov,aey,acl,aH (g:=51),Rv,Ov,aer,ZZ,ES,Ff,EQ,Dn,E6,Es,E2,EX,lS,aeo,abM,EU,lA,aes,abC,aet,abw,adZ,Fg,E0,ld,lF,J2,HL,Iy,kS,cP,ael,abO,aaP,DK,lN,↓syP,syA,syD,simprocAttr,syE,ah,ag,ae,syW,xQ,T6,ih]
def bX (k:Nat)   : Nat→List Tys→Int→Tyt→Int→Option Int
 | 0,_,_,_,_=>none
 | n+1,s9,sR,sD,sP=>
 bif decide (sP<sR) then
 ob (idx s9 sP) fun xh=>
 bif decide (xh.1<(0:Int)) then
 some (sP)
 else
 bif decide ((6:Int)≤xh.1) then
 some (sP)
 else
 ob (cA k (k+29) xh.2.1 (↑xh.2.1.length:Int) sD (0:Int)) fun x60=>
 bif decide ((0:Int)≤x60) then
 some (sP)
 else
 bif xh.1 !=(0:Int) then
 bif (↑xh.2.1.length:Int)==(0:Int) then
 some (sP)
 else
 bX k   n (s9) (sR) (sD) (IntKind.i64.wrap (sP+(1:Int)))
 else
 bX k   n (s9) (sR) (sD) (IntKind.i64.wrap (sP+(1:Int)))
 else
 some ((-1:Int))
theorem nB (k:Nat)  : ∀ (n:Nat) (s9:List Tys) (sR:Int) (sD:Tyt) (sP:Int) ⦃s11 sE sS sK:Int⦄ ⦃sd:List Int⦄ ⦃sH:List Tyw⦄ ⦃j49:V⦄,itX (xX (xS (k+32)) 96 0 (k+32) false) Bu (3) (au (xX (xS (k+32)) 96 0 (k+32) false) (ap (xS (k+32)).P Tryz.f96) Bq) n ⟨[.ro (List.map bD s9),.fn (Fn.func (53:FuncId)) [] [.ptr 0 0 0 0],uu,uu,.lit (.int .i64 (0:Int)),j49,.ro (List.map bD s9),.lit (.int .i64 sR),.lit (.int .i64 sP),.junk,.junk,.junk,.junk,.junk,.junk,.junk,.junk,.junk,.junk],[.box [.lit (.int .i64 s11),.lit (.int .i64 sE),.lit (.int .i64 sS),.lit (.int .i64 sK),.ro (List.map an sD),.ro (List.map (aF IntKind.u64) sd),.ro (List.map aK sH),.ro (List.map bD s9)],.box [.lit (.bool false)],.box [.lit (.int .i64 s11),.lit (.int .i64 sE),.lit (.int .i64 sS),.lit (.int .i64 sK),.ro (List.map an sD),.ro (List.map (aF IntKind.u64) sd),.ro (List.map aK sH),.ro (List.map bD s9)]]⟩=ob (bX k   n s9 sR sD sP) fun r=>some ((.lit (.int .i64 r),[.box [.lit (.int .i64 s11),.lit (.int .i64 sE),.lit (.int .i64 sS),.lit (.int .i64 sK),.ro (List.map an sD),.ro (List.map (aF IntKind.u64) sd),.ro (List.map aK sH),.ro (List.map bD s9)],.box [.lit (.bool false)],.box [.lit (.int .i64 s11),.lit (.int .i64 sE),.lit (.int .i64 sS),.lit (.int .i64 sK),.ro (List.map an sD),.ro (List.map (aF IntKind.u64) sd),.ro (List.map aK sH),.ro (List.map bD s9)]])):=by
 intro n
 induction n with
 | zero=>intros;rfl
 | succ n ih=>
  intro s9 sR sD sP s11 sE sS sK sd sH j49
  rw [bX]
  simp (maxSteps:=2000000) -implicitDefEqProofs only [aei,abS,aao,EW,D3,Ej,eD,eC,lU,lE,ov,aey,acl,aH (g:=51),Rv,Ov,aer,ZZ,ES,Ff,EQ,Dn,E6,Es,E2,EX,lS,aeo,abM,EU,lA,aes,abC,aet,abw,adZ,Fg,E0,ld,lF,J2,HL,Iy,kS,cP,ael,abO,aaP,DK,lN,↓syP,syA,syD,simprocAttr,syE,ah,ag,ae,syW,xQ,nG,Je,ih]
def ee (k:Nat) (v0:Typ)  : Nat→Int→Option Bool
 | 0,_=>none
 | n+1,s67=>
 bif decide (s67<(↑v0.2.2.2.1.length:Int)) then
 ob (idx v0.2.2.2.1 s67) fun xZ=>
 ob (i9 (k+9) (v0.1.1,v0.1.2.1,v0.1.2.2.1,v0.1.2.2.2) v0.2.1 v0.2.2.1 s67 (xZ.1,xZ.2.1,(xZ.2.2.1.1,xZ.2.2.1.2.1,xZ.2.2.1.2.2.1,xZ.2.2.1.2.2.2.1,xZ.2.2.1.2.2.2.2.1,xZ.2.2.1.2.2.2.2.2.1,xZ.2.2.1.2.2.2.2.2.2),xZ.2.2.2.1,xZ.2.2.2.2)) fun xo=>
 bif !xo then
 some (false)
 else
 ee k v0  n (IntKind.i64.wrap (s67+(1:Int)))
 else
 ob (bX k (k+32) v0.2.2.2.2 (↑v0.2.2.2.2.length:Int) v0.2.1 (0:Int)) fun xp=>
 some (!decide ((0:Int)≤xp))
theorem ua (k:Nat) (v0_0_0 v0_0_1 v0_0_2 v0_0_3:Int) (v0_1:Tyt) (v0_2:List Int) (v0_3:List Tyw) (v0_4:List Tys):∀ (n:Nat) (s67:Int) ⦃s3 s4:Bool⦄ ⦃j65 j66:V⦄,rt none (bq (itX (xX (xS (k+33)) 94 0 (k+33) false) rH (4) (au (xX (xS (k+33)) 94 0 (k+33) false) (ap (xS (k+33)).P Tryz.f94) IZ) n ⟨[.yld 3,.ptr 2 0 0 0,uu,j65,j66,.ptr 2 0 0 6,.ro (List.map aK v0_3),.lit (.int .i64 (↑v0_3.length:Int)),.lit (.int .i64 s67),.junk,.junk,.junk,.junk,.junk,.junk,.junk,.junk,.junk,.junk,.junk,.junk,.junk,.junk,.junk,.junk,.junk,.junk,.junk,.junk,.junk],[.box [.lit (.int .i64 v0_0_0),.lit (.int .i64 v0_0_1),.lit (.int .i64 v0_0_2),.lit (.int .i64 v0_0_3),.ro (List.map an v0_1),.ro (List.map (aF IntKind.u64) v0_2),.ro (List.map aK v0_3),.ro (List.map bD v0_4)],.box [.lit (.bool false)],.box [.lit (.int .i64 v0_0_0),.lit (.int .i64 v0_0_1),.lit (.int .i64 v0_0_2),.lit (.int .i64 v0_0_3),.ro (List.map an v0_1),.ro (List.map (aF IntKind.u64) v0_2),.ro (List.map aK v0_3),.ro (List.map bD v0_4)],(.loop ⟨LoopState.ready,none,20,[.agg [.lit (.int .i64 v0_0_0),.lit (.int .i64 v0_0_1),.lit (.int .i64 v0_0_2),.lit (.int .i64 v0_0_3),.ro (List.map an v0_1),.ro (List.map (aF IntKind.u64) v0_2),.ro (List.map aK v0_3),.ro (List.map bD v0_4)],.ptr 0 0 0 0,.ptr 1 0 0 0,.ptr 0 0 0 0,.agg [.lit (.int .i64 v0_0_0),.lit (.int .i64 v0_0_1),.lit (.int .i64 v0_0_2),.lit (.int .i64 v0_0_3)],.lit (.bool s3),.lit (.bool s4),.lit (.bool false),.ptr 0 0 0 6,.ro (List.map aK v0_3),.lit (.int .i64 (↑v0_3.length:Int)),.ptr 0 0 0 0,.ptr 0 0 0 0,.lit (.int .i64 v0_0_0),.lit (.bool ((↑v0_3.length:Int)!=v0_0_0)),.lit (.bool ((↑v0_3.length:Int)!=v0_0_0)),.lit (.bool false),.ptr 0 0 0 7,.ro (List.map bD v0_4),.lit (.int .i64 (↑v0_4.length:Int)),.lit (.bool (decide ((3:Int)<(↑v0_4.length:Int)))),.lit (.bool (decide ((3:Int)<(↑v0_4.length:Int)))),.agg [.lit (.int .i64 v0_0_0),.lit (.int .i64 v0_0_1),.lit (.int .i64 v0_0_2),.lit (.int .i64 v0_0_3),.ro (List.map an v0_1),.ro (List.map (aF IntKind.u64) v0_2),.ro (List.map aK v0_3),.ro (List.map bD v0_4)],.fn (Fn.func (94:FuncId)) [] [.ptr 2 0 0 0],uu,uu,uu,uu,uu,uu],[(24:Tmp)],LQ,Nh⟩)]⟩) (rfK (au (xX (xS (k+34)) 20 0 (k+34) false) (ap (xS (k+34)).P Tryz.f20) IN) [.agg [.lit (.int .i64 v0_0_0),.lit (.int .i64 v0_0_1),.lit (.int .i64 v0_0_2),.lit (.int .i64 v0_0_3),.ro (List.map an v0_1),.ro (List.map (aF IntKind.u64) v0_2),.ro (List.map aK v0_3),.ro (List.map bD v0_4)],.ptr 0 0 0 0,.ptr 1 0 0 0,.ptr 0 0 0 0,.agg [.lit (.int .i64 v0_0_0),.lit (.int .i64 v0_0_1),.lit (.int .i64 v0_0_2),.lit (.int .i64 v0_0_3)],.lit (.bool s3),.lit (.bool s4),.lit (.bool false),.ptr 0 0 0 6,.ro (List.map aK v0_3),.lit (.int .i64 (↑v0_3.length:Int)),.ptr 0 0 0 0,.ptr 0 0 0 0,.lit (.int .i64 v0_0_0),.lit (.bool ((↑v0_3.length:Int)!=v0_0_0)),.lit (.bool ((↑v0_3.length:Int)!=v0_0_0)),.lit (.bool false),.ptr 0 0 0 7,.ro (List.map bD v0_4),.lit (.int .i64 (↑v0_4.length:Int)),.lit (.bool (decide ((3:Int)<(↑v0_4.length:Int)))),.lit (.bool (decide ((3:Int)<(↑v0_4.length:Int)))),.agg [.lit (.int .i64 v0_0_0),.lit (.int .i64 v0_0_1),.lit (.int .i64 v0_0_2),.lit (.int .i64 v0_0_3),.ro (List.map an v0_1),.ro (List.map (aF IntKind.u64) v0_2),.ro (List.map aK v0_3),.ro (List.map bD v0_4)],.fn (Fn.func (94:FuncId)) [] [.ptr 2 0 0 0],uu,uu,uu,uu,uu,uu] (3)))=ob (ee k ((v0_0_0,v0_0_1,v0_0_2,v0_0_3),v0_1,v0_2,v0_3,v0_4)  n s67) fun r=>some ((.lit (.bool r)),[]):=by
 intro n
 induction n with
 | zero=>intros;rfl
 | succ n ih=>
  intro s67 s3 s4 j65 j66
  rw [ee]
  simp (maxSteps:=2000000) -implicitDefEqProofs only [aei,abS,aao,EW,D3,Ej,eD,eC,lU,lE,ov,aey,acl,aH (g:=51),Rv,Ov,aer,ZZ,ES,Ff,EQ,Dn,E6,Es,E2,EX,lS,aeo,abM,EU,lA,aes,abC,aet,abw,adZ,Fg,E0,ld,lF,J2,HL,Iy,kS,cP,ael,abO,aaP,DK,lN,↓syP,syA,syD,simprocAttr,syE,ah,ag,ae,syW,xQ,cD,BB,nB,UF,ih]
def eF (k:Nat) (v0:Typ):Option Bool:=
 ob (cw v0.1) fun xa=>
 bif !xa then
 some false
 else
 bif (↑v0.2.2.2.1.length:Int)!=v0.1.1 then
 some false
 else
 bif decide (3<(↑v0.2.2.2.2.length:Int)) then
 some false
 else
 ee k v0 (k+33) 0
theorem dU (k:Nat) (v0_0_0 v0_0_1 v0_0_2 v0_0_3:Int) (v0_1:Tyt) (v0_2:List Int) (v0_3:List Tyw) (v0_4:List Tys):xC (k+35) none 20 [.agg [.lit (.int .i64 v0_0_0),.lit (.int .i64 v0_0_1),.lit (.int .i64 v0_0_2),.lit (.int .i64 v0_0_3),.ro (List.map an v0_1),.ro (List.map (aF .u64) v0_2),.ro (List.map aK v0_3),.ro (List.map bD v0_4)]]=ob (eF k ((v0_0_0,v0_0_1,v0_0_2,v0_0_3),v0_1,v0_2,v0_3,v0_4)) fun r=>some ((.lit (.bool r)),[]):=by
 rw [aH]
 unfold eF
 simp (maxSteps:=2000000) -implicitDefEqProofs only [aei,abS,aao,EW,D3,Ej,eD,eC,lU,lE,ov,aey,acl,aH (g:=51),Rv,Ov,aer,ZZ,ES,Ff,EQ,Dn,E6,Es,E2,EX,lS,aeo,abM,EU,lA,aes,abC,aet,abw,adZ,Fg,E0,ld,lF,J2,HL,Iy,kS,cP,ael,abO,aaP,DK,lN,↓syP,syA,syD,simprocAttr,syE,ah,ag,ae,syW,xQ,cD,ua k v0_0_0 v0_0_1 v0_0_2 v0_0_3 v0_1 v0_2 v0_3 v0_4]
end Go.Ab
set_option maxRecDepth 100000
set_option linter.unusedVariables false
set_option linter.unusedSimpArgs false
namespace Go.Ab
open Go.Proofs
def cS (k:Nat)   : Nat→Int→Int→Int→Int→Tyt→List Int→List Tyw→List Tys→Int→List Tyw→Int→List Tys→Option (Int×Int×Int×Int×Tyt×List Int×List Tyw×List Tys×List Tyw×List Tys)
 | 0,_,_,_,_,_,_,_,_,_,_,_,_=>none
 | n+1,sW,sp,sq,sr,sl,sm,sg,sU,se,s47,ss,sP=>
 bif decide (ss<se) then
 bif decide ((0:Int)≤ss∧ss.toNat<sU.length) then
 ob (sP[ss.toNat]?) fun xo=>
 ob (aQ 8 xo.2.1) fun xp=>
 bif decide ((0:Int)≤ss∧ss.toNat<sU.length) then
 ob (sP[ss.toNat]?) fun xa=>
 cS k   n (sW) (sp) (sq) (sr) (sl) (sm) (sg) (sU) (se) (s47) (IntKind.i64.wrap (ss+(1:Int))) (sP.set ss.toNat (xa.1,xp,xa.2.2.1,xa.2.2.2.1,xa.2.2.2.2.1,xa.2.2.2.2.2.1,xa.2.2.2.2.2.2.1,xa.2.2.2.2.2.2.2.1,xa.2.2.2.2.2.2.2.2))
 else
 none
 else
 none
 else
 some (sW,sp,sq,sr,sl,sm,sg,sU,s47,sP)
theorem n9 (k:Nat)  : ∀ (n:Nat) (sW sp sq sr:Int) (sl:Tyt) (sm:List Int) (sg:List Tyw) (sU:List Tys) (se:Int) (s47:List Tyw) (ss:Int) (sP:List Tys) ⦃sC:Tyt⦄ ⦃sF:List Int⦄ ⦃s32:List Tyw⦄ ⦃s33:List Tys⦄ ⦃su:Int⦄ ⦃j46 j48:V⦄,itX (xX (xS (k+61)) 41 0 (k+61) false) HQ (8) (au (xX (xS (k+61)) 41 0 (k+61) false) (ap (xS (k+61)).P Tryz.f41) Ir) n ⟨[.agg [.lit (.int .i64 sW),.lit (.int .i64 sp),.lit (.int .i64 sq),.lit (.int .i64 sr),.ro (List.map an sC),.ro (List.map (aF IntKind.u64) sF),.ro (List.map aK s32),.ro (List.map bD s33)],.ptr 0 0 0 0,.ptr 5 0 0 0,j46,j48,.ptr 0 0 0 4,.ro (List.map an sC),.ro (List.map an sl),.ptr 0 0 0 5,.ro (List.map (aF IntKind.u64) sF),.ro (List.map (aF IntKind.u64) sm),.ptr 0 0 0 4,.ptr 0 0 0 5,.ptr 0 0 0 6,.ro (List.map aK s32),.own 6 0 sg.length,.ptr 0 0 0 7,.ro (List.map bD s33),.own 7 0 sU.length,.ptr 0 0 0 6,.ptr 0 0 0 7,.ptr 0 0 0 6,.own 6 0 sg.length,.lit (.int .i64 su),.junk,.junk,.junk,.junk,.junk,.junk,.junk,.junk,.junk,.junk,.junk,.junk,.junk,.junk,.junk,.junk,.ptr 0 0 0 7,.own 7 0 sU.length,.lit (.int .i64 se),.lit (.int .i64 ss),.junk,.junk,.junk,.junk,.junk,.junk,.junk,.junk,.junk,.junk,.junk,.junk,.junk,.junk,.junk,uu],[.box [.lit (.int .i64 sW),.lit (.int .i64 sp),.lit (.int .i64 sq),.lit (.int .i64 sr),.ro (List.map an sl),.ro (List.map (aF IntKind.u64) sm),.own 6 0 sg.length,.own 7 0 sU.length],.rows 0 [] 0 true,.rows 0 [] 0 true,.rows 0 [] 0 true,.rows 0 [] 0 true,.box [.lit (.int .i64 (0:Int)),.lit (.int .i64 (0:Int)),.lit (.int .i64 (0:Int)),.lit (.int .i64 (0:Int)),.own 1 0 0,.own 2 0 0,.own 3 0 0,.own 4 0 0],.rows 11 (List.map aK s47) 0 true,.rows 9 (List.map bD sP) 0 true]⟩=ob (cS k   n sW sp sq sr sl sm sg sU se s47 ss sP) fun r=>some ((.agg [.lit (.int .i64 r.1),.lit (.int .i64 r.2.1),.lit (.int .i64 r.2.2.1),.lit (.int .i64 r.2.2.2.1),.ro (List.map an r.2.2.2.2.1),.ro (List.map (aF IntKind.u64) r.2.2.2.2.2.1),.own 6 0 r.2.2.2.2.2.2.1.length,.own 7 0 r.2.2.2.2.2.2.2.1.length],[.box [.lit (.int .i64 r.1),.lit (.int .i64 r.2.1),.lit (.int .i64 r.2.2.1),.lit (.int .i64 r.2.2.2.1),.ro (List.map an r.2.2.2.2.1),.ro (List.map (aF IntKind.u64) r.2.2.2.2.2.1),.own 6 0 r.2.2.2.2.2.2.1.length,.own 7 0 r.2.2.2.2.2.2.2.1.length],.rows 0 [] 0 true,.rows 0 [] 0 true,.rows 0 [] 0 true,.rows 0 [] 0 true,.box [.lit (.int .i64 r.1),.lit (.int .i64 r.2.1),.lit (.int .i64 r.2.2.1),.lit (.int .i64 r.2.2.2.1),.ro (List.map an r.2.2.2.2.1),.ro (List.map (aF IntKind.u64) r.2.2.2.2.2.1),.own 6 0 r.2.2.2.2.2.2.1.length,.own 7 0 r.2.2.2.2.2.2.2.1.length],.rows 11 (List.map aK r.2.2.2.2.2.2.2.2.1) 0 true,.rows 9 (List.map bD r.2.2.2.2.2.2.2.2.2) 0 true])):=by
 intro n
 induction n with
 | zero=>intros;rfl
 | succ n ih=>
  intro sW sp sq sr sl sm sg sU se s47 ss sP sC sF s32 s33 su j46 j48
  rw [cS]
  simp (maxSteps:=2000000) -implicitDefEqProofs only [Uw,Qg,P1,pm,fk,UC,OC,QD,oZ,o9,fx,fy,aH (g:=41),SK,Oz,pa,fj,TH,Rr,Tl,OG,Tq,PY,↓syP,syA,syD,simprocAttr,syE,ah,ag,ae,syW,xQ,TO,ih]
def bY (k:Nat)   : Nat→Int→Int→Int→Int→Tyt→List Int→List Tyw→List Tys→Int→Int→List Tyw→Option (Int×Int×Int×Int×Tyt×List Int×List Tyw×List Tys×List Tyw×List Tys)
 | 0,_,_,_,_,_,_,_,_,_,_,_=>none
 | n+1,s6,s7,s8,s9,sK,sD,sd,sH,s18,sB,sN=>
 bif decide (sB<s18) then
 bif decide ((0:Int)≤sB∧sB.toNat<sd.length) then
 ob (sN[sB.toNat]?) fun xq=>
 ob (aQ 24 xq.2.1) fun xr=>
 bif decide ((0:Int)≤sB∧sB.toNat<sd.length) then
 ob (sN[sB.toNat]?) fun xb=>
 bY k   n (s6) (s7) (s8) (s9) (sK) (sD) (sd) (sH) (s18) (IntKind.i64.wrap (sB+(1:Int))) (sN.set sB.toNat (xb.1,xr,(xb.2.2.1.1,xb.2.2.1.2.1,xb.2.2.1.2.2.1,xb.2.2.1.2.2.2.1,xb.2.2.1.2.2.2.2.1,xb.2.2.1.2.2.2.2.2.1,xb.2.2.1.2.2.2.2.2.2),xb.2.2.2.1,xb.2.2.2.2))
 else
 none
 else
 none
 else
 cS k  (k+61) (s6) (s7) (s8) (s9) (sK) (sD) (sd) (sH) ((↑sH.length:Int)) (sN) ((0:Int)) (sH)
theorem cF (k:Nat)  : ∀ (n:Nat) (s6 s7 s8 s9:Int) (sK:Tyt) (sD:List Int) (sd:List Tyw) (sH:List Tys) (s18 sB:Int) (sN:List Tyw) ⦃sR:Tyt⦄ ⦃s11:List Int⦄ ⦃sE:List Tyw⦄ ⦃sS:List Tys⦄ ⦃j22:V⦄,itX (xX (xS (k+61)) 41 0 (k+61) false) Jd (8) (au (xX (xS (k+61)) 41 0 (k+61) false) (ap (xS (k+61)).P Tryz.f41) Ij) n ⟨[.agg [.lit (.int .i64 s6),.lit (.int .i64 s7),.lit (.int .i64 s8),.lit (.int .i64 s9),.ro (List.map an sR),.ro (List.map (aF IntKind.u64) s11),.ro (List.map aK sE),.ro (List.map bD sS)],.ptr 0 0 0 0,.ptr 5 0 0 0,j22,uu,.ptr 0 0 0 4,.ro (List.map an sR),.ro (List.map an sK),.ptr 0 0 0 5,.ro (List.map (aF IntKind.u64) s11),.ro (List.map (aF IntKind.u64) sD),.ptr 0 0 0 4,.ptr 0 0 0 5,.ptr 0 0 0 6,.ro (List.map aK sE),.own 6 0 sd.length,.ptr 0 0 0 7,.ro (List.map bD sS),.own 7 0 sH.length,.ptr 0 0 0 6,.ptr 0 0 0 7,.ptr 0 0 0 6,.own 6 0 sd.length,.lit (.int .i64 s18),.lit (.int .i64 sB),.junk,.junk,.junk,.junk,.junk,.junk,.junk,.junk,.junk,.junk,.junk,.junk,.junk,.junk,.junk,uu,uu,uu,uu,uu,uu,uu,uu,uu,uu,uu,uu,uu,uu,uu,uu,uu,uu,uu,uu],[.box [.lit (.int .i64 s6),.lit (.int .i64 s7),.lit (.int .i64 s8),.lit (.int .i64 s9),.ro (List.map an sK),.ro (List.map (aF IntKind.u64) sD),.own 6 0 sd.length,.own 7 0 sH.length],.rows 0 [] 0 true,.rows 0 [] 0 true,.rows 0 [] 0 true,.rows 0 [] 0 true,.box [.lit (.int .i64 (0:Int)),.lit (.int .i64 (0:Int)),.lit (.int .i64 (0:Int)),.lit (.int .i64 (0:Int)),.own 1 0 0,.own 2 0 0,.own 3 0 0,.own 4 0 0],.rows 11 (List.map aK sN) 0 true,.rows 9 (List.map bD sH) 0 true]⟩=ob (bY k   n s6 s7 s8 s9 sK sD sd sH s18 sB sN) fun r=>some ((.agg [.lit (.int .i64 r.1),.lit (.int .i64 r.2.1),.lit (.int .i64 r.2.2.1),.lit (.int .i64 r.2.2.2.1),.ro (List.map an r.2.2.2.2.1),.ro (List.map (aF IntKind.u64) r.2.2.2.2.2.1),.own 6 0 r.2.2.2.2.2.2.1.length,.own 7 0 r.2.2.2.2.2.2.2.1.length],[.box [.lit (.int .i64 r.1),.lit (.int .i64 r.2.1),.lit (.int .i64 r.2.2.1),.lit (.int .i64 r.2.2.2.1),.ro (List.map an r.2.2.2.2.1),.ro (List.map (aF IntKind.u64) r.2.2.2.2.2.1),.own 6 0 r.2.2.2.2.2.2.1.length,.own 7 0 r.2.2.2.2.2.2.2.1.length],.rows 0 [] 0 true,.rows 0 [] 0 true,.rows 0 [] 0 true,.rows 0 [] 0 true,.box [.lit (.int .i64 r.1),.lit (.int .i64 r.2.1),.lit (.int .i64 r.2.2.1),.lit (.int .i64 r.2.2.2.1),.ro (List.map an r.2.2.2.2.1),.ro (List.map (aF IntKind.u64) r.2.2.2.2.2.1),.own 6 0 r.2.2.2.2.2.2.1.length,.own 7 0 r.2.2.2.2.2.2.2.1.length],.rows 11 (List.map aK r.2.2.2.2.2.2.2.2.1) 0 true,.rows 9 (List.map bD r.2.2.2.2.2.2.2.2.2) 0 true])):=by
 intro n
 induction n with
 | zero=>intros;rfl
 | succ n ih=>
  intro s6 s7 s8 s9 sK sD sd sH s18 sB sN sR s11 sE sS j22
  rw [bY]
  simp (maxSteps:=2000000) -implicitDefEqProofs only [Uw,Qg,P1,pm,fk,UC,OC,QD,oZ,o9,fx,fy,aH (g:=41),SK,Oz,pa,fj,TH,Rr,Tl,OG,Tq,PY,↓syP,syA,syD,simprocAttr,syE,ah,ag,ae,syW,xQ,TC,ih,n9 k ]
def bt (k:Nat) (v0:Typ) (v1:Tye)  : Nat→Int→Int→Int→Int→Tyt→List Tyw→List Tys→List Tyw→List Tys→Tye→Int→List Int→Nat→Option (Typ×Tye)
 | 0,_,_,_,_,_,_,_,_,_,_,_,_,_=>none
 | n+1,sI,sJ,sL,sM,sh,si,sf,sn,sj,sA,sZ,sa,sQ=>
 bif decide (sZ<(↑v1.length:Int)) then
 ob (idx v1 sZ) fun xD=>
 ob (gK (xD.1,xD.2.1,xD.2.2) v0.1.1 (↑v0.2.2.2.2.length:Int)) fun xv=>
 bif xv then
 bif xD.1==(0:Int) then
 bif decide ((0:Int)≤xD.2.1∧xD.2.1.toNat<si.length) then
 ob (sn[xD.2.1.toNat]?) fun xL=>
 ob (gX k (sI,sJ,sL,sM) sh sa xD.2.1 (xL.1,xL.2.1,(xL.2.2.1.1,xL.2.2.1.2.1,xL.2.2.1.2.2.1,xL.2.2.1.2.2.2.1,xL.2.2.1.2.2.2.2.1,xL.2.2.1.2.2.2.2.2.1,xL.2.2.1.2.2.2.2.2.2),xL.2.2.2.1,xL.2.2.2.2) xD.2.2) fun xI=>
 bif decide ((0:Int)≤xD.2.1∧xD.2.1.toNat<si.length) then
 ob (sn[xD.2.1.toNat]?) fun xE=>
 ck (sQ==3||sQ==0) (
 bif room (sA++xI.2.2).length 24 then
 bt k v0 v1  n (sI) (sJ) (sL) (sM) (sh) (si) (sf) (sn.set xD.2.1.toNat (xI.2.1.1,xI.2.1.2.1,(xI.2.1.2.2.1.1,xI.2.1.2.2.1.2.1,xI.2.1.2.2.1.2.2.1,xI.2.1.2.2.1.2.2.2.1,xI.2.1.2.2.1.2.2.2.2.1,xI.2.1.2.2.1.2.2.2.2.2.1,xI.2.1.2.2.1.2.2.2.2.2.2),xI.2.1.2.2.2.1,xI.2.1.2.2.2.2)) (sj) (sA++xI.2.2) (IntKind.i64.wrap (sZ+(1:Int))) (xI.1) (3)
 else
 none)
 else
 none
 else
 none
 else
 bif xD.1==(1:Int) then
 bif decide ((0:Int)≤xD.2.1∧xD.2.1.toNat<sf.length) then
 ob (sj[xD.2.1.toNat]?) fun xU=>
 ob (fg (k+36) (sI,sJ,sL,sM) sh sa (xU.1,xU.2.1,xU.2.2.1,xU.2.2.2.1,xU.2.2.2.2.1,xU.2.2.2.2.2.1,xU.2.2.2.2.2.2.1,xU.2.2.2.2.2.2.2.1,xU.2.2.2.2.2.2.2.2)) fun xi=>
 bif xi then
 bif decide ((0:Int)≤xD.2.1∧xD.2.1.toNat<sf.length) then
 ob (sj[xD.2.1.toNat]?) fun xV=>
 ob (fw (k+20) (sI,sJ,sL,sM) sh sa xD.2.1 (xV.1,xV.2.1,xV.2.2.1,xV.2.2.2.1,xV.2.2.2.2.1,xV.2.2.2.2.2.1,xV.2.2.2.2.2.2.1,xV.2.2.2.2.2.2.2.1,xV.2.2.2.2.2.2.2.2)) fun xJ=>
 bif decide ((0:Int)≤xD.2.1∧xD.2.1.toNat<sf.length) then
 ob (sj[xD.2.1.toNat]?) fun x158=>
 ck (sQ==3||sQ==0) (
 bif room (sA++xJ.2.2).length 24 then
 bt k v0 v1  n (sI) (sJ) (sL) (sM) (sh) (si) (sf) (sn) (sj.set xD.2.1.toNat (xJ.2.1.1,xJ.2.1.2.1,xJ.2.1.2.2.1,xJ.2.1.2.2.2.1,xJ.2.1.2.2.2.2.1,xJ.2.1.2.2.2.2.2.1,xJ.2.1.2.2.2.2.2.2.1,xJ.2.1.2.2.2.2.2.2.2.1,xJ.2.1.2.2.2.2.2.2.2.2)) (sA++xJ.2.2) (IntKind.i64.wrap (sZ+(1:Int))) (xJ.1) (3)
 else
 none)
 else
 none
 else
 none
 else
 ck (sQ==3||sQ==0) (
 bif room sA.length 24 then
 bt k v0 v1  n (sI) (sJ) (sL) (sM) (sh) (si) (sf) (sn) (sj) (sA) (IntKind.i64.wrap (sZ+(1:Int))) (sa) (3)
 else
 none)
 else
 none
 else
 bif xD.1==(2:Int) then
 ob (bw sa (3:Int) (1:Int)) fun xk=>
 ck (sQ==3||sQ==0) (
 bif room sA.length 24 then
 bt k v0 v1  n (sI) (sJ) (sL) (sM) (sh) (si) (sf) (sn) (sj) (sA) (IntKind.i64.wrap (sZ+(1:Int))) (xk) (3)
 else
 none)
 else
 ck (sQ==3||sQ==0) (
 bif room sA.length 24 then
 bt k v0 v1  n (sI) (sJ) (sL) (sM) (sh) (si) (sf) (sn) (sj) (sA) (IntKind.i64.wrap (sZ+(1:Int))) (sa) (3)
 else
 none)
 else
 bt k v0 v1  n (sI) (sJ) (sL) (sM) (sh) (si) (sf) (sn) (sj) (sA) (IntKind.i64.wrap (sZ+(1:Int))) (sa) (sQ)
 else
 ck (decide (si.length≤sn.length)) (
 ck (decide (sf.length≤sj.length)) (
 some ((((sI),(sJ),(sL),(sM)),(sh),(sa),(List.take si.length sn),(List.take sf.length sj)),(sA))))
theorem mo (k:Nat) (v0_0_0 v0_0_1 v0_0_2 v0_0_3:Int) (v0_1:Tyt) (v0_2:List Int) (v0_3:List Tyw) (v0_4:List Tys) (v1:Tye):∀ (n:Nat) (sI sJ sL sM:Int) (sh:Tyt) (si:List Tyw) (sf:List Tys) (sn:List Tyw) (sj:List Tys) (sA:Tye) (sZ:Int) (sa:List Int) (sQ:Nat) ⦃s91:List Int⦄ ⦃s94 s95:Bool⦄ ⦃sG:Nat⦄ ⦃j117:V⦄,rt none (itX (xX (xS (k+62)) 17 0 (k+62) false) wB (15) (au (xX (xS (k+62)) 17 0 (k+62) false) (ap (xS (k+62)).P Tryz.f17) AU) n ⟨[.agg [.lit (.int .i64 v0_0_0),.lit (.int .i64 v0_0_1),.lit (.int .i64 v0_0_2),.lit (.int .i64 v0_0_3),.ro (List.map an v0_1),.ro (List.map (aF IntKind.u64) v0_2),.ro (List.map aK v0_3),.ro (List.map bD v0_4)],.ro (List.map eP v1),.ptr 0 0 0 0,uu,.ptr 5 0 0 0,.own 6 0 0,.ptr 13 0 0 0,.own 14 sG sA.length,uu,j117,.agg [.lit (.int .i64 v0_0_0),.lit (.int .i64 v0_0_1),.lit (.int .i64 v0_0_2),.lit (.int .i64 v0_0_3),.ro (List.map an v0_1),.ro (List.map (aF IntKind.u64) v0_2),.ro (List.map aK v0_3),.ro (List.map bD v0_4)],.agg [.lit (.int .i64 sI),.lit (.int .i64 sJ),.lit (.int .i64 sL),.lit (.int .i64 sM),.ro (List.map an sh),.ro (List.map (aF IntKind.u64) s91),.own 7 0 si.length,.own 8 0 sf.length],.agg [.lit (.int .i64 v0_0_0),.lit (.int .i64 v0_0_1),.lit (.int .i64 v0_0_2),.lit (.int .i64 v0_0_3),.ro (List.map an v0_1),.ro (List.map (aF IntKind.u64) v0_2),.ro (List.map aK v0_3),.ro (List.map bD v0_4)],.lit (.bool s94),.lit (.bool s95),uu,.ro (List.map eP v1),.lit (.int .i64 (↑v1.length:Int)),.lit (.int .i64 sZ),.junk,.junk,.junk,.junk,.junk,.junk,.junk,.junk,.junk,.junk,.junk,.junk,.junk,.junk,.junk,.junk,uu,uu],[.box [.lit (.int .i64 v0_0_0),.lit (.int .i64 v0_0_1),.lit (.int .i64 v0_0_2),.lit (.int .i64 v0_0_3),.ro (List.map an v0_1),.ro (List.map (aF IntKind.u64) v0_2),.ro (List.map aK v0_3),.ro (List.map bD v0_4)],.rows 0 [] 0 true,.rows 0 [] 0 true,.rows 0 [] 0 true,.rows 0 [] 0 true,.box [.lit (.int .i64 (0:Int)),.lit (.int .i64 (0:Int)),.lit (.int .i64 (0:Int)),.lit (.int .i64 (0:Int)),.own 1 0 0,.own 2 0 0,.own 3 0 0,.own 4 0 0],.rows 0 [] 0 true,.rows 11 (List.map aK sn) 0 true,.rows 9 (List.map bD sj) 0 true,.rows 0 [] 0 true,.rows 0 [] 0 true,.rows 0 [] 0 true,.rows 0 [] 0 true,.box [.lit (.int .i64 sI),.lit (.int .i64 sJ),.lit (.int .i64 sL),.lit (.int .i64 sM),.ro (List.map an sh),.ro (List.map (aF IntKind.u64) sa),.own 7 0 si.length,.own 8 0 sf.length],.rows sQ (List.map aJ sA) sG true]⟩)=ob (bt k ((v0_0_0,v0_0_1,v0_0_2,v0_0_3),v0_1,v0_2,v0_3,v0_4) v1  n sI sJ sL sM sh si sf sn sj sA sZ sa sQ) fun r=>some ((.tup [.agg [.lit (.int .i64 r.1.1.1),.lit (.int .i64 r.1.1.2.1),.lit (.int .i64 r.1.1.2.2.1),.lit (.int .i64 r.1.1.2.2.2),.ro (List.map an r.1.2.1),.ro (List.map (aF .u64) r.1.2.2.1),.ro (List.map aK r.1.2.2.2.1),.ro (List.map bD r.1.2.2.2.2)],.ro (List.map aJ r.2)]),[]):=by
 intro n
 induction n with
 | zero=>intros;rfl
 | succ n ih=>
  intro sI sJ sL sM sh si sf sn sj sA sZ sa sQ s91 s94 s95 sG j117
  rw [bt]
  simp (maxSteps:=2000000) -implicitDefEqProofs only [Uw,Qg,P1,pm,fk,UC,OC,QD,oZ,o9,fx,fy,aH (g:=41),SK,Oz,pa,fj,TH,Rr,Tl,OG,Tq,PY,↓syP,syA,syD,simprocAttr,syE,ah,ag,ae,syW,xQ,dX,mJ,oI,wu,db,dU,u5,cF,IS,ih]
def fo (k:Nat) (v0:Typ) (v1:Tye):Option (Typ×Tye):=
 ob (dw (k+59) v0.2.1) fun xN=>
 ob (aQ 8 v0.2.2.1) fun xH=>
 ob (aQ 104 v0.2.2.2.1) fun xf=>
 ob (aQ 88 v0.2.2.2.2) fun xl=>
 ob (bY k (k+61) v0.1.1 v0.1.2.1 v0.1.2.2.1 v0.1.2.2.2 xN xH xf xl (↑xf.length:Int) 0 xf) fun xB=>
 ck (decide (xB.2.2.2.2.2.2.1.length≤xB.2.2.2.2.2.2.2.2.1.length)) (
 ck (decide (xB.2.2.2.2.2.2.2.1.length≤xB.2.2.2.2.2.2.2.2.2.length)) (
 ob (eF (k+27) v0) fun xm=>
 bif !xm then
 ck (decide (xB.2.2.2.2.2.2.1.length≤(List.take xB.2.2.2.2.2.2.1.length xB.2.2.2.2.2.2.2.2.1).length)) (
 ck (decide (xB.2.2.2.2.2.2.2.1.length≤(List.take xB.2.2.2.2.2.2.2.1.length xB.2.2.2.2.2.2.2.2.2).length)) (
 some (((xB.1,xB.2.1,xB.2.2.1,xB.2.2.2.1),xB.2.2.2.2.1,xB.2.2.2.2.2.1,(List.take xB.2.2.2.2.2.2.1.length (List.take xB.2.2.2.2.2.2.1.length xB.2.2.2.2.2.2.2.2.1)),(List.take xB.2.2.2.2.2.2.2.1.length (List.take xB.2.2.2.2.2.2.2.1.length xB.2.2.2.2.2.2.2.2.2))),[])))
 else
 bt k v0 v1 (k+62) xB.1 xB.2.1 xB.2.2.1 xB.2.2.2.1 xB.2.2.2.2.1 xB.2.2.2.2.2.2.1 xB.2.2.2.2.2.2.2.1 (List.take xB.2.2.2.2.2.2.1.length xB.2.2.2.2.2.2.2.2.1) (List.take xB.2.2.2.2.2.2.2.1.length xB.2.2.2.2.2.2.2.2.2) ([]) 0 xB.2.2.2.2.2.1 0))
theorem Bc (k:Nat) (v0_0_0 v0_0_1 v0_0_2 v0_0_3:Int) (v0_1:Tyt) (v0_2:List Int) (v0_3:List Tyw) (v0_4:List Tys) (v1:Tye):xC (k+63) none 17 [.agg [.lit (.int .i64 v0_0_0),.lit (.int .i64 v0_0_1),.lit (.int .i64 v0_0_2),.lit (.int .i64 v0_0_3),.ro (List.map an v0_1),.ro (List.map (aF .u64) v0_2),.ro (List.map aK v0_3),.ro (List.map bD v0_4)],.ro (List.map eP v1)]=ob (fo k ((v0_0_0,v0_0_1,v0_0_2,v0_0_3),v0_1,v0_2,v0_3,v0_4) v1) fun r=>some ((.tup [.agg [.lit (.int .i64 r.1.1.1),.lit (.int .i64 r.1.1.2.1),.lit (.int .i64 r.1.1.2.2.1),.lit (.int .i64 r.1.1.2.2.2),.ro (List.map an r.1.2.1),.ro (List.map (aF .u64) r.1.2.2.1),.ro (List.map aK r.1.2.2.2.1),.ro (List.map bD r.1.2.2.2.2)],.ro (List.map aJ r.2)]),[]):=by
 rw [aH]
 unfold fo
 have hl0:=fun (xK:Int×Int×Int×Int×Tyt×List Int×List Tyw×List Tys×List Tyw×List Tys)=>mo k v0_0_0 v0_0_1 v0_0_2 v0_0_3 v0_1 v0_2 v0_3 v0_4 v1 (k+62) (xK.fst) (xK.snd.fst) (xK.snd.snd.fst) (xK.snd.snd.snd.fst) (xK.snd.snd.snd.snd.fst) (xK.snd.snd.snd.snd.snd.snd.fst) (xK.snd.snd.snd.snd.snd.snd.snd.fst) (List.take xK.snd.snd.snd.snd.snd.snd.fst.length xK.snd.snd.snd.snd.snd.snd.snd.snd.fst) (List.take xK.snd.snd.snd.snd.snd.snd.snd.fst.length xK.snd.snd.snd.snd.snd.snd.snd.snd.snd) ([]) ((0:Int)) (xK.snd.snd.snd.snd.snd.fst) (0)
 try simp -implicitDefEqProofs only [List.map_nil,List.length_nil] at hl0
 simp (maxSteps:=2000000) -implicitDefEqProofs only [Uw,Qg,P1,pm,fk,UC,OC,QD,oZ,o9,fx,fy,aH (g:=41),SK,Oz,pa,fj,TH,Rr,Tl,OG,Tq,PY,↓syP,syA,syD,simprocAttr,syE,ah,ag,ae,syW,xQ,db,dU,cF,mo k v0_0_0 v0_0_1 v0_0_2 v0_0_3 v0_1 v0_2 v0_3 v0_4 v1,hl0]
 all_goals simp -implicitDefEqProofs only [List.map_nil]
end Go.Ab
set_option maxRecDepth 100000
set_option linter.unusedVariables false
set_option linter.unusedSimpArgs false
namespace Go.Ab
open Go.Proofs
def bL (k:Nat)   : Nat→Tyt→Int→Nat→List Int→Int→Nat→Option (Nat×List Int×Nat)
 | 0,_,_,_,_,_,_=>none
 | n+1,s7,sR,sE,sS,sD,sH=>
 bif decide (sD<sR) then
 ob (eU k s7 sD) fun x24=>
 bif x24==(-1:Int) then
 ck (sH==1||sH==0) (
 bif room (sS++[sD]).length 8 then
 bL k   n (s7) (sR) (sE+1) (sS++[sD]) (IntKind.i64.wrap (sD+(1:Int))) (1)
 else
 none)
 else
 bL k   n (s7) (sR) (sE) (sS) (IntKind.i64.wrap (sD+(1:Int))) (sH)
 else
 some (sE,sS,sH)
theorem de (k:Nat)  : ∀ (n:Nat) (s7:Tyt) (sR:Int) (sE:Nat) (sS:List Int) (sD:Int) (sH:Nat) ⦃s8 s9:Bool⦄ ⦃j14:V⦄,itX (xX (xS (k+20)) 57 0 (k+20) false) AV (2) (au (xX (xS (k+20)) 57 0 (k+20) false) (ap (xS (k+20)).P Tryz.f57) DW) n ⟨[.ro (List.map an s7),uu,.own 0 0 0,.own 1 sE sS.length,j14,.ro (List.map an s7),.lit (.bool s8),.lit (.bool s9),.ro (List.map an s7),.lit (.int .i64 sR),.lit (.int .i64 sD),.junk,.junk,.junk,.junk,.junk,.junk,.junk,.junk,.junk,.junk,.junk,uu],[.rows 0 [] 0 true,.rows sH (List.map (aF IntKind.i64) sS) sE true]⟩=ob (bL k   n s7 sR sE sS sD sH) fun r=>some ((.own 1 r.1 r.2.1.length,[.rows 0 [] 0 true,.rows r.2.2 (List.map (aF IntKind.i64) r.2.1) r.1 true])):=by
 intro n
 induction n with
 | zero=>intros;rfl
 | succ n ih=>
  intro s7 sR sE sS sD sH s8 s9 j14
  rw [bL]
  simp (maxSteps:=2000000) -implicitDefEqProofs only [abB,Zi,Zh,Bn,AW,Bb,Bl,By,iV,i5,iU,kc,ZI,Zj,Zf,Bm,i4,aH (g:=57),↓syP,syA,syD,simprocAttr,syE,ah,ag,ae,syW,xQ,u6,UG,ih]
theorem fR (k:Nat) (v1:Tyt):∀ ⦃s8 s9:Bool⦄ ⦃j14:V⦄,itX (xX (xS (k+20)) 57 0 (k+20) false) AV 2 (au (xX (xS (k+20)) 57 0 (k+20) false) (ap (xS (k+20)).P Tryz.f57) DW) (k+20) (St.mk [.ro (List.map an v1),uu,.own 0 0 0,.own 1 0 0,j14,.ro (List.map an v1),.lit (.bool s8),.lit (.bool s9),.ro (List.map an v1),.lit (.int .i64 (↑v1.length:Int)),.lit (.int .i64 (0:Int)),.junk,.junk,.junk,.junk,.junk,.junk,.junk,.junk,.junk,.junk,.junk,uu] [.rows 0 [] 0 true,.rows 0 [] 0 true])=ob (bL k (k+20) v1 (↑v1.length:Int) 0 [] (0:Int) 0) fun r ↦ some (.own 1 r.fst r.snd.fst.length,[.rows 0 [] 0 true,.rows r.snd.snd (List.map (aF IntKind.i64) r.snd.fst) r.fst true]):=by
 have h:=de k  (k+20) (v1) ((↑v1.length:Int)) (0) ([]) ((0:Int)) (0)
 simp -implicitDefEqProofs only [List.map_nil,List.length_nil] at h
 exact h
def cW (k:Nat) (v0:(Int×Int×Int×Int)) (v1:Tyt) (v2:(List (List Int))) (o0:Tyt→List Int→Nat→List Tyw→Int→List Tys→Nat→Nat→List Int→Option (Typ×Bool)):Nat→List Int→Tyt→List Int→Int→Nat→List Tyw→Nat→Int→List Int→Int→List Tys→Nat→Option (Typ×Bool)
 | 0,_,_,_,_,_,_,_,_,_,_,_,_=>none
 | n+1,sy,sI,sJ,sL,sM,sz,sV,s110,so,s130,sw,s134=>
 bif decide (s110<sL) then
 ob (idx sy s110) fun xk=>
 ck (decide (sV≤so.length)) (
 ob (dD (k+20) (List.take sV so) xk) fun xN=>
 bif decide (xN<(0:Int)) then
 some (((((0:Int)),((0:Int)),((0:Int)),((0:Int))),[],[],[],[]),(false))
 else
 ck (sM==1) (
 ck (decide (sV≤so.length∧(0:Int)≤xN∧xN<IntKind.i64.wrap (xN+(1:Int))∧(IntKind.i64.wrap (xN+(1:Int))).toNat≤sV∧sV≤9223372036854775807)) (
 cW k v0 v1 v2 o0 n (sy) (sI) (sJ) (sL) (1) (sz) (sV - ((IntKind.i64.wrap (xN+(1:Int))).toNat - xN.toNat)) (IntKind.i64.wrap (s110+(1:Int))) (Hd (List.take sV so) xN.toNat (IntKind.i64.wrap (xN+(1:Int))).toNat++List.drop sV so) (s130) (sw) (s134))))
 else
 ob (ix sy) fun xH=>
 ck (s134==9||s134==0) (
 bif room (sw++[(xH.1,xH.2.1,xH.2.2.1,xH.2.2.2.1,xH.2.2.2.2.1,xH.2.2.2.2.2.1,xH.2.2.2.2.2.2.1,xH.2.2.2.2.2.2.2.1,xH.2.2.2.2.2.2.2.2)]).length 88 then
 o0 (sI) (sJ) (sM) (sz) (IntKind.i64.wrap (s130+(1:Int))) (sw++[(xH.1,xH.2.1,xH.2.2.1,xH.2.2.2.1,xH.2.2.2.2.1,xH.2.2.2.2.2.1,xH.2.2.2.2.2.2.1,xH.2.2.2.2.2.2.2.1,xH.2.2.2.2.2.2.2.2)]) (9) (sV) (so)
 else
 none)
theorem rZ (k:Nat) (v0_0 v0_1 v0_2 v0_3:Int) (v1:Tyt) (v2:List (List Int)) (n56:Nat) (o0:Tyt→List Int→Nat→List Tyw→Int→List Tys→Nat→Nat→List Int→Option (Typ×Bool)) (ho0:∀ (sX:Tyt) (sY:List Int) (sv:Nat) (sk:List Tyw) (sT:Int) (sG:List Tys) (sA sb:Nat) (sc:List Int) ⦃s57:List Int⦄ ⦃s58 s59 s60 s61:Bool⦄ ⦃s76 s78 s114:Nat⦄ ⦃j75 j112 j136 j137:V⦄,rt none (itX (xX (xS (k+21)) 23 0 (k+21) false) rT (14) (au (xX (xS (k+21)) 23 0 (k+21) false) (ap (xS (k+21)).P Tryz.f23) AT) n56 ⟨(.agg [.lit (.int .i64 v0_0),.lit (.int .i64 v0_1),.lit (.int .i64 v0_2),.lit (.int .i64 v0_3)]::.ro (List.map an v1)::.ro (List.map eo v2)::.ptr 0 0 0 0::uu::uu::.ptr 5 0 0 0::.lit (.bool false)::.own 6 0 sb::.ptr 11 0 0 0::j75::uu::j112::uu::j136::j137::.agg [.lit (.int .i64 v0_0),.lit (.int .i64 v0_1),.lit (.int .i64 v0_2),.lit (.int .i64 v0_3)]::.lit (.bool s58)::.lit (.bool s59)::.lit (.bool false)::.ro (List.map an v1)::.lit (.bool s60)::.lit (.bool s61)::.lit (.bool s61)::.lit (.bool false)::.ro (List.map eo v2)::.lit (.int .i64 (↑v2.length:Int))::.lit (.bool (decide ((3:Int)<(↑v2.length:Int))))::.lit (.bool (decide ((3:Int)<(↑v2.length:Int))))::uu::.ro (List.map an v1)::.own 6 0 s57.length::.agg [.lit (.int .i64 v0_0),.lit (.int .i64 v0_1),.lit (.int .i64 v0_2),.lit (.int .i64 v0_3)]::.ro (List.map an v1)::.ro (List.map an sX)::.agg [.lit (.int .i64 v0_0),.lit (.int .i64 v0_1),.lit (.int .i64 v0_2),.lit (.int .i64 v0_3)]::.ro (List.map (aF IntKind.u64) sY)::.agg [.lit (.int .i64 v0_0),.lit (.int .i64 v0_1),.lit (.int .i64 v0_2),.lit (.int .i64 v0_3),.ro (List.map an sX),.ro (List.map (aF IntKind.u64) sY),.nil,.nil]::.ptr 0 0 0 0::.lit (.int .i64 v0_0)::.junk::.junk::.junk::.junk::.junk::.junk::.junk::.junk::.junk::.junk::.junk::.ro (List.map eo v2)::.lit (.int .i64 (↑v2.length:Int))::.lit (.int .i64 sT)::.junk::.junk::.junk::.junk::.junk::.junk::.junk::.junk::.junk::.junk::.junk::.junk::.junk::.junk::.junk::.junk::.junk::.junk::.junk::.junk::.junk::.junk::.junk::.junk::.junk::.junk::.junk::.junk::.junk::uu::[]),[.box [.lit (.int .i64 v0_0),.lit (.int .i64 v0_1),.lit (.int .i64 v0_2),.lit (.int .i64 v0_3)],.rows 0 [] 0 true,.rows 0 [] 0 true,.rows 0 [] 0 true,.rows 0 [] 0 true,.box [.lit (.int .i64 (0:Int)),.lit (.int .i64 (0:Int)),.lit (.int .i64 (0:Int)),.lit (.int .i64 (0:Int)),.own 1 0 0,.own 2 0 0,.own 3 0 0,.own 4 0 0],.rows sv (List.map (aF IntKind.i64) sc) 0 true,.rows 0 [] 0 true,.rows 0 [] 0 true,.rows 0 [] 0 true,.rows 0 [] 0 true,.box [.lit (.int .i64 v0_0),.lit (.int .i64 v0_1),.lit (.int .i64 v0_2),.lit (.int .i64 v0_3),.ro (List.map an sX),.ro (List.map (aF IntKind.u64) sY),.own 12 s76 sk.length,.own 13 s114 sG.length],.rows s78 (List.map aK sk) s76 true,.rows sA (List.map bD sG) s114 true]⟩)=ob (o0 sX sY sv sk sT sG sA sb sc) fun r=>some ((.tup [.agg [.lit (.int .i64 r.1.1.1),.lit (.int .i64 r.1.1.2.1),.lit (.int .i64 r.1.1.2.2.1),.lit (.int .i64 r.1.1.2.2.2),.ro (List.map an r.1.2.1),.ro (List.map (aF .u64) r.1.2.2.1),.ro (List.map aK r.1.2.2.2.1),.ro (List.map bD r.1.2.2.2.2)],.lit (.bool r.2)]),[])):∀ (n:Nat) (sy:List Int) (sI:Tyt) (sJ:List Int) (sL:Int) (sM:Nat) (sz:List Tyw) (sV:Nat) (s110:Int) (so:List Int) (s130:Int) (sw:List Tys) (s134:Nat) ⦃s80:List Int⦄ ⦃s82 s83 s84 s85:Bool⦄ ⦃s104 s106:Nat⦄ ⦃s131:Bool⦄ ⦃s132:Nat⦄ ⦃j103 j108 j109:V⦄,rt none (itX (xX (xS (k+21)) 23 0 (k+21) false) HT (14) (au (xX (xS (k+21)) 23 0 (k+21) false) (eq (xX (xS (k+21)) 23 0 (k+21) false) rT 14 (au (xX (xS (k+21)) 23 0 (k+21) false) (ap (xS (k+21)).P Tryz.f23) AT) n56) Jb) n ⟨(.agg [.lit (.int .i64 v0_0),.lit (.int .i64 v0_1),.lit (.int .i64 v0_2),.lit (.int .i64 v0_3)]::.ro (List.map an v1)::.ro (List.map eo v2)::.ptr 0 0 0 0::uu::uu::.ptr 5 0 0 0::.lit (.bool false)::.own 6 0 sV::.ptr 11 0 0 0::j103::uu::.ro (List.map (aF IntKind.i64) sy)::uu::j108::j109::.agg [.lit (.int .i64 v0_0),.lit (.int .i64 v0_1),.lit (.int .i64 v0_2),.lit (.int .i64 v0_3)]::.lit (.bool s82)::.lit (.bool s83)::.lit (.bool false)::.ro (List.map an v1)::.lit (.bool s84)::.lit (.bool s85)::.lit (.bool s85)::.lit (.bool false)::.ro (List.map eo v2)::.lit (.int .i64 (↑v2.length:Int))::.lit (.bool (decide ((3:Int)<(↑v2.length:Int))))::.lit (.bool (decide ((3:Int)<(↑v2.length:Int))))::uu::.ro (List.map an v1)::.own 6 0 s80.length::.agg [.lit (.int .i64 v0_0),.lit (.int .i64 v0_1),.lit (.int .i64 v0_2),.lit (.int .i64 v0_3)]::.ro (List.map an v1)::.ro (List.map an sI)::.agg [.lit (.int .i64 v0_0),.lit (.int .i64 v0_1),.lit (.int .i64 v0_2),.lit (.int .i64 v0_3)]::.ro (List.map (aF IntKind.u64) sJ)::.agg [.lit (.int .i64 v0_0),.lit (.int .i64 v0_1),.lit (.int .i64 v0_2),.lit (.int .i64 v0_3),.ro (List.map an sI),.ro (List.map (aF IntKind.u64) sJ),.nil,.nil]::.ptr 0 0 0 0::.lit (.int .i64 v0_0)::.junk::.junk::.junk::.junk::.junk::.junk::.junk::.junk::.junk::.junk::.junk::.ro (List.map eo v2)::.lit (.int .i64 (↑v2.length:Int))::.lit (.int .i64 s130)::.lit (.bool s131)::.rp [.ro (List.map (aF IntKind.i64) sy)]::.ro (List.map (aF IntKind.i64) sy)::.ro (List.map (aF IntKind.i64) sy)::.lit (.int .i64 sL)::.lit (.int .i64 s110)::.junk::.junk::.junk::.junk::.junk::.junk::.junk::.junk::.junk::.junk::.junk::.junk::.junk::.junk::.junk::.junk::.junk::.junk::.junk::.junk::.junk::.junk::.junk::uu::[]),[.box [.lit (.int .i64 v0_0),.lit (.int .i64 v0_1),.lit (.int .i64 v0_2),.lit (.int .i64 v0_3)],.rows 0 [] 0 true,.rows 0 [] 0 true,.rows 0 [] 0 true,.rows 0 [] 0 true,.box [.lit (.int .i64 (0:Int)),.lit (.int .i64 (0:Int)),.lit (.int .i64 (0:Int)),.lit (.int .i64 (0:Int)),.own 1 0 0,.own 2 0 0,.own 3 0 0,.own 4 0 0],.rows sM (List.map (aF IntKind.i64) so) 0 true,.rows 0 [] 0 true,.rows 0 [] 0 true,.rows 0 [] 0 true,.rows 0 [] 0 true,.box [.lit (.int .i64 v0_0),.lit (.int .i64 v0_1),.lit (.int .i64 v0_2),.lit (.int .i64 v0_3),.ro (List.map an sI),.ro (List.map (aF IntKind.u64) sJ),.own 12 s104 sz.length,.own 13 s132 sw.length],.rows s106 (List.map aK sz) s104 true,.rows s134 (List.map bD sw) s132 true]⟩)=ob (cW k (v0_0,v0_1,v0_2,v0_3) v1 v2 o0 n sy sI sJ sL sM sz sV s110 so s130 sw s134) fun r=>some ((.tup [.agg [.lit (.int .i64 r.1.1.1),.lit (.int .i64 r.1.1.2.1),.lit (.int .i64 r.1.1.2.2.1),.lit (.int .i64 r.1.1.2.2.2),.ro (List.map an r.1.2.1),.ro (List.map (aF .u64) r.1.2.2.1),.ro (List.map aK r.1.2.2.2.1),.ro (List.map bD r.1.2.2.2.2)],.lit (.bool r.2)]),[]):=by
 intro n
 induction n with
 | zero=>intros;rfl
 | succ n ih=>
  intro sy sI sJ sL sM sz sV s110 so s130 sw s134 s80 s82 s83 s84 s85 s104 s106 s131 s132 j103 j108 j109
  rw [cW]
  simp (maxSteps:=2000000) -implicitDefEqProofs only [abB,Zi,Zh,Bn,AW,Bb,Bl,By,iV,i5,iU,kc,ZI,Zj,Zf,Bm,i4,aH (g:=57),↓syP,syA,syD,simprocAttr,syE,ah,ag,ae,syW,xQ,da,cD,pn,gA,pI,mG,db,de,fR,TA,ih,ho0]
  all_goals simp -implicitDefEqProofs only [List.map_nil]
def cj (k:Nat) (v0:(Int×Int×Int×Int)) (v1:Tyt) (v2:(List (List Int)))  : Nat→Tyt→List Int→Nat→List Tyw→Int→List Tys→Nat→Nat→List Int→Option (Typ×Bool)
 | 0,_,_,_,_,_,_,_,_,_=>none
 | n+1,sX,sY,sv,sk,sT,sG,sA,sb,sc=>
 bif decide (sT<(↑v2.length:Int)) then
 ob (idx v2 sT) fun xi=>
 cW k v0 v1 v2 (fun sX sY sv sk sT sG sA sb sc=>cj k v0 v1 v2  n sX sY sv sk sT sG sA sb sc) (k+21) (xi) (sX) (sY) ((↑xi.length:Int)) (sv) (sk) (sb) ((0:Int)) (sc) (sT) (sG) (sA)
 else
 some ((((v0.1),(v0.2.1),(v0.2.2.1),(v0.2.2.2)),(sX),(sY),(sk),(sG)),(true))
theorem mv (k:Nat) (v0_0 v0_1 v0_2 v0_3:Int) (v1:Tyt) (v2:List (List Int)):∀ (n:Nat) (sX:Tyt) (sY:List Int) (sv:Nat) (sk:List Tyw) (sT:Int) (sG:List Tys) (sA sb:Nat) (sc:List Int) ⦃s57:List Int⦄ ⦃s58 s59 s60 s61:Bool⦄ ⦃s76 s78 s114:Nat⦄ ⦃j75 j112 j136 j137:V⦄,rt none (itX (xX (xS (k+21)) 23 0 (k+21) false) rT (14) (au (xX (xS (k+21)) 23 0 (k+21) false) (ap (xS (k+21)).P Tryz.f23) AT) n ⟨(.agg [.lit (.int .i64 v0_0),.lit (.int .i64 v0_1),.lit (.int .i64 v0_2),.lit (.int .i64 v0_3)]::.ro (List.map an v1)::.ro (List.map eo v2)::.ptr 0 0 0 0::uu::uu::.ptr 5 0 0 0::.lit (.bool false)::.own 6 0 sb::.ptr 11 0 0 0::j75::uu::j112::uu::j136::j137::.agg [.lit (.int .i64 v0_0),.lit (.int .i64 v0_1),.lit (.int .i64 v0_2),.lit (.int .i64 v0_3)]::.lit (.bool s58)::.lit (.bool s59)::.lit (.bool false)::.ro (List.map an v1)::.lit (.bool s60)::.lit (.bool s61)::.lit (.bool s61)::.lit (.bool false)::.ro (List.map eo v2)::.lit (.int .i64 (↑v2.length:Int))::.lit (.bool (decide ((3:Int)<(↑v2.length:Int))))::.lit (.bool (decide ((3:Int)<(↑v2.length:Int))))::uu::.ro (List.map an v1)::.own 6 0 s57.length::.agg [.lit (.int .i64 v0_0),.lit (.int .i64 v0_1),.lit (.int .i64 v0_2),.lit (.int .i64 v0_3)]::.ro (List.map an v1)::.ro (List.map an sX)::.agg [.lit (.int .i64 v0_0),.lit (.int .i64 v0_1),.lit (.int .i64 v0_2),.lit (.int .i64 v0_3)]::.ro (List.map (aF IntKind.u64) sY)::.agg [.lit (.int .i64 v0_0),.lit (.int .i64 v0_1),.lit (.int .i64 v0_2),.lit (.int .i64 v0_3),.ro (List.map an sX),.ro (List.map (aF IntKind.u64) sY),.nil,.nil]::.ptr 0 0 0 0::.lit (.int .i64 v0_0)::.junk::.junk::.junk::.junk::.junk::.junk::.junk::.junk::.junk::.junk::.junk::.ro (List.map eo v2)::.lit (.int .i64 (↑v2.length:Int))::.lit (.int .i64 sT)::.junk::.junk::.junk::.junk::.junk::.junk::.junk::.junk::.junk::.junk::.junk::.junk::.junk::.junk::.junk::.junk::.junk::.junk::.junk::.junk::.junk::.junk::.junk::.junk::.junk::.junk::.junk::.junk::.junk::uu::[]),[.box [.lit (.int .i64 v0_0),.lit (.int .i64 v0_1),.lit (.int .i64 v0_2),.lit (.int .i64 v0_3)],.rows 0 [] 0 true,.rows 0 [] 0 true,.rows 0 [] 0 true,.rows 0 [] 0 true,.box [.lit (.int .i64 (0:Int)),.lit (.int .i64 (0:Int)),.lit (.int .i64 (0:Int)),.lit (.int .i64 (0:Int)),.own 1 0 0,.own 2 0 0,.own 3 0 0,.own 4 0 0],.rows sv (List.map (aF IntKind.i64) sc) 0 true,.rows 0 [] 0 true,.rows 0 [] 0 true,.rows 0 [] 0 true,.rows 0 [] 0 true,.box [.lit (.int .i64 v0_0),.lit (.int .i64 v0_1),.lit (.int .i64 v0_2),.lit (.int .i64 v0_3),.ro (List.map an sX),.ro (List.map (aF IntKind.u64) sY),.own 12 s76 sk.length,.own 13 s114 sG.length],.rows s78 (List.map aK sk) s76 true,.rows sA (List.map bD sG) s114 true]⟩)=ob (cj k (v0_0,v0_1,v0_2,v0_3) v1 v2  n sX sY sv sk sT sG sA sb sc) fun r=>some ((.tup [.agg [.lit (.int .i64 r.1.1.1),.lit (.int .i64 r.1.1.2.1),.lit (.int .i64 r.1.1.2.2.1),.lit (.int .i64 r.1.1.2.2.2),.ro (List.map an r.1.2.1),.ro (List.map (aF .u64) r.1.2.2.1),.ro (List.map aK r.1.2.2.2.1),.ro (List.map bD r.1.2.2.2.2)],.lit (.bool r.2)]),[]):=by
 intro n
 induction n with
 | zero=>intros;rfl
 | succ n ih=>
  intro sX sY sv sk sT sG sA sb sc s57 s58 s59 s60 s61 s76 s78 s114 j75 j112 j136 j137
  rw [cj]
  simp (maxSteps:=2000000) -implicitDefEqProofs only [abB,Zi,Zh,Bn,AW,Bb,Bl,By,iV,i5,iU,kc,ZI,Zj,Zf,Bm,i4,aH (g:=57),↓syP,syA,syD,simprocAttr,syE,ah,ag,ae,syW,xQ,da,cD,pn,gA,pI,mG,db,de,fR,T3,ih,rZ k v0_0 v0_1 v0_2 v0_3 v1 v2 _ (fun sX sY sv sk sT sG sA sb sc=>cj k (v0_0,v0_1,v0_2,v0_3) v1 v2  n sX sY sv sk sT sG sA sb sc) ih]
def cY (k:Nat) (v0:(Int×Int×Int×Int)) (v1:Tyt) (v2:(List (List Int)))  : Nat→Tyt→List Int→List Int→Nat→Int→List Tyw→Nat→Option (Typ×Bool)
 | 0,_,_,_,_,_,_,_=>none
 | n+1,su,se,sO,s41,s52,s54,s55=>
 bif decide (s52<v0.1) then
 ob (ni s52) fun xE=>
 ck (s55==11||s55==0) (
 bif room (s54++[(xE.1,xE.2.1,(xE.2.2.1.1,xE.2.2.1.2.1,xE.2.2.1.2.2.1,xE.2.2.1.2.2.2.1,xE.2.2.1.2.2.2.2.1,xE.2.2.1.2.2.2.2.2.1,xE.2.2.1.2.2.2.2.2.2),xE.2.2.2.1,xE.2.2.2.2)]).length 104 then
 cY k v0 v1 v2  n (su) (se) (sO) (s41) (IntKind.i64.wrap (s52+(1:Int))) (s54++[(xE.1,xE.2.1,(xE.2.2.1.1,xE.2.2.1.2.1,xE.2.2.1.2.2.1,xE.2.2.1.2.2.2.1,xE.2.2.1.2.2.2.2.1,xE.2.2.1.2.2.2.2.2.1,xE.2.2.1.2.2.2.2.2.2),xE.2.2.2.1,xE.2.2.2.2)]) (11)
 else
 none)
 else
 cj k v0 v1 v2 (k+21) (su) (se) (s41) (s54) ((0:Int)) ([]) (0) (sO.length) (sO)
theorem iy (k:Nat) (v0_0 v0_1 v0_2 v0_3:Int) (v1:Tyt) (v2:List (List Int)):∀ (n:Nat) (su:Tyt) (se sO:List Int) (s41:Nat) (s52:Int) (s54:List Tyw) (s55:Nat) ⦃sl sm sg sU:Bool⦄ ⦃s53:Nat⦄ ⦃j51:V⦄,rt none (itX (xX (xS (k+21)) 23 0 (k+21) false) HA (14) (au (xX (xS (k+21)) 23 0 (k+21) false) (ap (xS (k+21)).P Tryz.f23) II) n ⟨(.agg [.lit (.int .i64 v0_0),.lit (.int .i64 v0_1),.lit (.int .i64 v0_2),.lit (.int .i64 v0_3)]::.ro (List.map an v1)::.ro (List.map eo v2)::.ptr 0 0 0 0::uu::uu::.ptr 5 0 0 0::.lit (.bool false)::.own 6 0 sO.length::.ptr 11 0 0 0::j51::uu::uu::uu::uu::uu::.agg [.lit (.int .i64 v0_0),.lit (.int .i64 v0_1),.lit (.int .i64 v0_2),.lit (.int .i64 v0_3)]::.lit (.bool sl)::.lit (.bool sm)::.lit (.bool false)::.ro (List.map an v1)::.lit (.bool sg)::.lit (.bool sU)::.lit (.bool sU)::.lit (.bool false)::.ro (List.map eo v2)::.lit (.int .i64 (↑v2.length:Int))::.lit (.bool (decide ((3:Int)<(↑v2.length:Int))))::.lit (.bool (decide ((3:Int)<(↑v2.length:Int))))::uu::.ro (List.map an v1)::.own 6 0 sO.length::.agg [.lit (.int .i64 v0_0),.lit (.int .i64 v0_1),.lit (.int .i64 v0_2),.lit (.int .i64 v0_3)]::.ro (List.map an v1)::.ro (List.map an su)::.agg [.lit (.int .i64 v0_0),.lit (.int .i64 v0_1),.lit (.int .i64 v0_2),.lit (.int .i64 v0_3)]::.ro (List.map (aF IntKind.u64) se)::.agg [.lit (.int .i64 v0_0),.lit (.int .i64 v0_1),.lit (.int .i64 v0_2),.lit (.int .i64 v0_3),.ro (List.map an su),.ro (List.map (aF IntKind.u64) se),.nil,.nil]::.ptr 0 0 0 0::.lit (.int .i64 v0_0)::.lit (.int .i64 s52)::.junk::.junk::.junk::.junk::.junk::.junk::.junk::.junk::.junk::.junk::uu::uu::uu::uu::uu::uu::uu::uu::uu::uu::uu::uu::uu::uu::uu::uu::uu::uu::uu::uu::uu::uu::uu::uu::uu::uu::uu::uu::uu::uu::uu::uu::uu::[]),[.box [.lit (.int .i64 v0_0),.lit (.int .i64 v0_1),.lit (.int .i64 v0_2),.lit (.int .i64 v0_3)],.rows 0 [] 0 true,.rows 0 [] 0 true,.rows 0 [] 0 true,.rows 0 [] 0 true,.box [.lit (.int .i64 (0:Int)),.lit (.int .i64 (0:Int)),.lit (.int .i64 (0:Int)),.lit (.int .i64 (0:Int)),.own 1 0 0,.own 2 0 0,.own 3 0 0,.own 4 0 0],.rows s41 (List.map (aF IntKind.i64) sO) 0 true,.rows 0 [] 0 true,.rows 0 [] 0 true,.rows 0 [] 0 true,.rows 0 [] 0 true,.box [.lit (.int .i64 v0_0),.lit (.int .i64 v0_1),.lit (.int .i64 v0_2),.lit (.int .i64 v0_3),.ro (List.map an su),.ro (List.map (aF IntKind.u64) se),.own 12 s53 s54.length,.own 13 0 0],.rows s55 (List.map aK s54) s53 true,.rows 0 [] 0 true]⟩)=ob (cY k (v0_0,v0_1,v0_2,v0_3) v1 v2  n su se sO s41 s52 s54 s55) fun r=>some ((.tup [.agg [.lit (.int .i64 r.1.1.1),.lit (.int .i64 r.1.1.2.1),.lit (.int .i64 r.1.1.2.2.1),.lit (.int .i64 r.1.1.2.2.2),.ro (List.map an r.1.2.1),.ro (List.map (aF .u64) r.1.2.2.1),.ro (List.map aK r.1.2.2.2.1),.ro (List.map bD r.1.2.2.2.2)],.lit (.bool r.2)]),[]):=by
 intro n
 induction n with
 | zero=>intros;rfl
 | succ n ih=>
  intro su se sO s41 s52 s54 s55 sl sm sg sU s53 j51
  rw [cY]
  have hu2:=mv k v0_0 v0_1 v0_2 v0_3 v1 v2 (k+21) (su) (se) (s41) (s54) ((0:Int)) ([]) (0) (sO.length) (sO)
  try simp -implicitDefEqProofs only [List.map_nil,List.length_nil] at hu2
  simp (maxSteps:=2000000) -implicitDefEqProofs only [abB,Zi,Zh,Bn,AW,Bb,Bl,By,iV,i5,iU,kc,ZI,Zj,Zf,Bm,i4,aH (g:=57),↓syP,syA,syD,simprocAttr,syE,ah,ag,ae,syW,xQ,da,cD,pn,gA,pI,mG,db,de,fR,Ui,ih,mv k v0_0 v0_1 v0_2 v0_3 v1 v2,hu2]
def kd (k:Nat) (v0:(Int×Int×Int×Int)) (v1:Tyt) (v2:(List (List Int))):Option (Typ×Bool):=
 ob (cw v0) fun xf=>
 bif !xf then
 some (((0,0,0,0),[],[],[],[]),false)
 else
 ob (dc (k+2) v1) fun xl=>
 bif !xl then
 some (((0,0,0,0),[],[],[],[]),false)
 else
 bif decide (3<(↑v2.length:Int)) then
 some (((0,0,0,0),[],[],[],[]),false)
 else
 ob (dc (k+1) v1) fun xB=>
 bif !xB then
 ob (dw (k+19) v1) fun xm=>
 ob (lB (k+17) v0) fun xw=>
 cY k v0 v1 v2 (k+21) xm xw ([]) 0 0 ([]) 0
 else
 ob (bL k (k+20) v1 (↑v1.length:Int) 0 [] 0 0) fun xs=>
 ob (dw (k+19) v1) fun xx=>
 ob (lB (k+17) v0) fun xy=>
 cY k v0 v1 v2 (k+21) xx xy xs.2.1 xs.2.2 0 ([]) 0
theorem Jv (k:Nat) (v0_0 v0_1 v0_2 v0_3:Int) (v1:Tyt) (v2:List (List Int)):xC (k+22) none 23 [.agg [.lit (.int .i64 v0_0),.lit (.int .i64 v0_1),.lit (.int .i64 v0_2),.lit (.int .i64 v0_3)],.ro (List.map an v1),.ro (List.map eo v2)]=ob (kd k (v0_0,v0_1,v0_2,v0_3) v1 v2) fun r=>some ((.tup [.agg [.lit (.int .i64 r.1.1.1),.lit (.int .i64 r.1.1.2.1),.lit (.int .i64 r.1.1.2.2.1),.lit (.int .i64 r.1.1.2.2.2),.ro (List.map an r.1.2.1),.ro (List.map (aF .u64) r.1.2.2.1),.ro (List.map aK r.1.2.2.2.1),.ro (List.map bD r.1.2.2.2.2)],.lit (.bool r.2)]),[]):=by
 rw [aH]
 unfold kd
 have hl0:=fun (xz:Tyt) (x174:List Int)=>iy k v0_0 v0_1 v0_2 v0_3 v1 v2 (k+21) (xz) (x174) ([]) (0) ((0:Int)) ([]) (0)
 try simp -implicitDefEqProofs only [List.map_nil,List.length_nil] at hl0
 have hl1:=fun (x176:Tyt) (x177:List Int) (xt:Nat×List Int×Nat)=>iy k v0_0 v0_1 v0_2 v0_3 v1 v2 (k+21) (x176) (x177) (xt.snd.fst) (xt.snd.snd) ((0:Int)) ([]) (0)
 try simp -implicitDefEqProofs only [List.map_nil,List.length_nil] at hl1
 simp (maxSteps:=2000000) -implicitDefEqProofs only [abB,Zi,Zh,Bn,AW,Bb,Bl,By,iV,i5,iU,kc,ZI,Zj,Zf,Bm,i4,aH (g:=57),↓syP,syA,syD,simprocAttr,syE,ah,ag,ae,syW,xQ,da,cD,pn,db,de,fR,iy k v0_0 v0_1 v0_2 v0_3 v1 v2,hl0,hl1]
 all_goals simp -implicitDefEqProofs only [List.map_nil]
end Go.Ab
set_option maxRecDepth 100000
set_option linter.unusedVariables false
set_option linter.unusedSimpArgs false
namespace Go.Ab
open Go.Proofs
def aI (k:Nat) (v0:(List Tyw)) (v1:(List Tyw))  : Nat→Int→Option Bool
 | 0,_=>none
 | n+1,sE=>
 bif decide (sE<(↑v0.length:Int)) then
 ob (idx v0 sE) fun xO=>
 ob (idx v1 sE) fun xP=>
 ob (kq (k+5) (xO.1,xO.2.1,(xO.2.2.1.1,xO.2.2.1.2.1,xO.2.2.1.2.2.1,xO.2.2.1.2.2.2.1,xO.2.2.1.2.2.2.2.1,xO.2.2.1.2.2.2.2.2.1,xO.2.2.1.2.2.2.2.2.2),xO.2.2.2.1,xO.2.2.2.2) (xP.1,xP.2.1,(xP.2.2.1.1,xP.2.2.1.2.1,xP.2.2.1.2.2.1,xP.2.2.1.2.2.2.1,xP.2.2.1.2.2.2.2.1,xP.2.2.1.2.2.2.2.2.1,xP.2.2.1.2.2.2.2.2.2),xP.2.2.2.1,xP.2.2.2.2)) fun x21=>
 bif !x21 then
 some (false)
 else
 aI k v0 v1  n (IntKind.i64.wrap (sE+(1:Int)))
 else
 some (true)
theorem ez (k:Nat) (v0 v1:List Tyw):∀ (n:Nat) (sE:Int) ⦃j10 j11:V⦄,rt none (itX (xX (xS (k+8)) 46 0 (k+8) false) HE (0) (au (xX (xS (k+8)) 46 0 (k+8) false) (ap (xS (k+8)).P Tryz.f46) Ic) n ⟨[.ro (List.map aK v0),.ro (List.map aK v1),.fn (Fn.func (47:FuncId)) [] [],uu,uu,uu,.lit (.bool false),j10,j11,j11,.ro (List.map aK v0),.lit (.int .i64 (↑v0.length:Int)),.ro (List.map aK v1),.lit (.int .i64 (↑v1.length:Int)),.lit (.bool ((↑v0.length:Int)!=(↑v1.length:Int))),.ro (List.map aK v0),.lit (.int .i64 (↑v0.length:Int)),.lit (.int .i64 sE),.junk,.junk,.junk,.junk,.junk,.junk,.junk,.junk,.junk,.junk,.junk,.junk,.junk,.junk],[]⟩)=ob (aI k v0 v1  n sE) fun r=>some ((.lit (.bool r)),[]):=by
 intro n
 induction n with
 | zero=>intros;rfl
 | succ n ih=>
  intro sE j10 j11
  rw [aI]
  simp (maxSteps:=2000000) -implicitDefEqProofs only [aiL,aeq,aeb,HG,na,↓syP,syA,syD,simprocAttr,syE,ah,ag,ae,syW,xQ,GH,TI,ih]
def a8 (k:Nat) (v0:(List Tyw)) (v1:(List Tyw)):Option Bool:=
 bif (↑v0.length:Int)!=(↑v1.length:Int) then
 some false
 else
 aI k v0 v1 (k+8) 0
theorem fK (k:Nat) (v0 v1:List Tyw):xC (k+9) none 46 [.ro (List.map aK v0),.ro (List.map aK v1),.fn (Fn.func (47:FuncId)) [] []]=ob (a8 k v0 v1) fun r=>some ((.lit (.bool r)),[]):=by
 rw [aH]
 unfold a8
 simp (maxSteps:=2000000) -implicitDefEqProofs only [aiL,aeq,aeb,HG,na,↓syP,syA,syD,simprocAttr,syE,ah,ag,ae,syW,xQ,ez k v0 v1]
def aG (k:Nat) (v0:(List Tys)) (v1:(List Tys))  : Nat→Int→Option Bool
 | 0,_=>none
 | n+1,sF=>
 bif decide (sF<(↑v0.length:Int)) then
 ob (idx v0 sF) fun xc=>
 ob (idx v1 sF) fun xW=>
 ob (gu (k+6) (xc.1,xc.2.1,xc.2.2.1,xc.2.2.2.1,xc.2.2.2.2.1,xc.2.2.2.2.2.1,xc.2.2.2.2.2.2.1,xc.2.2.2.2.2.2.2.1,xc.2.2.2.2.2.2.2.2) (xW.1,xW.2.1,xW.2.2.1,xW.2.2.2.1,xW.2.2.2.2.1,xW.2.2.2.2.2.1,xW.2.2.2.2.2.2.1,xW.2.2.2.2.2.2.2.1,xW.2.2.2.2.2.2.2.2)) fun xn=>
 bif !xn then
 some (false)
 else
 aG k v0 v1  n (IntKind.i64.wrap (sF+(1:Int)))
 else
 some (true)
theorem ej (k:Nat) (v0 v1:List Tys):∀ (n:Nat) (sF:Int) ⦃j29 j30:V⦄,rt none (itX (xX (xS (k+8)) 48 0 (k+8) false) Ih (0) (au (xX (xS (k+8)) 48 0 (k+8) false) (ap (xS (k+8)).P Tryz.f48) HW) n ⟨[.ro (List.map bD v0),.ro (List.map bD v1),.fn (Fn.func (49:FuncId)) [] [],uu,uu,uu,.lit (.bool false),j29,j30,j30,.ro (List.map bD v0),.lit (.int .i64 (↑v0.length:Int)),.ro (List.map bD v1),.lit (.int .i64 (↑v1.length:Int)),.lit (.bool ((↑v0.length:Int)!=(↑v1.length:Int))),.ro (List.map bD v0),.lit (.int .i64 (↑v0.length:Int)),.lit (.int .i64 sF),.junk,.junk,.junk,.junk,.junk,.junk,.junk,.junk,.junk,.junk,.junk,.junk,.junk,.junk],[]⟩)=ob (aG k v0 v1  n sF) fun r=>some ((.lit (.bool r)),[]):=by
 intro n
 induction n with
 | zero=>intros;rfl
 | succ n ih=>
  intro sF j29 j30
  rw [aG]
  simp (maxSteps:=2000000) -implicitDefEqProofs only [afm,aeh,aen,Ik,m7,↓syP,syA,syD,simprocAttr,syE,ah,ag,ae,syW,xQ,B6,S6,ih]
def aZ (k:Nat) (v0:(List Tys)) (v1:(List Tys)):Option Bool:=
 bif (↑v0.length:Int)!=(↑v1.length:Int) then
 some false
 else
 aG k v0 v1 (k+8) 0
theorem fG (k:Nat) (v0 v1:List Tys):xC (k+9) none 48 [.ro (List.map bD v0),.ro (List.map bD v1),.fn (Fn.func (49:FuncId)) [] []]=ob (aZ k v0 v1) fun r=>some ((.lit (.bool r)),[]):=by
 rw [aH]
 unfold aZ
 simp (maxSteps:=2000000) -implicitDefEqProofs only [afm,aeh,aen,Ik,m7,↓syP,syA,syD,simprocAttr,syE,ah,ag,ae,syW,xQ,ej k v0 v1]
def ky (k:Nat) (v0:Typ) (v1:Typ):Option Bool:=
 bif v0.1.1==v1.1.1&&(v0.1.2.1==v1.1.2.1&&(v0.1.2.2.1==v1.1.2.2.1&&v0.1.2.2.2==v1.1.2.2.2)) then
 ob (gF k v0.2.1 v1.2.1) fun xu=>
 bif xu then
 ob (ko (k+9) v0.2.2.1 v1.2.2.1) fun xg=>
 bif xg then
 ob (a8 (k+1) v0.2.2.2.1 v1.2.2.2.1) fun x47=>
 bif x47 then
 ob (aZ (k+1) v0.2.2.2.2 v1.2.2.2.2) fun x48=>
 some x48
 else
 some false
 else
 some false
 else
 some false
 else
 some false
theorem Ge (k:Nat) (v0_0_0 v0_0_1 v0_0_2 v0_0_3:Int) (v0_1:Tyt) (v0_2:List Int) (v0_3:List Tyw) (v0_4:List Tys) (v1_0_0 v1_0_1 v1_0_2 v1_0_3:Int) (v1_1:Tyt) (v1_2:List Int) (v1_3:List Tyw) (v1_4:List Tys):xC (k+11) none 19 [.agg [.lit (.int .i64 v0_0_0),.lit (.int .i64 v0_0_1),.lit (.int .i64 v0_0_2),.lit (.int .i64 v0_0_3),.ro (List.map an v0_1),.ro (List.map (aF .u64) v0_2),.ro (List.map aK v0_3),.ro (List.map bD v0_4)],.agg [.lit (.int .i64 v1_0_0),.lit (.int .i64 v1_0_1),.lit (.int .i64 v1_0_2),.lit (.int .i64 v1_0_3),.ro (List.map an v1_1),.ro (List.map (aF .u64) v1_2),.ro (List.map aK v1_3),.ro (List.map bD v1_4)]]=ob (ky k ((v0_0_0,v0_0_1,v0_0_2,v0_0_3),v0_1,v0_2,v0_3,v0_4) ((v1_0_0,v1_0_1,v1_0_2,v1_0_3),v1_1,v1_2,v1_3,v1_4)) fun r=>some ((.lit (.bool r)),[]):=by
 rw [aH]
 unfold ky
 simp (maxSteps:=2000000) -implicitDefEqProofs only [ajV,ajo,Us,SN,UD,SW,AX,aiL,aeq,aeb,HG,na,afm,aeh,aen,Ik,m7,↓syP,syA,syD,simprocAttr,syE,ah,ag,ae,syW,xQ,CA,Fq,fK,fG]
end Go.Ab
set_option maxRecDepth 100000
set_option linter.unusedVariables false
set_option linter.unusedSimpArgs false
namespace Go.Ab
open Go.Proofs
def bc (k:Nat) (v0:(List (List Int)))  : Nat→Int→Option Bool
 | 0,_=>none
 | n+1,s3=>
 bif decide (s3<(↑v0.length:Int)) then
 bif decide (s3≤(10:Int)) then
 ob (idx v0 s3) fun x6=>
 bif decide ((60:Int)<(↑x6.length:Int)) then
 some (false)
 else
 bc k v0  n (IntKind.i64.wrap (s3+(1:Int)))
 else
 some (decide ((↑v0.length:Int)≤(10:Int)))
 else
 some (decide ((↑v0.length:Int)≤(10:Int)))
theorem iB (k:Nat) (v0:List (List Int)):∀ (n:Nat) (s3:Int),rt none (itX (xX (xS k) 22 0 k false) rI (0) (au (xX (xS k) 22 0 k false) (ap (xS k).P Tryz.f22) IX) n ⟨[.ro (List.map eo v0),uu,.lit (.bool false),.lit (.int .i64 s3),.junk,.junk,.junk,.junk,.junk,.junk,.junk,.junk,.junk,.junk,.junk,.junk,.junk,.junk,.junk,.junk,uu,uu,uu],[]⟩)=ob (bc k v0  n s3) fun r=>some ((.lit (.bool r)),[]):=by
 intro n
 induction n with
 | zero=>intros;rfl
 | succ n ih=>
  intro s3
  rw [bc]
  simp (maxSteps:=2000000) -implicitDefEqProofs only [ajs,afR,afi,K1,K8,rh,pq,↓syP,syA,syD,simprocAttr,syE,ah,ag,ae,syW,xQ,TU,ih]
def cr (k:Nat) (v0:(List (List Int))):Option Bool:=
 bc k v0 k 0
theorem md (k:Nat) (v0:List (List Int)):xC (k+1) none 22 [.ro (List.map eo v0)]=ob (cr k v0) fun r=>some ((.lit (.bool r)),[]):=by
 rw [aH]
 unfold cr
 simp (maxSteps:=2000000) -implicitDefEqProofs only [ajs,afR,afi,K1,K8,rh,pq,↓syP,syA,syD,simprocAttr,syE,ah,ag,ae,syW,xQ,iB k v0]
end Go.Ab
set_option maxRecDepth 100000
set_option linter.unusedVariables false
set_option linter.unusedSimpArgs false
namespace Go.Ab
open Go.Proofs
def aC (k:Nat) (v0:(List Tys))  : Nat→Int→Option Int
 | 0,_=>none
 | n+1,s6=>
 bif decide (s6<(↑v0.length:Int)) then
 ob (idx v0 s6) fun xd=>
 ob (gw (xd.1,xd.2.1,xd.2.2.1,xd.2.2.2.1,xd.2.2.2.2.1,xd.2.2.2.2.2.1,xd.2.2.2.2.2.2.1,xd.2.2.2.2.2.2.2.1,xd.2.2.2.2.2.2.2.2)) fun x12=>
 bif x12 then
 some (s6)
 else
 aC k v0  n (IntKind.i64.wrap (s6+(1:Int)))
 else
 some ((-1:Int))
theorem ed (k:Nat) (v0:List Tys):∀ (n:Nat) (s6:Int) ⦃j5:V⦄,rt none (itX (xX (xS (k+8)) 96 0 (k+8) false) Bu (0) (au (xX (xS (k+8)) 96 0 (k+8) false) (ap (xS (k+8)).P Tryz.f96) Bq) n ⟨[.ro (List.map bD v0),.fn (Fn.func (28:FuncId)) [] [],uu,uu,.lit (.int .i64 (0:Int)),j5,.ro (List.map bD v0),.lit (.int .i64 (↑v0.length:Int)),.lit (.int .i64 s6),.junk,.junk,.junk,.junk,.junk,.junk,.junk,.junk,.junk,.junk],[]⟩)=ob (aC k v0  n s6) fun r=>some ((.lit (.int .i64 r)),[]):=by
 intro n
 induction n with
 | zero=>intros;rfl
 | succ n ih=>
  intro s6 j5
  rw [aC]
  simp (maxSteps:=2000000) -implicitDefEqProofs only [J2,HL,Iy,kS,cP,↓syP,syA,syD,simprocAttr,syE,ah,ag,ae,syW,xQ,Ca,Je,ih]
def bl (k:Nat) (v0:(List Tys)):Option Int:=
 aC k v0 (k+8) 0
theorem fD (k:Nat) (v0:List Tys):xC (k+9) none 96 [.ro (List.map bD v0),.fn (Fn.func (28:FuncId)) [] []]=ob (bl k v0) fun r=>some ((.lit (.int .i64 r)),[]):=by
 rw [aH]
 unfold bl
 simp (maxSteps:=2000000) -implicitDefEqProofs only [J2,HL,Iy,kS,cP,↓syP,syA,syD,simprocAttr,syE,ah,ag,ae,syW,xQ,ed k v0]
def aU (k:Nat) (v0:(List Tys)):Option Bool:=
 ob (bl (k+8) v0) fun x14=>
 some (decide (0≤x14))
theorem cH (k:Nat) (v0:List Tys):xC (k+18) none 52 [.ro (List.map bD v0),.fn (Fn.func (28:FuncId)) [] []]=ob (aU k v0) fun r=>some ((.lit (.bool r)),[]):=by
 rw [aH]
 unfold aU
 simp (maxSteps:=2000000) -implicitDefEqProofs only [Rv,Ov,J2,HL,Iy,kS,cP,↓syP,syA,syD,simprocAttr,syE,ah,ag,ae,syW,xQ,fD]
def cU (k : Nat) (v0 : ((Int × Int × Int × Int) × List (Int × List Int) × List Int × List (Int × List (Int × Int × Int) × (Int × Int × Int × Int × Int × Int × Int) × Int × Int) × List (Int × List Int × Int × Int × Int × Int × Int × Int × Int)))  : Nat → Int → Option Bool
 | 0,_ => none
 | n + 1,sC =>
 bif decide (sC < (↑v0.2.2.2.1.length : Int)) then
 ob (idx v0.2.2.2.1 sC) fun xT =>
 ob (gr (xT.1,xT.2.1,(xT.2.2.1.1,xT.2.2.1.2.1,xT.2.2.1.2.2.1,xT.2.2.1.2.2.2.1,xT.2.2.1.2.2.2.2.1,xT.2.2.1.2.2.2.2.2.1,xT.2.2.1.2.2.2.2.2.2),xT.2.2.2.1,xT.2.2.2.2)) fun xj =>
 bif !xj then
 some (false)
 else
 ob (fp (v0.1.1,v0.1.2.1,v0.1.2.2.1,v0.1.2.2.2) sC) fun x43 =>
 ob (aL v0.2.2.1 x43) fun x44 =>
 bif x44 != (0 : Int) then
 some (false)
 else
 cU k v0  n (IntKind.i64.wrap (sC + (1 : Int)))
 else
 some (true)
theorem nX (k:Nat) (v0_0_0 v0_0_1 v0_0_2 v0_0_3:Int) (v0_1:Tyt) (v0_2:List Int) (v0_3:List Tyw) (v0_4:List Tys):∀ (n:Nat) (sC:Int) ⦃s19 st sx:Bool⦄ ⦃j28 j29:V⦄,rt none (itX (xX (xS (k+35)) 25 0 (k+35) false) rD (1) (au (xX (xS (k+35)) 25 0 (k+35) false) (ap (xS (k+35)).P Tryz.f25) IG) n ⟨[.agg [.lit (.int .i64 v0_0_0),.lit (.int .i64 v0_0_1),.lit (.int .i64 v0_0_2),.lit (.int .i64 v0_0_3),.ro (List.map an v0_1),.ro (List.map (aF IntKind.u64) v0_2),.ro (List.map aK v0_3),.ro (List.map bD v0_4)],.ptr 0 0 0 0,.lit (.bool false),j28,j29,.agg [.lit (.int .i64 v0_0_0),.lit (.int .i64 v0_0_1),.lit (.int .i64 v0_0_2),.lit (.int .i64 v0_0_3),.ro (List.map an v0_1),.ro (List.map (aF IntKind.u64) v0_2),.ro (List.map aK v0_3),.ro (List.map bD v0_4)],.lit (.bool s19),.lit (.bool st),.lit (.bool false),.ptr 0 0 0 7,.ro (List.map bD v0_4),.lit (.bool sx),.lit (.bool sx),.ptr 0 0 0 6,.ro (List.map aK v0_3),.lit (.int .i64 (↑v0_3.length:Int)),.lit (.int .i64 sC),.junk,.junk,.junk,.junk,.junk,.junk,.junk,.junk,.junk,.junk,.junk,.junk,.junk,.junk,.junk,.junk,.junk,.junk],[.box [.lit (.int .i64 v0_0_0),.lit (.int .i64 v0_0_1),.lit (.int .i64 v0_0_2),.lit (.int .i64 v0_0_3),.ro (List.map an v0_1),.ro (List.map (aF IntKind.u64) v0_2),.ro (List.map aK v0_3),.ro (List.map bD v0_4)]]⟩)=ob (cU k ((v0_0_0,v0_0_1,v0_0_2,v0_0_3),v0_1,v0_2,v0_3,v0_4)  n sC) fun r=>some ((.lit (.bool r)),[]):=by
 intro n
 induction n with
 | zero=>intros;rfl
 | succ n ih=>
  intro sC s19 st sx j28 j29
  rw [cU]
  simp (maxSteps:=2000000) -implicitDefEqProofs only [ajP,ahP,ahy,Lr,Mk,LX,pX,ra,pT,Rv,Ov,J2,HL,Iy,kS,cP,↓syP,syA,syD,simprocAttr,syE,ah,ag,ae,syW,xQ,dg,pU,Cq,dU,cH,SM,ih]
def gt (k:Nat) (v0:Typ):Option Bool:=
 ob (eF k v0) fun xu=>
 bif !xu then
 some false
 else
 ob (aU (k+17) v0.2.2.2.2) fun xg=>
 bif xg then
 some false
 else
 cU k v0 (k+35) 0
theorem Cz (k:Nat) (v0_0_0 v0_0_1 v0_0_2 v0_0_3:Int) (v0_1:Tyt) (v0_2:List Int) (v0_3:List Tyw) (v0_4:List Tys):xC (k+36) none 25 [.agg [.lit (.int .i64 v0_0_0),.lit (.int .i64 v0_0_1),.lit (.int .i64 v0_0_2),.lit (.int .i64 v0_0_3),.ro (List.map an v0_1),.ro (List.map (aF .u64) v0_2),.ro (List.map aK v0_3),.ro (List.map bD v0_4)]]=ob (gt k ((v0_0_0,v0_0_1,v0_0_2,v0_0_3),v0_1,v0_2,v0_3,v0_4)) fun r=>some ((.lit (.bool r)),[]):=by
 rw [aH]
 unfold gt
 simp (maxSteps:=2000000) -implicitDefEqProofs only [ajP,ahP,ahy,Lr,Mk,LX,pX,ra,pT,Rv,Ov,J2,HL,Iy,kS,cP,↓syP,syA,syD,simprocAttr,syE,ah,ag,ae,syW,xQ,dU,cH,nX k v0_0_0 v0_0_1 v0_0_2 v0_0_3 v0_1 v0_2 v0_3 v0_4]
def gn (v0:Tys):Option Bool:=
 some (decide (0<(↑v0.2.1.length:Int)))
theorem Al (k:Nat) (v0_0:Int) (v0_1:List Int) (v0_2_0 v0_2_1 v0_2_2 v0_2_3 v0_2_4 v0_2_5 v0_2_6:Int):xC (k+1) none 67 [.agg [.lit (.int .i64 v0_0),.ro (List.map (aF .i64) v0_1),.lit (.int .i64 v0_2_0),.lit (.int .i64 v0_2_1),.lit (.int .i64 v0_2_2),.lit (.int .u64 v0_2_3),.lit (.int .u64 v0_2_4),.lit (.int .u64 v0_2_5),.lit (.int .i64 v0_2_6)]]=ob (gn (v0_0,v0_1,(v0_2_0,v0_2_1,v0_2_2,v0_2_3,v0_2_4,v0_2_5,v0_2_6))) fun r=>some ((.lit (.bool r)),[]):=by
 rw [aH]
 unfold gn
 simp (maxSteps:=2000000) -implicitDefEqProofs only [aji,af8,↓syP,syA,syD,simprocAttr,syE,ah,ag,ae,syW,xQ]
def aA (k:Nat) (v0:(List Tys))  : Nat→Int→Option Int
 | 0,_=>none
 | n+1,s56=>
 bif decide (s56<(↑v0.length:Int)) then
 ob (idx v0 s56) fun xe=>
 ob (gn (xe.1,xe.2.1,xe.2.2.1,xe.2.2.2.1,xe.2.2.2.2.1,xe.2.2.2.2.2.1,xe.2.2.2.2.2.2.1,xe.2.2.2.2.2.2.2.1,xe.2.2.2.2.2.2.2.2)) fun x62=>
 bif x62 then
 some (s56)
 else
 aA k v0  n (IntKind.i64.wrap (s56+(1:Int)))
 else
 some ((-1:Int))
theorem dQ (k:Nat) (v0:List Tys):∀ (n:Nat) (s56:Int) ⦃j55:V⦄,rt none (itX (xX (xS (k+8)) 96 0 (k+8) false) Bu (0) (au (xX (xS (k+8)) 96 0 (k+8) false) (ap (xS (k+8)).P Tryz.f96) Bq) n ⟨[.ro (List.map bD v0),.fn (Fn.func (67:FuncId)) [] [],uu,uu,.lit (.int .i64 (0:Int)),j55,.ro (List.map bD v0),.lit (.int .i64 (↑v0.length:Int)),.lit (.int .i64 s56),.junk,.junk,.junk,.junk,.junk,.junk,.junk,.junk,.junk,.junk],[]⟩)=ob (aA k v0  n s56) fun r=>some ((.lit (.int .i64 r)),[]):=by
 intro n
 induction n with
 | zero=>intros;rfl
 | succ n ih=>
  intro s56 j55
  rw [aA]
  simp (maxSteps:=2000000) -implicitDefEqProofs only [J2,HL,Iy,kS,cP,↓syP,syA,syD,simprocAttr,syE,ah,ag,ae,syW,xQ,Al,Je,ih]
def bd (k:Nat) (v0:(List Tys)):Option Int:=
 aA k v0 (k+8) 0
theorem eY (k:Nat) (v0:List Tys):xC (k+9) none 96 [.ro (List.map bD v0),.fn (Fn.func (67:FuncId)) [] []]=ob (bd k v0) fun r=>some ((.lit (.int .i64 r)),[]):=by
 rw [aH]
 unfold bd
 simp (maxSteps:=2000000) -implicitDefEqProofs only [J2,HL,Iy,kS,cP,↓syP,syA,syD,simprocAttr,syE,ah,ag,ae,syW,xQ,dQ k v0]
def aS (k:Nat) (v0:(List Tys)):Option Bool:=
 ob (bd (k+8) v0) fun x64=>
 some (decide (0≤x64))
theorem eA (k:Nat) (v0:List Tys):xC (k+18) none 52 [.ro (List.map bD v0),.fn (Fn.func (67:FuncId)) [] []]=ob (aS k v0) fun r=>some ((.lit (.bool r)),[]):=by
 rw [aH]
 unfold aS
 simp (maxSteps:=2000000) -implicitDefEqProofs only [Rv,Ov,J2,HL,Iy,kS,cP,↓syP,syA,syD,simprocAttr,syE,ah,ag,ae,syW,xQ,eY]
def d9 (k:Nat) (v0:Typ):Option Bool:=
 ob (gt k v0) fun x69=>
 bif x69 then
 ob (aL v0.2.2.1 0) fun xq=>
 bif xq==0 then
 ob (aS (k+18) v0.2.2.2.2) fun xr=>
 some (!xr)
 else
 some false
 else
 some false
theorem lY (k:Nat) (v0_0_0 v0_0_1 v0_0_2 v0_0_3:Int) (v0_1:Tyt) (v0_2:List Int) (v0_3:List Tyw) (v0_4:List Tys):xC (k+37) none 29 [.agg [.lit (.int .i64 v0_0_0),.lit (.int .i64 v0_0_1),.lit (.int .i64 v0_0_2),.lit (.int .i64 v0_0_3),.ro (List.map an v0_1),.ro (List.map (aF .u64) v0_2),.ro (List.map aK v0_3),.ro (List.map bD v0_4)]]=ob (d9 k ((v0_0_0,v0_0_1,v0_0_2,v0_0_3),v0_1,v0_2,v0_3,v0_4)) fun r=>some ((.lit (.bool r)),[]):=by
 rw [aH]
 unfold d9
 simp (maxSteps:=2000000) -implicitDefEqProofs only [akL,ajG,Tu,TJ,Bk,Rv,Ov,aji,af8,J2,HL,Iy,kS,cP,↓syP,syA,syD,simprocAttr,syE,ah,ag,ae,syW,xQ,dg,Cz,eA]
end Go.Ab
set_option maxRecDepth 100000
set_option linter.unusedVariables false
set_option linter.unusedSimpArgs false
namespace Go.Ab
open Go.Proofs
end Go.Ab
