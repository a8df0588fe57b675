import Derived.Test.YtblpbpnilkfjhaaGreatR6GX
import Derived.Test.YtblpbpnilkfjhaaGreatR6BZ
import Derived.Test.YtblpbpnilkfjhaaGreatR6BX
import Derived.Test.YtblpbpnilkfjhaaGreatR6BY
import Derived.Test.YtblpbpnilkfjhaaGreatR6BU
set_option linter.unusedVariables false
set_option linter.unusedSimpArgs false
set_option maxRecDepth 100000
set_option linter.unusedVariables false
set_option linter.unusedSimpArgs false
namespace Go.Ab
open Go.Proofs
def iQ (v0:(Int×Int×Int)) (v1:Int) (v2:Int):Option Bool:=
 bif v0.1==0 then
 ob (dr v0.2.1 v1) fun x4=>
 bif x4 then
 some true
 else
 bif v0.1==1 then
 ob (dr v0.2.1 v2) fun x5=>
 bif x5 then
 some true
 else
 bif v0.1==2 then
 some true
 else
 some (v0.1==3)
 else
 bif v0.1==2 then
 some true
 else
 some (v0.1==3)
 else
 bif v0.1==1 then
 ob (dr v0.2.1 v2) fun x6=>
 bif x6 then
 some true
 else
 bif v0.1==2 then
 some true
 else
 some (v0.1==3)
 else
 bif v0.1==2 then
 some true
 else
 some (v0.1==3)
theorem Gg (k:Nat) (v0_0 v0_1 v0_2 v1 v2:Int):xC (k+2) none 42 [.agg [.lit (.int .i64 v0_0),.lit (.int .i64 v0_1),.lit (.int .u64 v0_2)],.lit (.int .i64 v1),.lit (.int .i64 v2)]=ob (iQ (v0_0,v0_1,v0_2) v1 v2) fun r=>some ((.lit (.bool r)),[]):=by
 rw [aK]
 unfold iQ
 simp -implicitDefEqProofs only [aiN,aii,Sk,Sq,Ts,SU,Sm,Tt,TQ,SJ,Ty,Aj,↓syP,syA,syD,simprocAttr,syE,ah,ag,af,syW,xQ,rc]
def cV (k:Nat) (v0:Tyt)  : Nat→Tyt→Int→Int→Tyt→Option Tyt
 | 0,_,_,_,_=>none
 | n+1,sD,sO,sB,sL=>
 bif decide (sB<sO) then
 bif decide ((0:Int)≤sB∧sB.toNat<sD.length) then
 ob (sL[sB.toNat]?) fun xz=>
 ob (aO 8 xz.2) fun x40=>
 bif decide ((0:Int)≤sB∧sB.toNat<sD.length) then
 ob (sL[sB.toNat]?) fun xO=>
 cV k v0  n (sD) (sO) (IntKind.i64.wrap (sB+(1:Int))) (sL.set sB.toNat (xO.1,x40))
 else
 none
 else
 none
 else
 ck (decide (sD.length≤sL.length)) (
 some (List.take sD.length sL))
theorem oA (k:Nat) (v0:Tyt):∀ (n:Nat) (sD:Tyt) (sO sB:Int) (sL:Tyt) ⦃j29:V⦄,rt none (itX (xX (xS (k+1)) 58 0 (k+1) false) Hi (2) (av (xX (xS (k+1)) 58 0 (k+1) false) (aB (xS (k+1)).P Tryz.f58) Ha) n ⟨[.ro (List.map ap v0),uu,.own 0 0 0,.own 1 0 sD.length,j29,.ro (List.map ap v0),.own 1 0 sD.length,.own 1 0 sD.length,.lit (.int .i64 sO),.lit (.int .i64 sB),.junk,.junk,.junk,.junk,.junk,.junk,.junk,.junk,.junk,.junk,.junk,.junk,.junk,uu],[.rows 0 [] 0 true,.rows 2 (List.map ap sL) 0 true]⟩)=ob (cV k v0  n sD sO sB sL) fun r=>some ((.ro (List.map ap r)),[]):=by
 intro n
 induction n with
 | zero=>intros;rfl
 | succ n ih=>
  intro sD sO sB sL j29
  rw [cV]
  simp -implicitDefEqProofs only [aiz,agc,afn,NA,pf,↓syP,syA,syD,simprocAttr,syE,ah,ag,af,syW,xQ,TH,ih]
def eB (k:Nat) (v0:Tyt):Option Tyt:=
 ob (aO 32 v0) fun xe=>
 cV k v0 (k+1) xe ((↑xe.length:Int)) 0 xe
theorem fF (k:Nat) (v0:Tyt):xC (k+2) none 58 [.ro (List.map ap v0)]=ob (eB k v0) fun r=>some ((.ro (List.map ap r)),[]):=by
 rw [aK]
 unfold eB
 simp -implicitDefEqProofs only [aiz,agc,afn,NA,pf,↓syP,syA,syD,simprocAttr,syE,ah,ag,af,syW,xQ,oA k v0]
end Go.Ab
set_option maxRecDepth 100000
set_option linter.unusedVariables false
set_option linter.unusedSimpArgs false
namespace Go.Ab
open Go.Proofs
def bX (k:Nat)   : Nat→List Int→Int→Tyt→Int→Option Int
 | 0,_,_,_,_=>none
 | n+1,sv,sz,sa,sG=>
 bif decide (sG<sz) then
 ob (idx sv sG) fun xj=>
 bif decide (xj<(0:Int)) then
 some (sG)
 else
 bif decide ((↑sa.length:Int)≤xj) then
 some (sG)
 else
 bX k   n (sv) (sz) (sa) (IntKind.i64.wrap (sG+(1:Int)))
 else
 some ((-1:Int))
theorem nM (k:Nat)  : ∀ (n:Nat) (sv:List Int) (sz:Int) (sa:Tyt) (sG:Int) ⦃s22 sD sO s25:Int⦄ ⦃sq:List Int⦄ ⦃sr:List Tyw⦄ ⦃ss:List Tys⦄ ⦃sB sL sW s33 sb sc sR sP:Int⦄ ⦃j39:V⦄,itX (xX (xS (k+29)) 97 0 (k+29) false) Hm (4) (av (xX (xS (k+29)) 97 0 (k+29) false) (aB (xS (k+29)).P Tryz.f97) HL) n ⟨[.ro (List.map (aN IntKind.i64) sv),.fn (Fn.func (54:FuncId)) [] [.ptr 0 0 0 0],uu,uu,.lit (.int .i64 (0:Int)),j39,.ro (List.map (aN IntKind.i64) sv),.lit (.int .i64 sz),.lit (.int .i64 sG),.junk,.junk,.junk,.junk,.junk,.junk,.junk,.junk,.junk,.junk],[.box [.lit (.int .i64 s22),.lit (.int .i64 sD),.lit (.int .i64 sO),.lit (.int .i64 s25),.ro (List.map ap sa),.ro (List.map (aN IntKind.u64) sq),.ro (List.map aY sr),.ro (List.map cR ss)],.box [.lit (.bool false)],.box [.lit (.int .i64 s22),.lit (.int .i64 sD),.lit (.int .i64 sO),.lit (.int .i64 s25),.ro (List.map ap sa),.ro (List.map (aN IntKind.u64) sq),.ro (List.map aY sr),.ro (List.map cR ss)],.box [.lit (.int .i64 sB),.ro (List.map (aN IntKind.i64) sv),.lit (.int .i64 sL),.lit (.int .i64 sW),.lit (.int .i64 s33),.lit (.int .u64 sb),.lit (.int .u64 sc),.lit (.int .u64 sR),.lit (.int .i64 sP)]]⟩=ob (bX k   n sv sz sa sG) fun r=>some ((.lit (.int .i64 r),[.box [.lit (.int .i64 s22),.lit (.int .i64 sD),.lit (.int .i64 sO),.lit (.int .i64 s25),.ro (List.map ap sa),.ro (List.map (aN IntKind.u64) sq),.ro (List.map aY sr),.ro (List.map cR ss)],.box [.lit (.bool false)],.box [.lit (.int .i64 s22),.lit (.int .i64 sD),.lit (.int .i64 sO),.lit (.int .i64 s25),.ro (List.map ap sa),.ro (List.map (aN IntKind.u64) sq),.ro (List.map aY sr),.ro (List.map cR ss)],.box [.lit (.int .i64 sB),.ro (List.map (aN IntKind.i64) sv),.lit (.int .i64 sL),.lit (.int .i64 sW),.lit (.int .i64 s33),.lit (.int .u64 sb),.lit (.int .u64 sc),.lit (.int .u64 sR),.lit (.int .i64 sP)]])):=by
 intro n
 induction n with
 | zero=>intros;rfl
 | succ n ih=>
  intro sv sz sa sG s22 sD sO s25 sq sr ss sB sL sW s33 sb sc sR sP j39
  rw [bX]
  simp -implicitDefEqProofs only [adN,ZQ,YZ,ER,Ev,Di,dW,dX,kL,kX,ov,adO,Za,aK (g:=51),UY,SP,adL,acl,EM,Em,Es,DV,C1,D8,EQ,Eh,kN,adU,aaB,CU,kT,ad3,acx,adT,Zc,abS,Dv,Eg,kY,ly,Py,NX,NZ,nj,eb,adH,aco,aby,D2,lG,↓syP,syA,syD,simprocAttr,syE,ah,ag,af,syW,xQ,Sj,ih]
def bI (k:Nat)   : Nat→List Tys→Int→Tyt→Int→Option Int
 | 0,_,_,_,_=>none
 | n+1,s9,sS,sE,sH=>
 bif decide (sH<sS) then
 ob (idx s9 sH) fun xb=>
 bif decide (xb.1<(0:Int)) then
 some (sH)
 else
 bif decide ((6:Int)≤xb.1) then
 some (sH)
 else
 ob (bX k (k+29) xb.2.1 (↑xb.2.1.length:Int) sE (0:Int)) fun x60=>
 bif decide ((0:Int)≤x60) then
 some (sH)
 else
 bif xb.1 !=(0:Int) then
 bif (↑xb.2.1.length:Int)==(0:Int) then
 some (sH)
 else
 bI k   n (s9) (sS) (sE) (IntKind.i64.wrap (sH+(1:Int)))
 else
 bI k   n (s9) (sS) (sE) (IntKind.i64.wrap (sH+(1:Int)))
 else
 some ((-1:Int))
theorem nB (k:Nat)  : ∀ (n:Nat) (s9:List Tys) (sS:Int) (sE:Tyt) (sH:Int) ⦃s11 sX sT st:Int⦄ ⦃si:List Int⦄ ⦃sC:List Tyw⦄ ⦃j49:V⦄,itX (xX (xS (k+32)) 96 0 (k+32) false) DF (3) (av (xX (xS (k+32)) 96 0 (k+32) false) (aB (xS (k+32)).P Tryz.f96) CZ) n ⟨[.ro (List.map cR s9),.fn (Fn.func (53:FuncId)) [] [.ptr 0 0 0 0],uu,uu,.lit (.int .i64 (0:Int)),j49,.ro (List.map cR s9),.lit (.int .i64 sS),.lit (.int .i64 sH),.junk,.junk,.junk,.junk,.junk,.junk,.junk,.junk,.junk,.junk],[.box [.lit (.int .i64 s11),.lit (.int .i64 sX),.lit (.int .i64 sT),.lit (.int .i64 st),.ro (List.map ap sE),.ro (List.map (aN IntKind.u64) si),.ro (List.map aY sC),.ro (List.map cR s9)],.box [.lit (.bool false)],.box [.lit (.int .i64 s11),.lit (.int .i64 sX),.lit (.int .i64 sT),.lit (.int .i64 st),.ro (List.map ap sE),.ro (List.map (aN IntKind.u64) si),.ro (List.map aY sC),.ro (List.map cR s9)]]⟩=ob (bI k   n s9 sS sE sH) fun r=>some ((.lit (.int .i64 r),[.box [.lit (.int .i64 s11),.lit (.int .i64 sX),.lit (.int .i64 sT),.lit (.int .i64 st),.ro (List.map ap sE),.ro (List.map (aN IntKind.u64) si),.ro (List.map aY sC),.ro (List.map cR s9)],.box [.lit (.bool false)],.box [.lit (.int .i64 s11),.lit (.int .i64 sX),.lit (.int .i64 sT),.lit (.int .i64 st),.ro (List.map ap sE),.ro (List.map (aN IntKind.u64) si),.ro (List.map aY sC),.ro (List.map cR s9)]])):=by
 intro n
 induction n with
 | zero=>intros;rfl
 | succ n ih=>
  intro s9 sS sE sH s11 sX sT st si sC j49
  rw [bI]
  simp -implicitDefEqProofs only [adN,ZQ,YZ,ER,Ev,Di,dW,dX,kL,kX,ov,adO,Za,aK (g:=51),UY,SP,adL,acl,EM,Em,Es,DV,C1,D8,EQ,Eh,kN,adU,aaB,CU,kT,ad3,acx,adT,Zc,abS,Dv,Eg,kY,ly,Py,NX,NZ,nj,eb,adH,aco,aby,D2,lG,↓syP,syA,syD,simprocAttr,syE,ah,ag,af,syW,xQ,nM,Lg,ih]
def dQ (k:Nat) (v0:Typ)  : Nat→Int→Option Bool
 | 0,_=>none
 | n+1,s67=>
 bif decide (s67<(↑v0.2.2.2.1.length:Int)) then
 ob (idx v0.2.2.2.1 s67) fun xP=>
 ob (io (k+9) (v0.1.1,v0.1.2.1,v0.1.2.2.1,v0.1.2.2.2) v0.2.1 v0.2.2.1 s67 (xP.1,xP.2.1,(xP.2.2.1.1,xP.2.2.1.2.1,xP.2.2.1.2.2.1,xP.2.2.1.2.2.2.1,xP.2.2.1.2.2.2.2.1,xP.2.2.1.2.2.2.2.2.1,xP.2.2.1.2.2.2.2.2.2),xP.2.2.2.1,xP.2.2.2.2)) fun xc=>
 bif !xc then
 some (false)
 else
 dQ k v0  n (IntKind.i64.wrap (s67+(1:Int)))
 else
 ob (bI k (k+32) v0.2.2.2.2 (↑v0.2.2.2.2.length:Int) v0.2.1 (0:Int)) fun xf=>
 some (!decide ((0:Int)≤xf))
theorem rv (k:Nat) (v0_0_0 v0_0_1 v0_0_2 v0_0_3:Int) (v0_1:Tyt) (v0_2:List Int) (v0_3:List Tyw) (v0_4:List Tys):∀ (n:Nat) (s67:Int) ⦃s3 s4:Bool⦄ ⦃j65 j66:V⦄,rt none (bq (itX (xX (xS (k+33)) 94 0 (k+33) false) pP (4) (av (xX (xS (k+33)) 94 0 (k+33) false) (aB (xS (k+33)).P Tryz.f94) HQ) n ⟨[.yld 3,.ptr 2 0 0 0,uu,j65,j66,.ptr 2 0 0 6,.ro (List.map aY v0_3),.lit (.int .i64 (↑v0_3.length:Int)),.lit (.int .i64 s67),.junk,.junk,.junk,.junk,.junk,.junk,.junk,.junk,.junk,.junk,.junk,.junk,.junk,.junk,.junk,.junk,.junk,.junk,.junk,.junk,.junk],[.box [.lit (.int .i64 v0_0_0),.lit (.int .i64 v0_0_1),.lit (.int .i64 v0_0_2),.lit (.int .i64 v0_0_3),.ro (List.map ap v0_1),.ro (List.map (aN IntKind.u64) v0_2),.ro (List.map aY v0_3),.ro (List.map cR v0_4)],.box [.lit (.bool false)],.box [.lit (.int .i64 v0_0_0),.lit (.int .i64 v0_0_1),.lit (.int .i64 v0_0_2),.lit (.int .i64 v0_0_3),.ro (List.map ap v0_1),.ro (List.map (aN IntKind.u64) v0_2),.ro (List.map aY v0_3),.ro (List.map cR v0_4)],(.loop ⟨LoopState.ready,none,20,[.agg [.lit (.int .i64 v0_0_0),.lit (.int .i64 v0_0_1),.lit (.int .i64 v0_0_2),.lit (.int .i64 v0_0_3),.ro (List.map ap v0_1),.ro (List.map (aN IntKind.u64) v0_2),.ro (List.map aY v0_3),.ro (List.map cR v0_4)],.ptr 0 0 0 0,.ptr 1 0 0 0,.ptr 0 0 0 0,.agg [.lit (.int .i64 v0_0_0),.lit (.int .i64 v0_0_1),.lit (.int .i64 v0_0_2),.lit (.int .i64 v0_0_3)],.lit (.bool s3),.lit (.bool s4),.lit (.bool false),.ptr 0 0 0 6,.ro (List.map aY v0_3),.lit (.int .i64 (↑v0_3.length:Int)),.ptr 0 0 0 0,.ptr 0 0 0 0,.lit (.int .i64 v0_0_0),.lit (.bool ((↑v0_3.length:Int)!=v0_0_0)),.lit (.bool ((↑v0_3.length:Int)!=v0_0_0)),.lit (.bool false),.ptr 0 0 0 7,.ro (List.map cR v0_4),.lit (.int .i64 (↑v0_4.length:Int)),.lit (.bool (decide ((3:Int)<(↑v0_4.length:Int)))),.lit (.bool (decide ((3:Int)<(↑v0_4.length:Int)))),.agg [.lit (.int .i64 v0_0_0),.lit (.int .i64 v0_0_1),.lit (.int .i64 v0_0_2),.lit (.int .i64 v0_0_3),.ro (List.map ap v0_1),.ro (List.map (aN IntKind.u64) v0_2),.ro (List.map aY v0_3),.ro (List.map cR v0_4)],.fn (Fn.func (94:FuncId)) [] [.ptr 2 0 0 0],uu,uu,uu,uu,uu,uu],[(24:Tmp)],Np,Nt⟩)]⟩) (rfK (av (xX (xS (k+34)) 20 0 (k+34) false) (aB (xS (k+34)).P Tryz.f20) G5) [.agg [.lit (.int .i64 v0_0_0),.lit (.int .i64 v0_0_1),.lit (.int .i64 v0_0_2),.lit (.int .i64 v0_0_3),.ro (List.map ap v0_1),.ro (List.map (aN IntKind.u64) v0_2),.ro (List.map aY v0_3),.ro (List.map cR v0_4)],.ptr 0 0 0 0,.ptr 1 0 0 0,.ptr 0 0 0 0,.agg [.lit (.int .i64 v0_0_0),.lit (.int .i64 v0_0_1),.lit (.int .i64 v0_0_2),.lit (.int .i64 v0_0_3)],.lit (.bool s3),.lit (.bool s4),.lit (.bool false),.ptr 0 0 0 6,.ro (List.map aY v0_3),.lit (.int .i64 (↑v0_3.length:Int)),.ptr 0 0 0 0,.ptr 0 0 0 0,.lit (.int .i64 v0_0_0),.lit (.bool ((↑v0_3.length:Int)!=v0_0_0)),.lit (.bool ((↑v0_3.length:Int)!=v0_0_0)),.lit (.bool false),.ptr 0 0 0 7,.ro (List.map cR v0_4),.lit (.int .i64 (↑v0_4.length:Int)),.lit (.bool (decide ((3:Int)<(↑v0_4.length:Int)))),.lit (.bool (decide ((3:Int)<(↑v0_4.length:Int)))),.agg [.lit (.int .i64 v0_0_0),.lit (.int .i64 v0_0_1),.lit (.int .i64 v0_0_2),.lit (.int .i64 v0_0_3),.ro (List.map ap v0_1),.ro (List.map (aN IntKind.u64) v0_2),.ro (List.map aY v0_3),.ro (List.map cR v0_4)],.fn (Fn.func (94:FuncId)) [] [.ptr 2 0 0 0],uu,uu,uu,uu,uu,uu] (3)))=ob (dQ k ((v0_0_0,v0_0_1,v0_0_2,v0_0_3),v0_1,v0_2,v0_3,v0_4)  n s67) fun r=>some ((.lit (.bool r)),[]):=by
 intro n
 induction n with
 | zero=>intros;rfl
 | succ n ih=>
  intro s67 s3 s4 j65 j66
  rw [dQ]
  simp -implicitDefEqProofs only [adN,ZQ,YZ,ER,Ev,Di,dW,dX,kL,kX,ov,adO,Za,aK (g:=51),UY,SP,adL,acl,EM,Em,Es,DV,C1,D8,EQ,Eh,kN,adU,aaB,CU,kT,ad3,acx,adT,Zc,abS,Dv,Eg,kY,ly,Py,NX,NZ,nj,eb,adH,aco,aby,D2,lG,↓syP,syA,syD,simprocAttr,syE,ah,ag,af,syW,xQ,bL,A6,nB,TJ,ih]
def eY (k:Nat) (v0:Typ):Option Bool:=
 ob (bM v0.1) fun xV=>
 bif !xV then
 some false
 else
 bif (↑v0.2.2.2.1.length:Int)!=v0.1.1 then
 some false
 else
 bif decide (3<(↑v0.2.2.2.2.length:Int)) then
 some false
 else
 dQ k v0 (k+33) 0
theorem gw (k:Nat) (v0_0_0 v0_0_1 v0_0_2 v0_0_3:Int) (v0_1:Tyt) (v0_2:List Int) (v0_3:List Tyw) (v0_4:List Tys):xC (k+35) none 20 [.agg [.lit (.int .i64 v0_0_0),.lit (.int .i64 v0_0_1),.lit (.int .i64 v0_0_2),.lit (.int .i64 v0_0_3),.ro (List.map ap v0_1),.ro (List.map (aN .u64) v0_2),.ro (List.map aY v0_3),.ro (List.map cR v0_4)]]=ob (eY k ((v0_0_0,v0_0_1,v0_0_2,v0_0_3),v0_1,v0_2,v0_3,v0_4)) fun r=>some ((.lit (.bool r)),[]):=by
 rw [aK]
 unfold eY
 simp -implicitDefEqProofs only [adN,ZQ,YZ,ER,Ev,Di,dW,dX,kL,kX,ov,adO,Za,aK (g:=51),UY,SP,adL,acl,EM,Em,Es,DV,C1,D8,EQ,Eh,kN,adU,aaB,CU,kT,ad3,acx,adT,Zc,abS,Dv,Eg,kY,ly,Py,NX,NZ,nj,eb,adH,aco,aby,D2,lG,↓syP,syA,syD,simprocAttr,syE,ah,ag,af,syW,xQ,bL,rv k v0_0_0 v0_0_1 v0_0_2 v0_0_3 v0_1 v0_2 v0_3 v0_4]
end Go.Ab
set_option maxRecDepth 100000
set_option linter.unusedVariables false
set_option linter.unusedSimpArgs false
namespace Go.Ab
open Go.Proofs
def cC (k:Nat)   : Nat→Int→Int→Int→Int→Tyt→List Int→List Tyw→List Tys→Int→List Tyw→Int→List Tys→Option (Int×Int×Int×Int×Tyt×List Int×List Tyw×List Tys×List Tyw×List Tys)
 | 0,_,_,_,_,_,_,_,_,_,_,_,_=>none
 | n+1,sa,sq,sr,ss,sb,sc,sR,sP,sU,s47,su,sH=>
 bif decide (su<sU) then
 bif decide ((0:Int)≤su∧su.toNat<sP.length) then
 ob (sH[su.toNat]?) fun xc=>
 ob (aO 8 xc.2.1) fun xf=>
 bif decide ((0:Int)≤su∧su.toNat<sP.length) then
 ob (sH[su.toNat]?) fun xV=>
 cC k   n (sa) (sq) (sr) (ss) (sb) (sc) (sR) (sP) (sU) (s47) (IntKind.i64.wrap (su+(1:Int))) (sH.set su.toNat (xV.1,xf,xV.2.2.1,xV.2.2.2.1,xV.2.2.2.2.1,xV.2.2.2.2.2.1,xV.2.2.2.2.2.2.1,xV.2.2.2.2.2.2.2.1,xV.2.2.2.2.2.2.2.2))
 else
 none
 else
 none
 else
 some (sa,sq,sr,ss,sb,sc,sR,sP,s47,sH)
theorem nT (k:Nat)  : ∀ (n:Nat) (sa sq sr ss:Int) (sb:Tyt) (sc:List Int) (sR:List Tyw) (sP:List Tys) (sU:Int) (s47:List Tyw) (su:Int) (sH:List Tys) ⦃sB:Tyt⦄ ⦃sL:List Int⦄ ⦃sW:List Tyw⦄ ⦃s33:List Tys⦄ ⦃sk:Int⦄ ⦃j46 j48:V⦄,itX (xX (xS (k+61)) 41 0 (k+61) false) Hv (8) (av (xX (xS (k+61)) 41 0 (k+61) false) (aB (xS (k+61)).P Tryz.f41) Hn) n ⟨[.agg [.lit (.int .i64 sa),.lit (.int .i64 sq),.lit (.int .i64 sr),.lit (.int .i64 ss),.ro (List.map ap sB),.ro (List.map (aN IntKind.u64) sL),.ro (List.map aY sW),.ro (List.map cR s33)],.ptr 0 0 0 0,.ptr 5 0 0 0,j46,j48,.ptr 0 0 0 4,.ro (List.map ap sB),.ro (List.map ap sb),.ptr 0 0 0 5,.ro (List.map (aN IntKind.u64) sL),.ro (List.map (aN IntKind.u64) sc),.ptr 0 0 0 4,.ptr 0 0 0 5,.ptr 0 0 0 6,.ro (List.map aY sW),.own 6 0 sR.length,.ptr 0 0 0 7,.ro (List.map cR s33),.own 7 0 sP.length,.ptr 0 0 0 6,.ptr 0 0 0 7,.ptr 0 0 0 6,.own 6 0 sR.length,.lit (.int .i64 sk),.junk,.junk,.junk,.junk,.junk,.junk,.junk,.junk,.junk,.junk,.junk,.junk,.junk,.junk,.junk,.junk,.ptr 0 0 0 7,.own 7 0 sP.length,.lit (.int .i64 sU),.lit (.int .i64 su),.junk,.junk,.junk,.junk,.junk,.junk,.junk,.junk,.junk,.junk,.junk,.junk,.junk,.junk,.junk,uu],[.box [.lit (.int .i64 sa),.lit (.int .i64 sq),.lit (.int .i64 sr),.lit (.int .i64 ss),.ro (List.map ap sb),.ro (List.map (aN IntKind.u64) sc),.own 6 0 sR.length,.own 7 0 sP.length],.rows 0 [] 0 true,.rows 0 [] 0 true,.rows 0 [] 0 true,.rows 0 [] 0 true,.box [.lit (.int .i64 (0:Int)),.lit (.int .i64 (0:Int)),.lit (.int .i64 (0:Int)),.lit (.int .i64 (0:Int)),.own 1 0 0,.own 2 0 0,.own 3 0 0,.own 4 0 0],.rows 11 (List.map aY s47) 0 true,.rows 9 (List.map cR sH) 0 true]⟩=ob (cC k   n sa sq sr ss sb sc sR sP sU s47 su sH) fun r=>some ((.agg [.lit (.int .i64 r.1),.lit (.int .i64 r.2.1),.lit (.int .i64 r.2.2.1),.lit (.int .i64 r.2.2.2.1),.ro (List.map ap r.2.2.2.2.1),.ro (List.map (aN IntKind.u64) r.2.2.2.2.2.1),.own 6 0 r.2.2.2.2.2.2.1.length,.own 7 0 r.2.2.2.2.2.2.2.1.length],[.box [.lit (.int .i64 r.1),.lit (.int .i64 r.2.1),.lit (.int .i64 r.2.2.1),.lit (.int .i64 r.2.2.2.1),.ro (List.map ap r.2.2.2.2.1),.ro (List.map (aN IntKind.u64) r.2.2.2.2.2.1),.own 6 0 r.2.2.2.2.2.2.1.length,.own 7 0 r.2.2.2.2.2.2.2.1.length],.rows 0 [] 0 true,.rows 0 [] 0 true,.rows 0 [] 0 true,.rows 0 [] 0 true,.box [.lit (.int .i64 r.1),.lit (.int .i64 r.2.1),.lit (.int .i64 r.2.2.1),.lit (.int .i64 r.2.2.2.1),.ro (List.map ap r.2.2.2.2.1),.ro (List.map (aN IntKind.u64) r.2.2.2.2.2.1),.own 6 0 r.2.2.2.2.2.2.1.length,.own 7 0 r.2.2.2.2.2.2.2.1.length],.rows 11 (List.map aY r.2.2.2.2.2.2.2.2.1) 0 true,.rows 9 (List.map cR r.2.2.2.2.2.2.2.2.2) 0 true])):=by
 intro n
 induction n with
 | zero=>intros;rfl
 | succ n ih=>
  intro sa sq sr ss sb sc sR sP sU s47 su sH sB sL sW s33 sk j46 j48
  rw [cC]
  simp -implicitDefEqProofs only [adX,ab9,YW,Ee,kS,adP,Zb,aa1,Eu,EC,lD,lI,aK (g:=41),adS,ady,DY,lq,ad4,ac7,adM,ach,adK,Y3,↓syP,syA,syD,simprocAttr,syE,ah,ag,af,syW,xQ,SK,ih]
def cF (k:Nat)   : Nat→Int→Int→Int→Int→Tyt→List Int→List Tyw→List Tys→Int→Int→List Tyw→Option (Int×Int×Int×Int×Tyt×List Int×List Tyw×List Tys×List Tyw×List Tys)
 | 0,_,_,_,_,_,_,_,_,_,_,_=>none
 | n+1,s6,s7,s8,s9,st,sE,si,sC,s18,sD,sO=>
 bif decide (sD<s18) then
 bif decide ((0:Int)≤sD∧sD.toNat<si.length) then
 ob (sO[sD.toNat]?) fun x70=>
 ob (aO 24 x70.2.1) fun x71=>
 bif decide ((0:Int)≤sD∧sD.toNat<si.length) then
 ob (sO[sD.toNat]?) fun xW=>
 cF k   n (s6) (s7) (s8) (s9) (st) (sE) (si) (sC) (s18) (IntKind.i64.wrap (sD+(1:Int))) (sO.set sD.toNat (xW.1,x71,(xW.2.2.1.1,xW.2.2.1.2.1,xW.2.2.1.2.2.1,xW.2.2.1.2.2.2.1,xW.2.2.1.2.2.2.2.1,xW.2.2.1.2.2.2.2.2.1,xW.2.2.1.2.2.2.2.2.2),xW.2.2.2.1,xW.2.2.2.2))
 else
 none
 else
 none
 else
 cC k  (k+61) (s6) (s7) (s8) (s9) (st) (sE) (si) (sC) ((↑sC.length:Int)) (sO) ((0:Int)) (sC)
theorem iR (k:Nat)  : ∀ (n:Nat) (s6 s7 s8 s9:Int) (st:Tyt) (sE:List Int) (si:List Tyw) (sC:List Tys) (s18 sD:Int) (sO:List Tyw) ⦃sS:Tyt⦄ ⦃s11:List Int⦄ ⦃sX:List Tyw⦄ ⦃sT:List Tys⦄ ⦃j22:V⦄,itX (xX (xS (k+61)) 41 0 (k+61) false) G3 (8) (av (xX (xS (k+61)) 41 0 (k+61) false) (aB (xS (k+61)).P Tryz.f41) Ir) n ⟨[.agg [.lit (.int .i64 s6),.lit (.int .i64 s7),.lit (.int .i64 s8),.lit (.int .i64 s9),.ro (List.map ap sS),.ro (List.map (aN IntKind.u64) s11),.ro (List.map aY sX),.ro (List.map cR sT)],.ptr 0 0 0 0,.ptr 5 0 0 0,j22,uu,.ptr 0 0 0 4,.ro (List.map ap sS),.ro (List.map ap st),.ptr 0 0 0 5,.ro (List.map (aN IntKind.u64) s11),.ro (List.map (aN IntKind.u64) sE),.ptr 0 0 0 4,.ptr 0 0 0 5,.ptr 0 0 0 6,.ro (List.map aY sX),.own 6 0 si.length,.ptr 0 0 0 7,.ro (List.map cR sT),.own 7 0 sC.length,.ptr 0 0 0 6,.ptr 0 0 0 7,.ptr 0 0 0 6,.own 6 0 si.length,.lit (.int .i64 s18),.lit (.int .i64 sD),.junk,.junk,.junk,.junk,.junk,.junk,.junk,.junk,.junk,.junk,.junk,.junk,.junk,.junk,.junk,uu,uu,uu,uu,uu,uu,uu,uu,uu,uu,uu,uu,uu,uu,uu,uu,uu,uu,uu,uu],[.box [.lit (.int .i64 s6),.lit (.int .i64 s7),.lit (.int .i64 s8),.lit (.int .i64 s9),.ro (List.map ap st),.ro (List.map (aN IntKind.u64) sE),.own 6 0 si.length,.own 7 0 sC.length],.rows 0 [] 0 true,.rows 0 [] 0 true,.rows 0 [] 0 true,.rows 0 [] 0 true,.box [.lit (.int .i64 (0:Int)),.lit (.int .i64 (0:Int)),.lit (.int .i64 (0:Int)),.lit (.int .i64 (0:Int)),.own 1 0 0,.own 2 0 0,.own 3 0 0,.own 4 0 0],.rows 11 (List.map aY sO) 0 true,.rows 9 (List.map cR sC) 0 true]⟩=ob (cF k   n s6 s7 s8 s9 st sE si sC s18 sD sO) fun r=>some ((.agg [.lit (.int .i64 r.1),.lit (.int .i64 r.2.1),.lit (.int .i64 r.2.2.1),.lit (.int .i64 r.2.2.2.1),.ro (List.map ap r.2.2.2.2.1),.ro (List.map (aN IntKind.u64) r.2.2.2.2.2.1),.own 6 0 r.2.2.2.2.2.2.1.length,.own 7 0 r.2.2.2.2.2.2.2.1.length],[.box [.lit (.int .i64 r.1),.lit (.int .i64 r.2.1),.lit (.int .i64 r.2.2.1),.lit (.int .i64 r.2.2.2.1),.ro (List.map ap r.2.2.2.2.1),.ro (List.map (aN IntKind.u64) r.2.2.2.2.2.1),.own 6 0 r.2.2.2.2.2.2.1.length,.own 7 0 r.2.2.2.2.2.2.2.1.length],.rows 0 [] 0 true,.rows 0 [] 0 true,.rows 0 [] 0 true,.rows 0 [] 0 true,.box [.lit (.int .i64 r.1),.lit (.int .i64 r.2.1),.lit (.int .i64 r.2.2.1),.lit (.int .i64 r.2.2.2.1),.ro (List.map ap r.2.2.2.2.1),.ro (List.map (aN IntKind.u64) r.2.2.2.2.2.1),.own 6 0 r.2.2.2.2.2.2.1.length,.own 7 0 r.2.2.2.2.2.2.2.1.length],.rows 11 (List.map aY r.2.2.2.2.2.2.2.2.1) 0 true,.rows 9 (List.map cR r.2.2.2.2.2.2.2.2.2) 0 true])):=by
 intro n
 induction n with
 | zero=>intros;rfl
 | succ n ih=>
  intro s6 s7 s8 s9 st sE si sC s18 sD sO sS s11 sX sT j22
  rw [cF]
  simp -implicitDefEqProofs only [adX,ab9,YW,Ee,kS,adP,Zb,aa1,Eu,EC,lD,lI,aK (g:=41),adS,ady,DY,lq,ad4,ac7,adM,ach,adK,Y3,↓syP,syA,syD,simprocAttr,syE,ah,ag,af,syW,xQ,TL,ih,nT k ]
def bC (k:Nat) (v0:Typ) (v1:Tye)  : Nat→Int→Int→Int→Int→Tyt→List Tyw→List Tys→List Tyw→List Tys→Tye→Int→List Int→Nat→Option (Typ×Tye)
 | 0,_,_,_,_,_,_,_,_,_,_,_,_,_=>none
 | n+1,sI,sJ,sM,sN,sl,sm,sj,so,sY,sA,se,sf,sQ=>
 bif decide (se<(↑v1.length:Int)) then
 ob (idx v1 se) fun xD=>
 ob (iQ (xD.1,xD.2.1,xD.2.2) v0.1.1 (↑v0.2.2.2.2.length:Int)) fun xo=>
 bif xo then
 bif xD.1==(0:Int) then
 bif decide ((0:Int)≤xD.2.1∧xD.2.1.toNat<sm.length) then
 ob (so[xD.2.1.toNat]?) fun xL=>
 ob (iF k (sI,sJ,sM,sN) sl sf xD.2.1 (xL.1,xL.2.1,(xL.2.2.1.1,xL.2.2.1.2.1,xL.2.2.1.2.2.1,xL.2.2.1.2.2.2.1,xL.2.2.1.2.2.2.2.1,xL.2.2.1.2.2.2.2.2.1,xL.2.2.1.2.2.2.2.2.2),xL.2.2.2.1,xL.2.2.2.2) xD.2.2) fun xI=>
 bif decide ((0:Int)≤xD.2.1∧xD.2.1.toNat<sm.length) then
 ob (so[xD.2.1.toNat]?) fun xE=>
 ck (sQ==3||sQ==0) (
 bif room (sA++xI.2.2).length 24 then
 bC k v0 v1  n (sI) (sJ) (sM) (sN) (sl) (sm) (sj) (so.set xD.2.1.toNat (xI.2.1.1,xI.2.1.2.1,(xI.2.1.2.2.1.1,xI.2.1.2.2.1.2.1,xI.2.1.2.2.1.2.2.1,xI.2.1.2.2.1.2.2.2.1,xI.2.1.2.2.1.2.2.2.2.1,xI.2.1.2.2.1.2.2.2.2.2.1,xI.2.1.2.2.1.2.2.2.2.2.2),xI.2.1.2.2.2.1,xI.2.1.2.2.2.2)) (sY) (sA++xI.2.2) (IntKind.i64.wrap (se+(1:Int))) (xI.1) (3)
 else
 none)
 else
 none
 else
 none
 else
 bif xD.1==(1:Int) then
 bif decide ((0:Int)≤xD.2.1∧xD.2.1.toNat<sj.length) then
 ob (sY[xD.2.1.toNat]?) fun xT=>
 ob (fG (k+36) (sI,sJ,sM,sN) sl sf (xT.1,xT.2.1,xT.2.2.1,xT.2.2.2.1,xT.2.2.2.2.1,xT.2.2.2.2.2.1,xT.2.2.2.2.2.2.1,xT.2.2.2.2.2.2.2.1,xT.2.2.2.2.2.2.2.2)) fun xd=>
 bif xd then
 bif decide ((0:Int)≤xD.2.1∧xD.2.1.toNat<sj.length) then
 ob (sY[xD.2.1.toNat]?) fun xU=>
 ob (f5 (k+20) (sI,sJ,sM,sN) sl sf xD.2.1 (xU.1,xU.2.1,xU.2.2.1,xU.2.2.2.1,xU.2.2.2.2.1,xU.2.2.2.2.2.1,xU.2.2.2.2.2.2.1,xU.2.2.2.2.2.2.2.1,xU.2.2.2.2.2.2.2.2)) fun xJ=>
 bif decide ((0:Int)≤xD.2.1∧xD.2.1.toNat<sj.length) then
 ob (sY[xD.2.1.toNat]?) fun x158=>
 ck (sQ==3||sQ==0) (
 bif room (sA++xJ.2.2).length 24 then
 bC k v0 v1  n (sI) (sJ) (sM) (sN) (sl) (sm) (sj) (so) (sY.set xD.2.1.toNat (xJ.2.1.1,xJ.2.1.2.1,xJ.2.1.2.2.1,xJ.2.1.2.2.2.1,xJ.2.1.2.2.2.2.1,xJ.2.1.2.2.2.2.2.1,xJ.2.1.2.2.2.2.2.2.1,xJ.2.1.2.2.2.2.2.2.2.1,xJ.2.1.2.2.2.2.2.2.2.2)) (sA++xJ.2.2) (IntKind.i64.wrap (se+(1:Int))) (xJ.1) (3)
 else
 none)
 else
 none
 else
 none
 else
 ck (sQ==3||sQ==0) (
 bif room sA.length 24 then
 bC k v0 v1  n (sI) (sJ) (sM) (sN) (sl) (sm) (sj) (so) (sY) (sA) (IntKind.i64.wrap (se+(1:Int))) (sf) (3)
 else
 none)
 else
 none
 else
 bif xD.1==(2:Int) then
 ob (bv sf (3:Int) (1:Int)) fun xg=>
 ck (sQ==3||sQ==0) (
 bif room sA.length 24 then
 bC k v0 v1  n (sI) (sJ) (sM) (sN) (sl) (sm) (sj) (so) (sY) (sA) (IntKind.i64.wrap (se+(1:Int))) (xg) (3)
 else
 none)
 else
 ck (sQ==3||sQ==0) (
 bif room sA.length 24 then
 bC k v0 v1  n (sI) (sJ) (sM) (sN) (sl) (sm) (sj) (so) (sY) (sA) (IntKind.i64.wrap (se+(1:Int))) (sf) (3)
 else
 none)
 else
 bC k v0 v1  n (sI) (sJ) (sM) (sN) (sl) (sm) (sj) (so) (sY) (sA) (IntKind.i64.wrap (se+(1:Int))) (sf) (sQ)
 else
 ck (decide (sm.length≤so.length)) (
 ck (decide (sj.length≤sY.length)) (
 some ((((sI),(sJ),(sM),(sN)),(sl),(sf),(List.take sm.length so),(List.take sj.length sY)),(sA))))
theorem mb (k:Nat) (v0_0_0 v0_0_1 v0_0_2 v0_0_3:Int) (v0_1:Tyt) (v0_2:List Int) (v0_3:List Tyw) (v0_4:List Tys) (v1:Tye):∀ (n:Nat) (sI sJ sM sN:Int) (sl:Tyt) (sm:List Tyw) (sj:List Tys) (so:List Tyw) (sY:List Tys) (sA:Tye) (se:Int) (sf:List Int) (sQ:Nat) ⦃s91:List Int⦄ ⦃s94 s95:Bool⦄ ⦃sF:Nat⦄ ⦃j117:V⦄,rt none (itX (xX (xS (k+62)) 17 0 (k+62) false) Ei (15) (av (xX (xS (k+62)) 17 0 (k+62) false) (aB (xS (k+62)).P Tryz.f17) Ht) n ⟨[.agg [.lit (.int .i64 v0_0_0),.lit (.int .i64 v0_0_1),.lit (.int .i64 v0_0_2),.lit (.int .i64 v0_0_3),.ro (List.map ap v0_1),.ro (List.map (aN IntKind.u64) v0_2),.ro (List.map aY v0_3),.ro (List.map cR v0_4)],.ro (List.map gf v1),.ptr 0 0 0 0,uu,.ptr 5 0 0 0,.own 6 0 0,.ptr 13 0 0 0,.own 14 sF sA.length,uu,j117,.agg [.lit (.int .i64 v0_0_0),.lit (.int .i64 v0_0_1),.lit (.int .i64 v0_0_2),.lit (.int .i64 v0_0_3),.ro (List.map ap v0_1),.ro (List.map (aN IntKind.u64) v0_2),.ro (List.map aY v0_3),.ro (List.map cR v0_4)],.agg [.lit (.int .i64 sI),.lit (.int .i64 sJ),.lit (.int .i64 sM),.lit (.int .i64 sN),.ro (List.map ap sl),.ro (List.map (aN IntKind.u64) s91),.own 7 0 sm.length,.own 8 0 sj.length],.agg [.lit (.int .i64 v0_0_0),.lit (.int .i64 v0_0_1),.lit (.int .i64 v0_0_2),.lit (.int .i64 v0_0_3),.ro (List.map ap v0_1),.ro (List.map (aN IntKind.u64) v0_2),.ro (List.map aY v0_3),.ro (List.map cR v0_4)],.lit (.bool s94),.lit (.bool s95),uu,.ro (List.map gf v1),.lit (.int .i64 (↑v1.length:Int)),.lit (.int .i64 se),.junk,.junk,.junk,.junk,.junk,.junk,.junk,.junk,.junk,.junk,.junk,.junk,.junk,.junk,.junk,.junk,uu,uu],[.box [.lit (.int .i64 v0_0_0),.lit (.int .i64 v0_0_1),.lit (.int .i64 v0_0_2),.lit (.int .i64 v0_0_3),.ro (List.map ap v0_1),.ro (List.map (aN IntKind.u64) v0_2),.ro (List.map aY v0_3),.ro (List.map cR v0_4)],.rows 0 [] 0 true,.rows 0 [] 0 true,.rows 0 [] 0 true,.rows 0 [] 0 true,.box [.lit (.int .i64 (0:Int)),.lit (.int .i64 (0:Int)),.lit (.int .i64 (0:Int)),.lit (.int .i64 (0:Int)),.own 1 0 0,.own 2 0 0,.own 3 0 0,.own 4 0 0],.rows 0 [] 0 true,.rows 11 (List.map aY so) 0 true,.rows 9 (List.map cR sY) 0 true,.rows 0 [] 0 true,.rows 0 [] 0 true,.rows 0 [] 0 true,.rows 0 [] 0 true,.box [.lit (.int .i64 sI),.lit (.int .i64 sJ),.lit (.int .i64 sM),.lit (.int .i64 sN),.ro (List.map ap sl),.ro (List.map (aN IntKind.u64) sf),.own 7 0 sm.length,.own 8 0 sj.length],.rows sQ (List.map aZ sA) sF true]⟩)=ob (bC k ((v0_0_0,v0_0_1,v0_0_2,v0_0_3),v0_1,v0_2,v0_3,v0_4) v1  n sI sJ sM sN sl sm sj so sY sA se sf sQ) fun r=>some ((.tup [.agg [.lit (.int .i64 r.1.1.1),.lit (.int .i64 r.1.1.2.1),.lit (.int .i64 r.1.1.2.2.1),.lit (.int .i64 r.1.1.2.2.2),.ro (List.map ap r.1.2.1),.ro (List.map (aN .u64) r.1.2.2.1),.ro (List.map aY r.1.2.2.2.1),.ro (List.map cR r.1.2.2.2.2)],.ro (List.map aZ r.2)]),[]):=by
 intro n
 induction n with
 | zero=>intros;rfl
 | succ n ih=>
  intro sI sJ sM sN sl sm sj so sY sA se sf sQ s91 s94 s95 sF j117
  rw [bC]
  simp -implicitDefEqProofs only [adX,ab9,YW,Ee,kS,adP,Zb,aa1,Eu,EC,lD,lI,aK (g:=41),adS,ady,DY,lq,ad4,ac7,adM,ach,adK,Y3,↓syP,syA,syD,simprocAttr,syE,ah,ag,af,syW,xQ,er,ra,Bo,Gg,fF,gw,GE,iR,TG,ih]
def fK (k:Nat) (v0:Typ) (v1:Tye):Option (Typ×Tye):=
 ob (eB (k+59) v0.2.1) fun xN=>
 ob (aO 8 v0.2.2.1) fun xH=>
 ob (aO 104 v0.2.2.2.1) fun xa=>
 ob (aO 88 v0.2.2.2.2) fun xh=>
 ob (cF k (k+61) v0.1.1 v0.1.2.1 v0.1.2.2.1 v0.1.2.2.2 xN xH xa xh (↑xa.length:Int) 0 xa) fun xB=>
 ck (decide (xB.2.2.2.2.2.2.1.length≤xB.2.2.2.2.2.2.2.2.1.length)) (
 ck (decide (xB.2.2.2.2.2.2.2.1.length≤xB.2.2.2.2.2.2.2.2.2.length)) (
 ob (eY (k+27) v0) fun xi=>
 bif !xi then
 ck (decide (xB.2.2.2.2.2.2.1.length≤(List.take xB.2.2.2.2.2.2.1.length xB.2.2.2.2.2.2.2.2.1).length)) (
 ck (decide (xB.2.2.2.2.2.2.2.1.length≤(List.take xB.2.2.2.2.2.2.2.1.length xB.2.2.2.2.2.2.2.2.2).length)) (
 some (((xB.1,xB.2.1,xB.2.2.1,xB.2.2.2.1),xB.2.2.2.2.1,xB.2.2.2.2.2.1,(List.take xB.2.2.2.2.2.2.1.length (List.take xB.2.2.2.2.2.2.1.length xB.2.2.2.2.2.2.2.2.1)),(List.take xB.2.2.2.2.2.2.2.1.length (List.take xB.2.2.2.2.2.2.2.1.length xB.2.2.2.2.2.2.2.2.2))),[])))
 else
 bC k v0 v1 (k+62) xB.1 xB.2.1 xB.2.2.1 xB.2.2.2.1 xB.2.2.2.2.1 xB.2.2.2.2.2.2.1 xB.2.2.2.2.2.2.2.1 (List.take xB.2.2.2.2.2.2.1.length xB.2.2.2.2.2.2.2.2.1) (List.take xB.2.2.2.2.2.2.2.1.length xB.2.2.2.2.2.2.2.2.2) ([]) 0 xB.2.2.2.2.2.1 0))
theorem Ax (k:Nat) (v0_0_0 v0_0_1 v0_0_2 v0_0_3:Int) (v0_1:Tyt) (v0_2:List Int) (v0_3:List Tyw) (v0_4:List Tys) (v1:Tye):xC (k+63) none 17 [.agg [.lit (.int .i64 v0_0_0),.lit (.int .i64 v0_0_1),.lit (.int .i64 v0_0_2),.lit (.int .i64 v0_0_3),.ro (List.map ap v0_1),.ro (List.map (aN .u64) v0_2),.ro (List.map aY v0_3),.ro (List.map cR v0_4)],.ro (List.map gf v1)]=ob (fK k ((v0_0_0,v0_0_1,v0_0_2,v0_0_3),v0_1,v0_2,v0_3,v0_4) v1) fun r=>some ((.tup [.agg [.lit (.int .i64 r.1.1.1),.lit (.int .i64 r.1.1.2.1),.lit (.int .i64 r.1.1.2.2.1),.lit (.int .i64 r.1.1.2.2.2),.ro (List.map ap r.1.2.1),.ro (List.map (aN .u64) r.1.2.2.1),.ro (List.map aY r.1.2.2.2.1),.ro (List.map cR r.1.2.2.2.2)],.ro (List.map aZ r.2)]),[]):=by
 rw [aK]
 unfold fK
 have hl0:=fun (xK:Int×Int×Int×Int×Tyt×List Int×List Tyw×List Tys×List Tyw×List Tys)=>mb k v0_0_0 v0_0_1 v0_0_2 v0_0_3 v0_1 v0_2 v0_3 v0_4 v1 (k+62) (xK.fst) (xK.snd.fst) (xK.snd.snd.fst) (xK.snd.snd.snd.fst) (xK.snd.snd.snd.snd.fst) (xK.snd.snd.snd.snd.snd.snd.fst) (xK.snd.snd.snd.snd.snd.snd.snd.fst) (List.take xK.snd.snd.snd.snd.snd.snd.fst.length xK.snd.snd.snd.snd.snd.snd.snd.snd.fst) (List.take xK.snd.snd.snd.snd.snd.snd.snd.fst.length xK.snd.snd.snd.snd.snd.snd.snd.snd.snd) ([]) ((0:Int)) (xK.snd.snd.snd.snd.snd.fst) (0)
 try simp -implicitDefEqProofs only [List.map_nil,List.length_nil] at hl0
 simp -implicitDefEqProofs only [adX,ab9,YW,Ee,kS,adP,Zb,aa1,Eu,EC,lD,lI,aK (g:=41),adS,ady,DY,lq,ad4,ac7,adM,ach,adK,Y3,↓syP,syA,syD,simprocAttr,syE,ah,ag,af,syW,xQ,fF,gw,iR,mb k v0_0_0 v0_0_1 v0_0_2 v0_0_3 v0_1 v0_2 v0_3 v0_4 v1,hl0]
 all_goals simp -implicitDefEqProofs only [List.map_nil]
end Go.Ab
set_option maxRecDepth 100000
set_option linter.unusedVariables false
set_option linter.unusedSimpArgs false
namespace Go.Ab
open Go.Proofs
def bB (k:Nat)   : Nat→Tyt→Int→Nat→List Int→Int→Nat→Option (Nat×List Int×Nat)
 | 0,_,_,_,_,_,_=>none
 | n+1,s7,sS,sX,sT,sE,sC=>
 bif decide (sE<sS) then
 ob (eE k s7 sE) fun x24=>
 bif x24==(-1:Int) then
 ck (sC==1||sC==0) (
 bif room (sT++[sE]).length 8 then
 bB k   n (s7) (sS) (sX+1) (sT++[sE]) (IntKind.i64.wrap (sE+(1:Int))) (1)
 else
 none)
 else
 bB k   n (s7) (sS) (sX) (sT) (IntKind.i64.wrap (sE+(1:Int))) (sC)
 else
 some (sX,sT,sC)
theorem cY (k:Nat)  : ∀ (n:Nat) (s7:Tyt) (sS:Int) (sX:Nat) (sT:List Int) (sE:Int) (sC:Nat) ⦃s8 s9:Bool⦄ ⦃j14:V⦄,itX (xX (xS (k+20)) 57 0 (k+20) false) A1 (2) (av (xX (xS (k+20)) 57 0 (k+20) false) (aB (xS (k+20)).P Tryz.f57) DZ) n ⟨[.ro (List.map ap s7),uu,.own 0 0 0,.own 1 sX sT.length,j14,.ro (List.map ap s7),.lit (.bool s8),.lit (.bool s9),.ro (List.map ap s7),.lit (.int .i64 sS),.lit (.int .i64 sE),.junk,.junk,.junk,.junk,.junk,.junk,.junk,.junk,.junk,.junk,.junk,uu],[.rows 0 [] 0 true,.rows sC (List.map (aN IntKind.i64) sT) sX true]⟩=ob (bB k   n s7 sS sX sT sE sC) fun r=>some ((.own 1 r.1 r.2.1.length,[.rows 0 [] 0 true,.rows r.2.2 (List.map (aN IntKind.i64) r.2.1) r.1 true])):=by
 intro n
 induction n with
 | zero=>intros;rfl
 | succ n ih=>
  intro s7 sS sX sT sE sC s8 s9 j14
  rw [bB]
  simp -implicitDefEqProofs only [abV,YP,YK,Ah,AT,AF,AZ,AJ,iy,ik,iB,iw,ac0,YO,YN,Aq,ir,aK (g:=57),↓syP,syA,syD,simprocAttr,syE,ah,ag,af,syW,xQ,u5,Tj,ih]
theorem fm (k:Nat) (v1:Tyt):∀ ⦃s8 s9:Bool⦄ ⦃j14:V⦄,itX (xX (xS (k+20)) 57 0 (k+20) false) A1 2 (av (xX (xS (k+20)) 57 0 (k+20) false) (aB (xS (k+20)).P Tryz.f57) DZ) (k+20) (St.mk [.ro (List.map ap v1),uu,.own 0 0 0,.own 1 0 0,j14,.ro (List.map ap v1),.lit (.bool s8),.lit (.bool s9),.ro (List.map ap v1),.lit (.int .i64 (↑v1.length:Int)),.lit (.int .i64 (0:Int)),.junk,.junk,.junk,.junk,.junk,.junk,.junk,.junk,.junk,.junk,.junk,uu] [.rows 0 [] 0 true,.rows 0 [] 0 true])=ob (bB k (k+20) v1 (↑v1.length:Int) 0 [] (0:Int) 0) fun r ↦ some (.own 1 r.fst r.snd.fst.length,[.rows 0 [] 0 true,.rows r.snd.snd (List.map (aN IntKind.i64) r.snd.fst) r.fst true]):=by
 have h:=cY k  (k+20) (v1) ((↑v1.length:Int)) (0) ([]) ((0:Int)) (0)
 simp -implicitDefEqProofs only [List.map_nil,List.length_nil] at h
 exact h
def cL (k:Nat) (v0:(Int×Int×Int×Int)) (v1:Tyt) (v2:(List (List Int))) (o0:Tyt→List Int→Nat→List Tyw→Int→List Tys→Nat→Nat→List Int→Option (Typ×Bool)):Nat→List Int→Tyt→List Int→Int→Nat→List Tyw→Nat→Int→List Int→Int→List Tys→Nat→Option (Typ×Bool)
 | 0,_,_,_,_,_,_,_,_,_,_,_,_=>none
 | n+1,s81,sI,sJ,sM,sN,s105,sZ,s110,sp,s130,sx,s134=>
 bif decide (s110<sM) then
 ob (idx s81 s110) fun xg=>
 ck (decide (sZ≤sp.length)) (
 ob (dq (k+20) (List.take sZ sp) xg) fun xN=>
 bif decide (xN<(0:Int)) then
 some (((((0:Int)),((0:Int)),((0:Int)),((0:Int))),[],[],[],[]),(false))
 else
 ck (sN==1) (
 ck (decide (sZ≤sp.length∧(0:Int)≤xN∧xN<IntKind.i64.wrap (xN+(1:Int))∧(IntKind.i64.wrap (xN+(1:Int))).toNat≤sZ∧sZ≤9223372036854775807)) (
 cL k v0 v1 v2 o0 n (s81) (sI) (sJ) (sM) (1) (s105) (sZ - ((IntKind.i64.wrap (xN+(1:Int))).toNat - xN.toNat)) (IntKind.i64.wrap (s110+(1:Int))) (Do (List.take sZ sp) xN.toNat (IntKind.i64.wrap (xN+(1:Int))).toNat++List.drop sZ sp) (s130) (sx) (s134))))
 else
 ob (gF s81) fun xH=>
 ck (s134==9||s134==0) (
 bif room (sx++[(xH.1,xH.2.1,xH.2.2.1,xH.2.2.2.1,xH.2.2.2.2.1,xH.2.2.2.2.2.1,xH.2.2.2.2.2.2.1,xH.2.2.2.2.2.2.2.1,xH.2.2.2.2.2.2.2.2)]).length 88 then
 o0 (sI) (sJ) (sN) (s105) (IntKind.i64.wrap (s130+(1:Int))) (sx++[(xH.1,xH.2.1,xH.2.2.1,xH.2.2.2.1,xH.2.2.2.2.1,xH.2.2.2.2.2.1,xH.2.2.2.2.2.2.1,xH.2.2.2.2.2.2.2.1,xH.2.2.2.2.2.2.2.2)]) (9) (sZ) (sp)
 else
 none)
theorem rA (k:Nat) (v0_0 v0_1 v0_2 v0_3:Int) (v1:Tyt) (v2:List (List Int)) (n56:Nat) (o0:Tyt→List Int→Nat→List Tyw→Int→List Tys→Nat→Nat→List Int→Option (Typ×Bool)) (ho0:∀ (sd:Tyt) (sK:List Int) (sw:Nat) (sn:List Tyw) (sV:Int) (sF:List Tys) (sA sg:Nat) (sh:List Int) ⦃s57:List Int⦄ ⦃s58 s59 s60 s61:Bool⦄ ⦃s76 s78 s114:Nat⦄ ⦃j75 j112 j136 j137:V⦄,rt none (itX (xX (xS (k+21)) 23 0 (k+21) false) rq (14) (av (xX (xS (k+21)) 23 0 (k+21) false) (aB (xS (k+21)).P Tryz.f23) A3) n56 ⟨(.agg [.lit (.int .i64 v0_0),.lit (.int .i64 v0_1),.lit (.int .i64 v0_2),.lit (.int .i64 v0_3)]::.ro (List.map ap v1)::.ro (List.map dG v2)::.ptr 0 0 0 0::uu::uu::.ptr 5 0 0 0::.lit (.bool false)::.own 6 0 sg::.ptr 11 0 0 0::j75::uu::j112::uu::j136::j137::.agg [.lit (.int .i64 v0_0),.lit (.int .i64 v0_1),.lit (.int .i64 v0_2),.lit (.int .i64 v0_3)]::.lit (.bool s58)::.lit (.bool s59)::.lit (.bool false)::.ro (List.map ap v1)::.lit (.bool s60)::.lit (.bool s61)::.lit (.bool s61)::.lit (.bool false)::.ro (List.map dG v2)::.lit (.int .i64 (↑v2.length:Int))::.lit (.bool (decide ((3:Int)<(↑v2.length:Int))))::.lit (.bool (decide ((3:Int)<(↑v2.length:Int))))::uu::.ro (List.map ap v1)::.own 6 0 s57.length::.agg [.lit (.int .i64 v0_0),.lit (.int .i64 v0_1),.lit (.int .i64 v0_2),.lit (.int .i64 v0_3)]::.ro (List.map ap v1)::.ro (List.map ap sd)::.agg [.lit (.int .i64 v0_0),.lit (.int .i64 v0_1),.lit (.int .i64 v0_2),.lit (.int .i64 v0_3)]::.ro (List.map (aN IntKind.u64) sK)::.agg [.lit (.int .i64 v0_0),.lit (.int .i64 v0_1),.lit (.int .i64 v0_2),.lit (.int .i64 v0_3),.ro (List.map ap sd),.ro (List.map (aN IntKind.u64) sK),.nil,.nil]::.ptr 0 0 0 0::.lit (.int .i64 v0_0)::.junk::.junk::.junk::.junk::.junk::.junk::.junk::.junk::.junk::.junk::.junk::.ro (List.map dG v2)::.lit (.int .i64 (↑v2.length:Int))::.lit (.int .i64 sV)::.junk::.junk::.junk::.junk::.junk::.junk::.junk::.junk::.junk::.junk::.junk::.junk::.junk::.junk::.junk::.junk::.junk::.junk::.junk::.junk::.junk::.junk::.junk::.junk::.junk::.junk::.junk::.junk::.junk::uu::[]),[.box [.lit (.int .i64 v0_0),.lit (.int .i64 v0_1),.lit (.int .i64 v0_2),.lit (.int .i64 v0_3)],.rows 0 [] 0 true,.rows 0 [] 0 true,.rows 0 [] 0 true,.rows 0 [] 0 true,.box [.lit (.int .i64 (0:Int)),.lit (.int .i64 (0:Int)),.lit (.int .i64 (0:Int)),.lit (.int .i64 (0:Int)),.own 1 0 0,.own 2 0 0,.own 3 0 0,.own 4 0 0],.rows sw (List.map (aN IntKind.i64) sh) 0 true,.rows 0 [] 0 true,.rows 0 [] 0 true,.rows 0 [] 0 true,.rows 0 [] 0 true,.box [.lit (.int .i64 v0_0),.lit (.int .i64 v0_1),.lit (.int .i64 v0_2),.lit (.int .i64 v0_3),.ro (List.map ap sd),.ro (List.map (aN IntKind.u64) sK),.own 12 s76 sn.length,.own 13 s114 sF.length],.rows s78 (List.map aY sn) s76 true,.rows sA (List.map cR sF) s114 true]⟩)=ob (o0 sd sK sw sn sV sF sA sg sh) fun r=>some ((.tup [.agg [.lit (.int .i64 r.1.1.1),.lit (.int .i64 r.1.1.2.1),.lit (.int .i64 r.1.1.2.2.1),.lit (.int .i64 r.1.1.2.2.2),.ro (List.map ap r.1.2.1),.ro (List.map (aN .u64) r.1.2.2.1),.ro (List.map aY r.1.2.2.2.1),.ro (List.map cR r.1.2.2.2.2)],.lit (.bool r.2)]),[])):∀ (n:Nat) (s81:List Int) (sI:Tyt) (sJ:List Int) (sM:Int) (sN:Nat) (s105:List Tyw) (sZ:Nat) (s110:Int) (sp:List Int) (s130:Int) (sx:List Tys) (s134:Nat) ⦃s80:List Int⦄ ⦃s82 s83 s84 s85:Bool⦄ ⦃s104 s106:Nat⦄ ⦃s131:Bool⦄ ⦃s132:Nat⦄ ⦃j103 j108 j109:V⦄,rt none (itX (xX (xS (k+21)) 23 0 (k+21) false) Hh (14) (av (xX (xS (k+21)) 23 0 (k+21) false) (dM (xX (xS (k+21)) 23 0 (k+21) false) rq 14 (av (xX (xS (k+21)) 23 0 (k+21) false) (aB (xS (k+21)).P Tryz.f23) A3) n56) G0) n ⟨(.agg [.lit (.int .i64 v0_0),.lit (.int .i64 v0_1),.lit (.int .i64 v0_2),.lit (.int .i64 v0_3)]::.ro (List.map ap v1)::.ro (List.map dG v2)::.ptr 0 0 0 0::uu::uu::.ptr 5 0 0 0::.lit (.bool false)::.own 6 0 sZ::.ptr 11 0 0 0::j103::uu::.ro (List.map (aN IntKind.i64) s81)::uu::j108::j109::.agg [.lit (.int .i64 v0_0),.lit (.int .i64 v0_1),.lit (.int .i64 v0_2),.lit (.int .i64 v0_3)]::.lit (.bool s82)::.lit (.bool s83)::.lit (.bool false)::.ro (List.map ap v1)::.lit (.bool s84)::.lit (.bool s85)::.lit (.bool s85)::.lit (.bool false)::.ro (List.map dG v2)::.lit (.int .i64 (↑v2.length:Int))::.lit (.bool (decide ((3:Int)<(↑v2.length:Int))))::.lit (.bool (decide ((3:Int)<(↑v2.length:Int))))::uu::.ro (List.map ap v1)::.own 6 0 s80.length::.agg [.lit (.int .i64 v0_0),.lit (.int .i64 v0_1),.lit (.int .i64 v0_2),.lit (.int .i64 v0_3)]::.ro (List.map ap v1)::.ro (List.map ap sI)::.agg [.lit (.int .i64 v0_0),.lit (.int .i64 v0_1),.lit (.int .i64 v0_2),.lit (.int .i64 v0_3)]::.ro (List.map (aN IntKind.u64) sJ)::.agg [.lit (.int .i64 v0_0),.lit (.int .i64 v0_1),.lit (.int .i64 v0_2),.lit (.int .i64 v0_3),.ro (List.map ap sI),.ro (List.map (aN IntKind.u64) sJ),.nil,.nil]::.ptr 0 0 0 0::.lit (.int .i64 v0_0)::.junk::.junk::.junk::.junk::.junk::.junk::.junk::.junk::.junk::.junk::.junk::.ro (List.map dG v2)::.lit (.int .i64 (↑v2.length:Int))::.lit (.int .i64 s130)::.lit (.bool s131)::.rp [.ro (List.map (aN IntKind.i64) s81)]::.ro (List.map (aN IntKind.i64) s81)::.ro (List.map (aN IntKind.i64) s81)::.lit (.int .i64 sM)::.lit (.int .i64 s110)::.junk::.junk::.junk::.junk::.junk::.junk::.junk::.junk::.junk::.junk::.junk::.junk::.junk::.junk::.junk::.junk::.junk::.junk::.junk::.junk::.junk::.junk::.junk::uu::[]),[.box [.lit (.int .i64 v0_0),.lit (.int .i64 v0_1),.lit (.int .i64 v0_2),.lit (.int .i64 v0_3)],.rows 0 [] 0 true,.rows 0 [] 0 true,.rows 0 [] 0 true,.rows 0 [] 0 true,.box [.lit (.int .i64 (0:Int)),.lit (.int .i64 (0:Int)),.lit (.int .i64 (0:Int)),.lit (.int .i64 (0:Int)),.own 1 0 0,.own 2 0 0,.own 3 0 0,.own 4 0 0],.rows sN (List.map (aN IntKind.i64) sp) 0 true,.rows 0 [] 0 true,.rows 0 [] 0 true,.rows 0 [] 0 true,.rows 0 [] 0 true,.box [.lit (.int .i64 v0_0),.lit (.int .i64 v0_1),.lit (.int .i64 v0_2),.lit (.int .i64 v0_3),.ro (List.map ap sI),.ro (List.map (aN IntKind.u64) sJ),.own 12 s104 s105.length,.own 13 s132 sx.length],.rows s106 (List.map aY s105) s104 true,.rows s134 (List.map cR sx) s132 true]⟩)=ob (cL k (v0_0,v0_1,v0_2,v0_3) v1 v2 o0 n s81 sI sJ sM sN s105 sZ s110 sp s130 sx s134) fun r=>some ((.tup [.agg [.lit (.int .i64 r.1.1.1),.lit (.int .i64 r.1.1.2.1),.lit (.int .i64 r.1.1.2.2.1),.lit (.int .i64 r.1.1.2.2.2),.ro (List.map ap r.1.2.1),.ro (List.map (aN .u64) r.1.2.2.1),.ro (List.map aY r.1.2.2.2.1),.ro (List.map cR r.1.2.2.2.2)],.lit (.bool r.2)]),[]):=by
 intro n
 induction n with
 | zero=>intros;rfl
 | succ n ih=>
  intro s81 sI sJ sM sN s105 sZ s110 sp s130 sx s134 s80 s82 s83 s84 s85 s104 s106 s131 s132 j103 j108 j109
  rw [cL]
  simp -implicitDefEqProofs only [abV,YP,YK,Ah,AT,AF,AZ,AJ,iy,ik,iB,iw,ac0,YO,YN,Aq,ir,aK (g:=57),↓syP,syA,syD,simprocAttr,syE,ah,ag,af,syW,xQ,cN,bL,oM,gb,pb,mn,fF,cY,fm,SI,ih,ho0]
  all_goals simp -implicitDefEqProofs only [List.map_nil]
def bU (k:Nat) (v0:(Int×Int×Int×Int)) (v1:Tyt) (v2:(List (List Int)))  : Nat→Tyt→List Int→Nat→List Tyw→Int→List Tys→Nat→Nat→List Int→Option (Typ×Bool)
 | 0,_,_,_,_,_,_,_,_,_=>none
 | n+1,sd,sK,sw,sn,sV,sF,sA,sg,sh=>
 bif decide (sV<(↑v2.length:Int)) then
 ob (idx v2 sV) fun xd=>
 cL k v0 v1 v2 (fun sd sK sw sn sV sF sA sg sh=>bU k v0 v1 v2  n sd sK sw sn sV sF sA sg sh) (k+21) (xd) (sd) (sK) ((↑xd.length:Int)) (sw) (sn) (sg) ((0:Int)) (sh) (sV) (sF) (sA)
 else
 some ((((v0.1),(v0.2.1),(v0.2.2.1),(v0.2.2.2)),(sd),(sK),(sn),(sF)),(true))
theorem md (k:Nat) (v0_0 v0_1 v0_2 v0_3:Int) (v1:Tyt) (v2:List (List Int)):∀ (n:Nat) (sd:Tyt) (sK:List Int) (sw:Nat) (sn:List Tyw) (sV:Int) (sF:List Tys) (sA sg:Nat) (sh:List Int) ⦃s57:List Int⦄ ⦃s58 s59 s60 s61:Bool⦄ ⦃s76 s78 s114:Nat⦄ ⦃j75 j112 j136 j137:V⦄,rt none (itX (xX (xS (k+21)) 23 0 (k+21) false) rq (14) (av (xX (xS (k+21)) 23 0 (k+21) false) (aB (xS (k+21)).P Tryz.f23) A3) n ⟨(.agg [.lit (.int .i64 v0_0),.lit (.int .i64 v0_1),.lit (.int .i64 v0_2),.lit (.int .i64 v0_3)]::.ro (List.map ap v1)::.ro (List.map dG v2)::.ptr 0 0 0 0::uu::uu::.ptr 5 0 0 0::.lit (.bool false)::.own 6 0 sg::.ptr 11 0 0 0::j75::uu::j112::uu::j136::j137::.agg [.lit (.int .i64 v0_0),.lit (.int .i64 v0_1),.lit (.int .i64 v0_2),.lit (.int .i64 v0_3)]::.lit (.bool s58)::.lit (.bool s59)::.lit (.bool false)::.ro (List.map ap v1)::.lit (.bool s60)::.lit (.bool s61)::.lit (.bool s61)::.lit (.bool false)::.ro (List.map dG v2)::.lit (.int .i64 (↑v2.length:Int))::.lit (.bool (decide ((3:Int)<(↑v2.length:Int))))::.lit (.bool (decide ((3:Int)<(↑v2.length:Int))))::uu::.ro (List.map ap v1)::.own 6 0 s57.length::.agg [.lit (.int .i64 v0_0),.lit (.int .i64 v0_1),.lit (.int .i64 v0_2),.lit (.int .i64 v0_3)]::.ro (List.map ap v1)::.ro (List.map ap sd)::.agg [.lit (.int .i64 v0_0),.lit (.int .i64 v0_1),.lit (.int .i64 v0_2),.lit (.int .i64 v0_3)]::.ro (List.map (aN IntKind.u64) sK)::.agg [.lit (.int .i64 v0_0),.lit (.int .i64 v0_1),.lit (.int .i64 v0_2),.lit (.int .i64 v0_3),.ro (List.map ap sd),.ro (List.map (aN IntKind.u64) sK),.nil,.nil]::.ptr 0 0 0 0::.lit (.int .i64 v0_0)::.junk::.junk::.junk::.junk::.junk::.junk::.junk::.junk::.junk::.junk::.junk::.ro (List.map dG v2)::.lit (.int .i64 (↑v2.length:Int))::.lit (.int .i64 sV)::.junk::.junk::.junk::.junk::.junk::.junk::.junk::.junk::.junk::.junk::.junk::.junk::.junk::.junk::.junk::.junk::.junk::.junk::.junk::.junk::.junk::.junk::.junk::.junk::.junk::.junk::.junk::.junk::.junk::uu::[]),[.box [.lit (.int .i64 v0_0),.lit (.int .i64 v0_1),.lit (.int .i64 v0_2),.lit (.int .i64 v0_3)],.rows 0 [] 0 true,.rows 0 [] 0 true,.rows 0 [] 0 true,.rows 0 [] 0 true,.box [.lit (.int .i64 (0:Int)),.lit (.int .i64 (0:Int)),.lit (.int .i64 (0:Int)),.lit (.int .i64 (0:Int)),.own 1 0 0,.own 2 0 0,.own 3 0 0,.own 4 0 0],.rows sw (List.map (aN IntKind.i64) sh) 0 true,.rows 0 [] 0 true,.rows 0 [] 0 true,.rows 0 [] 0 true,.rows 0 [] 0 true,.box [.lit (.int .i64 v0_0),.lit (.int .i64 v0_1),.lit (.int .i64 v0_2),.lit (.int .i64 v0_3),.ro (List.map ap sd),.ro (List.map (aN IntKind.u64) sK),.own 12 s76 sn.length,.own 13 s114 sF.length],.rows s78 (List.map aY sn) s76 true,.rows sA (List.map cR sF) s114 true]⟩)=ob (bU k (v0_0,v0_1,v0_2,v0_3) v1 v2  n sd sK sw sn sV sF sA sg sh) fun r=>some ((.tup [.agg [.lit (.int .i64 r.1.1.1),.lit (.int .i64 r.1.1.2.1),.lit (.int .i64 r.1.1.2.2.1),.lit (.int .i64 r.1.1.2.2.2),.ro (List.map ap r.1.2.1),.ro (List.map (aN .u64) r.1.2.2.1),.ro (List.map aY r.1.2.2.2.1),.ro (List.map cR r.1.2.2.2.2)],.lit (.bool r.2)]),[]):=by
 intro n
 induction n with
 | zero=>intros;rfl
 | succ n ih=>
  intro sd sK sw sn sV sF sA sg sh s57 s58 s59 s60 s61 s76 s78 s114 j75 j112 j136 j137
  rw [bU]
  simp -implicitDefEqProofs only [abV,YP,YK,Ah,AT,AF,AZ,AJ,iy,ik,iB,iw,ac0,YO,YN,Aq,ir,aK (g:=57),↓syP,syA,syD,simprocAttr,syE,ah,ag,af,syW,xQ,cN,bL,oM,gb,pb,mn,fF,cY,fm,Sn,ih,rA k v0_0 v0_1 v0_2 v0_3 v1 v2 _ (fun sd sK sw sn sV sF sA sg sh=>bU k (v0_0,v0_1,v0_2,v0_3) v1 v2  n sd sK sw sn sV sF sA sg sh) ih]
def cK (k:Nat) (v0:(Int×Int×Int×Int)) (v1:Tyt) (v2:(List (List Int)))  : Nat→Tyt→List Int→List Int→Nat→Int→List Tyw→Nat→Option (Typ×Bool)
 | 0,_,_,_,_,_,_,_=>none
 | n+1,sk,sU,sG,s41,s52,s54,s55=>
 bif decide (s52<v0.1) then
 ob (mS s52) fun xE=>
 ck (s55==11||s55==0) (
 bif room (s54++[(xE.1,xE.2.1,(xE.2.2.1.1,xE.2.2.1.2.1,xE.2.2.1.2.2.1,xE.2.2.1.2.2.2.1,xE.2.2.1.2.2.2.2.1,xE.2.2.1.2.2.2.2.2.1,xE.2.2.1.2.2.2.2.2.2),xE.2.2.2.1,xE.2.2.2.2)]).length 104 then
 cK k v0 v1 v2  n (sk) (sU) (sG) (s41) (IntKind.i64.wrap (s52+(1:Int))) (s54++[(xE.1,xE.2.1,(xE.2.2.1.1,xE.2.2.1.2.1,xE.2.2.1.2.2.1,xE.2.2.1.2.2.2.1,xE.2.2.1.2.2.2.2.1,xE.2.2.1.2.2.2.2.2.1,xE.2.2.1.2.2.2.2.2.2),xE.2.2.2.1,xE.2.2.2.2)]) (11)
 else
 none)
 else
 bU k v0 v1 v2 (k+21) (sk) (sU) (s41) (s54) ((0:Int)) ([]) (0) (sG.length) (sG)
theorem gT (k:Nat) (v0_0 v0_1 v0_2 v0_3:Int) (v1:Tyt) (v2:List (List Int)):∀ (n:Nat) (sk:Tyt) (sU sG:List Int) (s41:Nat) (s52:Int) (s54:List Tyw) (s55:Nat) ⦃sb sc sR sP:Bool⦄ ⦃sy:Nat⦄ ⦃j51:V⦄,rt none (itX (xX (xS (k+21)) 23 0 (k+21) false) G9 (14) (av (xX (xS (k+21)) 23 0 (k+21) false) (aB (xS (k+21)).P Tryz.f23) Hj) n ⟨(.agg [.lit (.int .i64 v0_0),.lit (.int .i64 v0_1),.lit (.int .i64 v0_2),.lit (.int .i64 v0_3)]::.ro (List.map ap v1)::.ro (List.map dG v2)::.ptr 0 0 0 0::uu::uu::.ptr 5 0 0 0::.lit (.bool false)::.own 6 0 sG.length::.ptr 11 0 0 0::j51::uu::uu::uu::uu::uu::.agg [.lit (.int .i64 v0_0),.lit (.int .i64 v0_1),.lit (.int .i64 v0_2),.lit (.int .i64 v0_3)]::.lit (.bool sb)::.lit (.bool sc)::.lit (.bool false)::.ro (List.map ap v1)::.lit (.bool sR)::.lit (.bool sP)::.lit (.bool sP)::.lit (.bool false)::.ro (List.map dG v2)::.lit (.int .i64 (↑v2.length:Int))::.lit (.bool (decide ((3:Int)<(↑v2.length:Int))))::.lit (.bool (decide ((3:Int)<(↑v2.length:Int))))::uu::.ro (List.map ap v1)::.own 6 0 sG.length::.agg [.lit (.int .i64 v0_0),.lit (.int .i64 v0_1),.lit (.int .i64 v0_2),.lit (.int .i64 v0_3)]::.ro (List.map ap v1)::.ro (List.map ap sk)::.agg [.lit (.int .i64 v0_0),.lit (.int .i64 v0_1),.lit (.int .i64 v0_2),.lit (.int .i64 v0_3)]::.ro (List.map (aN IntKind.u64) sU)::.agg [.lit (.int .i64 v0_0),.lit (.int .i64 v0_1),.lit (.int .i64 v0_2),.lit (.int .i64 v0_3),.ro (List.map ap sk),.ro (List.map (aN IntKind.u64) sU),.nil,.nil]::.ptr 0 0 0 0::.lit (.int .i64 v0_0)::.lit (.int .i64 s52)::.junk::.junk::.junk::.junk::.junk::.junk::.junk::.junk::.junk::.junk::uu::uu::uu::uu::uu::uu::uu::uu::uu::uu::uu::uu::uu::uu::uu::uu::uu::uu::uu::uu::uu::uu::uu::uu::uu::uu::uu::uu::uu::uu::uu::uu::uu::[]),[.box [.lit (.int .i64 v0_0),.lit (.int .i64 v0_1),.lit (.int .i64 v0_2),.lit (.int .i64 v0_3)],.rows 0 [] 0 true,.rows 0 [] 0 true,.rows 0 [] 0 true,.rows 0 [] 0 true,.box [.lit (.int .i64 (0:Int)),.lit (.int .i64 (0:Int)),.lit (.int .i64 (0:Int)),.lit (.int .i64 (0:Int)),.own 1 0 0,.own 2 0 0,.own 3 0 0,.own 4 0 0],.rows s41 (List.map (aN IntKind.i64) sG) 0 true,.rows 0 [] 0 true,.rows 0 [] 0 true,.rows 0 [] 0 true,.rows 0 [] 0 true,.box [.lit (.int .i64 v0_0),.lit (.int .i64 v0_1),.lit (.int .i64 v0_2),.lit (.int .i64 v0_3),.ro (List.map ap sk),.ro (List.map (aN IntKind.u64) sU),.own 12 sy s54.length,.own 13 0 0],.rows s55 (List.map aY s54) sy true,.rows 0 [] 0 true]⟩)=ob (cK k (v0_0,v0_1,v0_2,v0_3) v1 v2  n sk sU sG s41 s52 s54 s55) fun r=>some ((.tup [.agg [.lit (.int .i64 r.1.1.1),.lit (.int .i64 r.1.1.2.1),.lit (.int .i64 r.1.1.2.2.1),.lit (.int .i64 r.1.1.2.2.2),.ro (List.map ap r.1.2.1),.ro (List.map (aN .u64) r.1.2.2.1),.ro (List.map aY r.1.2.2.2.1),.ro (List.map cR r.1.2.2.2.2)],.lit (.bool r.2)]),[]):=by
 intro n
 induction n with
 | zero=>intros;rfl
 | succ n ih=>
  intro sk sU sG s41 s52 s54 s55 sb sc sR sP sy j51
  rw [cK]
  have hu2:=md k v0_0 v0_1 v0_2 v0_3 v1 v2 (k+21) (sk) (sU) (s41) (s54) ((0:Int)) ([]) (0) (sG.length) (sG)
  try simp -implicitDefEqProofs only [List.map_nil,List.length_nil] at hu2
  simp -implicitDefEqProofs only [abV,YP,YK,Ah,AT,AF,AZ,AJ,iy,ik,iB,iw,ac0,YO,YN,Aq,ir,aK (g:=57),↓syP,syA,syD,simprocAttr,syE,ah,ag,af,syW,xQ,cN,bL,oM,gb,pb,mn,fF,cY,fm,S9,ih,md k v0_0 v0_1 v0_2 v0_3 v1 v2,hu2]
def fL (k:Nat) (v0:(Int×Int×Int×Int)) (v1:Tyt) (v2:(List (List Int))):Option (Typ×Bool):=
 ob (bM v0) fun xa=>
 bif !xa then
 some (((0,0,0,0),[],[],[],[]),false)
 else
 ob (cQ (k+2) v1) fun xh=>
 bif !xh then
 some (((0,0,0,0),[],[],[],[]),false)
 else
 bif decide (3<(↑v2.length:Int)) then
 some (((0,0,0,0),[],[],[],[]),false)
 else
 ob (cQ (k+1) v1) fun xB=>
 bif !xB then
 ob (eB (k+19) v1) fun xi=>
 ob (kK (k+17) v0) fun xp=>
 cK k v0 v1 v2 (k+21) xi xp ([]) 0 0 ([]) 0
 else
 ob (bB k (k+20) v1 (↑v1.length:Int) 0 [] 0 0) fun xk=>
 ob (eB (k+19) v1) fun xq=>
 ob (kK (k+17) v0) fun xr=>
 cK k v0 v1 v2 (k+21) xq xr xk.2.1 xk.2.2 0 ([]) 0
theorem AK (k:Nat) (v0_0 v0_1 v0_2 v0_3:Int) (v1:Tyt) (v2:List (List Int)):xC (k+22) none 23 [.agg [.lit (.int .i64 v0_0),.lit (.int .i64 v0_1),.lit (.int .i64 v0_2),.lit (.int .i64 v0_3)],.ro (List.map ap v1),.ro (List.map dG v2)]=ob (fL k (v0_0,v0_1,v0_2,v0_3) v1 v2) fun r=>some ((.tup [.agg [.lit (.int .i64 r.1.1.1),.lit (.int .i64 r.1.1.2.1),.lit (.int .i64 r.1.1.2.2.1),.lit (.int .i64 r.1.1.2.2.2),.ro (List.map ap r.1.2.1),.ro (List.map (aN .u64) r.1.2.2.1),.ro (List.map aY r.1.2.2.2.1),.ro (List.map cR r.1.2.2.2.2)],.lit (.bool r.2)]),[]):=by
 rw [aK]
 unfold fL
 have hl0:=fun (xs:Tyt) (xt:List Int)=>gT k v0_0 v0_1 v0_2 v0_3 v1 v2 (k+21) (xs) (xt) ([]) (0) ((0:Int)) ([]) (0)
 try simp -implicitDefEqProofs only [List.map_nil,List.length_nil] at hl0
 have hl1:=fun (xu:Tyt) (xv:List Int) (xl:Nat×List Int×Nat)=>gT k v0_0 v0_1 v0_2 v0_3 v1 v2 (k+21) (xu) (xv) (xl.snd.fst) (xl.snd.snd) ((0:Int)) ([]) (0)
 try simp -implicitDefEqProofs only [List.map_nil,List.length_nil] at hl1
 simp -implicitDefEqProofs only [abV,YP,YK,Ah,AT,AF,AZ,AJ,iy,ik,iB,iw,ac0,YO,YN,Aq,ir,aK (g:=57),↓syP,syA,syD,simprocAttr,syE,ah,ag,af,syW,xQ,cN,bL,oM,fF,cY,fm,gT k v0_0 v0_1 v0_2 v0_3 v1 v2,hl0,hl1]
 all_goals simp -implicitDefEqProofs only [List.map_nil]
end Go.Ab
set_option maxRecDepth 100000
set_option linter.unusedVariables false
set_option linter.unusedSimpArgs false
namespace Go.Ab
open Go.Proofs
def fy (k:Nat) (v0:Typ) (v1:(Int×Int×Int)):Option (Typ×Tye):=
 ob (fK k v0 [v1]) fun x2=>
 some (((x2.1.1.1,x2.1.1.2.1,x2.1.1.2.2.1,x2.1.1.2.2.2),x2.1.2),x2.2)
theorem u7 (k:Nat) (v0_0_0 v0_0_1 v0_0_2 v0_0_3:Int) (v0_1:Tyt) (v0_2:List Int) (v0_3:List Tyw) (v0_4:List Tys) (v1_0 v1_1 v1_2:Int):xC (k+64) none 24 [.agg [.lit (.int .i64 v0_0_0),.lit (.int .i64 v0_0_1),.lit (.int .i64 v0_0_2),.lit (.int .i64 v0_0_3),.ro (List.map ap v0_1),.ro (List.map (aN .u64) v0_2),.ro (List.map aY v0_3),.ro (List.map cR v0_4)],.agg [.lit (.int .i64 v1_0),.lit (.int .i64 v1_1),.lit (.int .u64 v1_2)]]=ob (fy k ((v0_0_0,v0_0_1,v0_0_2,v0_0_3),v0_1,v0_2,v0_3,v0_4) (v1_0,v1_1,v1_2)) fun r=>some ((.tup [.agg [.lit (.int .i64 r.1.1.1),.lit (.int .i64 r.1.1.2.1),.lit (.int .i64 r.1.1.2.2.1),.lit (.int .i64 r.1.1.2.2.2),.ro (List.map ap r.1.2.1),.ro (List.map (aN .u64) r.1.2.2.1),.ro (List.map aY r.1.2.2.2.1),.ro (List.map cR r.1.2.2.2.2)],.ro (List.map aZ r.2)]),[]):=by
 rw [aK]
 unfold fy
 simp -implicitDefEqProofs only [aiO,aiK,↓syP,syA,syD,simprocAttr,syE,ah,ag,af,syW,xQ,Ax]
end Go.Ab
set_option maxRecDepth 100000
set_option linter.unusedVariables false
set_option linter.unusedSimpArgs false
namespace Go.Ab
open Go.Proofs
def a7 (k:Nat) (v0:(List (List Int)))  : Nat→Int→Option Bool
 | 0,_=>none
 | n+1,s3=>
 bif decide (s3<(↑v0.length:Int)) then
 bif decide (s3≤(10:Int)) then
 ob (idx v0 s3) fun x6=>
 bif decide ((60:Int)<(↑x6.length:Int)) then
 some (false)
 else
 a7 k v0  n (IntKind.i64.wrap (s3+(1:Int)))
 else
 some (decide ((↑v0.length:Int)≤(10:Int)))
 else
 some (decide ((↑v0.length:Int)≤(10:Int)))
theorem gR (k:Nat) (v0:List (List Int)):∀ (n:Nat) (s3:Int),rt none (itX (xX (xS k) 22 0 k false) rh (0) (av (xX (xS k) 22 0 k false) (aB (xS k).P Tryz.f22) G4) n ⟨[.ro (List.map dG v0),uu,.lit (.bool false),.lit (.int .i64 s3),.junk,.junk,.junk,.junk,.junk,.junk,.junk,.junk,.junk,.junk,.junk,.junk,.junk,.junk,.junk,.junk,uu,uu,uu],[]⟩)=ob (a7 k v0  n s3) fun r=>some ((.lit (.bool r)),[]):=by
 intro n
 induction n with
 | zero=>intros;rfl
 | succ n ih=>
  intro s3
  rw [a7]
  simp -implicitDefEqProofs only [aim,ahe,aek,K8,Kz,pK,o6,↓syP,syA,syD,simprocAttr,syE,ah,ag,af,syW,xQ,TM,ih]
def bS (k:Nat) (v0:(List (List Int))):Option Bool:=
 a7 k v0 k 0
theorem fZ (k:Nat) (v0:List (List Int)):xC (k+1) none 22 [.ro (List.map dG v0)]=ob (bS k v0) fun r=>some ((.lit (.bool r)),[]):=by
 rw [aK]
 unfold bS
 simp -implicitDefEqProofs only [aim,ahe,aek,K8,Kz,pK,o6,↓syP,syA,syD,simprocAttr,syE,ah,ag,af,syW,xQ,gR k v0]
end Go.Ab
set_option maxRecDepth 100000
set_option linter.unusedVariables false
set_option linter.unusedSimpArgs false
namespace Go.Ab
open Go.Proofs
def gG (v0:(Int×Int×Int×Int)) (v1:(List Int)):Option Int:=
 ob (iC v0 v1) fun x6=>
 bif !x6 then
 some ((-1))
 else
 ob (aE v1 5) fun x7=>
 ob (aE v1 4) fun x8=>
 ob (dz x7 x8) fun x9=>
 some x9
theorem pZ (k:Nat) (v0_0 v0_1 v0_2 v0_3:Int) (v1:List Int):xC (k+5) none 64 [.agg [.lit (.int .i64 v0_0),.lit (.int .i64 v0_1),.lit (.int .i64 v0_2),.lit (.int .i64 v0_3)],.ro (List.map (aN .u64) v1)]=ob (gG (v0_0,v0_1,v0_2,v0_3) v1) fun r=>some ((.lit (.int .i64 r)),[]):=by
 rw [aK]
 unfold gG
 simp -implicitDefEqProofs only [ajw,aix,↓syP,syA,syD,simprocAttr,syE,ah,ag,af,syW,xQ,cf,fI,AQ]
def dt (k:Nat) (v0:(Int×Int×Int×Int)) (v1:(List Int)) (v2:Int)  : Nat→Int→Int→List Int→Int→Nat→Option ((List Int)×Bool)
 | 0,_,_,_,_,_=>none
 | n+1,sB,sW,s51,sy,sK=>
 bif decide (sy<sW) then
 ob (eW (v0.1,v0.2.1,v0.2.2.1,v0.2.2.2) v2 (IntKind.u64.wrap (sB+IntKind.u64.wrap sy))) fun xP=>
 ob (aE v1 xP) fun xc=>
 ck (sK==1||sK==0) (
 bif room (s51++[xc]).length 8 then
 dt k v0 v1 v2  n (sB) (sW) (s51++[xc]) (IntKind.i64.wrap (sy+(1:Int))) (1)
 else
 none)
 else
 some ((s51),(true))
theorem k7 (k:Nat) (v0_0 v0_1 v0_2 v0_3:Int) (v1:List Int) (v2:Int):∀ (n:Nat) (sB sW:Int) (s51:List Int) (sy:Int) (sK:Nat) ⦃sL:Int⦄ ⦃s33 sb:Bool⦄ ⦃sc:Int⦄ ⦃sR:Bool⦄ ⦃sP sk:Int⦄ ⦃sU sG:Bool⦄ ⦃sH:Nat⦄ ⦃j52:V⦄,rt none (itX (xX (xS (k+12)) 65 0 (k+12) false) HU (3) (av (xX (xS (k+12)) 65 0 (k+12) false) (aB (xS (k+12)).P Tryz.f65) GU) n ⟨(.agg [.lit (.int .i64 v0_0),.lit (.int .i64 v0_1),.lit (.int .i64 v0_2),.lit (.int .i64 v0_3)]::.ro (List.map (aN IntKind.u64) v1)::.lit (.int .i64 v2)::.ptr 0 0 0 0::uu::uu::.own 1 0 0::.lit (.bool false)::.lit (.int .u64 sB)::.lit (.int .u64 sL)::.lit (.int .i64 sW)::.own 2 sH s51.length::j52::.agg [.lit (.int .i64 v0_0),.lit (.int .i64 v0_1),.lit (.int .i64 v0_2),.lit (.int .i64 v0_3)]::.lit (.bool s33)::.lit (.bool sb)::.lit (.bool false)::.ro (List.map (aN IntKind.u64) v1)::.lit (.int .i64 (↑v1.length:Int))::.agg [.lit (.int .i64 v0_0),.lit (.int .i64 v0_1),.lit (.int .i64 v0_2),.lit (.int .i64 v0_3)]::.lit (.int .i64 sc)::.lit (.bool sR)::.lit (.bool sR)::.lit (.bool false)::.lit (.int .i64 v2)::.lit (.bool (decide (v2<(0:Int))))::.lit (.bool (decide (v2<(0:Int))))::.lit (.bool false)::.lit (.int .i64 v2)::.ptr 0 0 0 0::.lit (.int .i64 v0_0)::.lit (.bool (decide (v0_0≤v2)))::.lit (.bool (decide (v0_0≤v2)))::.ro (List.map (aN IntKind.u64) v1)::.agg [.lit (.int .i64 v0_0),.lit (.int .i64 v0_1),.lit (.int .i64 v0_2),.lit (.int .i64 v0_3)]::.lit (.int .i64 v2)::.lit (.int .i64 sP)::.lit (.int .u64 sB)::.ro (List.map (aN IntKind.u64) v1)::.agg [.lit (.int .i64 v0_0),.lit (.int .i64 v0_1),.lit (.int .i64 v0_2),.lit (.int .i64 v0_3)]::.lit (.int .i64 v2)::.lit (.int .i64 sk)::.lit (.int .u64 sL)::.lit (.int .u64 sL)::.lit (.int .u64 sB)::.lit (.int .i64 sW)::.lit (.int .i64 sW)::.lit (.bool sU)::.lit (.bool false)::.lit (.int .i64 sW)::.ptr 0 0 0 1::.lit (.int .i64 v0_1)::.lit (.bool sG)::.lit (.bool sG)::.lit (.int .i64 sW)::.lit (.int .i64 sy)::.junk::.junk::.junk::.junk::.junk::.junk::.junk::.junk::.junk::.junk::.junk::.junk::.junk::.junk::.junk::uu::[]),[.box [.lit (.int .i64 v0_0),.lit (.int .i64 v0_1),.lit (.int .i64 v0_2),.lit (.int .i64 v0_3)],.rows 0 [] 0 true,.rows sK (List.map (aN IntKind.u64) s51) sH true]⟩)=ob (dt k (v0_0,v0_1,v0_2,v0_3) v1 v2  n sB sW s51 sy sK) fun r=>some ((.tup [.ro (List.map (aN .u64) r.1),.lit (.bool r.2)]),[]):=by
 intro n
 induction n with
 | zero=>intros;rfl
 | succ n ih=>
  intro sB sW s51 sy sK sL s33 sb sc sR sP sk sU sG sH j52
  rw [dt]
  simp -implicitDefEqProofs only [aiA,aeB,ahb,Nu,MU,Mk,L6,L8,pg,pA,pO,↓syP,syA,syD,simprocAttr,syE,ah,ag,af,syW,xQ,bL,eP,cf,i5,eL,m8,fI,TW,ih]
def iT (k:Nat) (v0:(Int×Int×Int×Int)) (v1:(List Int)) (v2:Int):Option ((List Int)×Bool):=
 ob (bM v0) fun xf=>
 bif !xf then
 some ([],false)
 else
 ob (dd v0) fun xV=>
 bif (↑v1.length:Int)!=xV then
 some ([],false)
 else
 bif decide (v2<0) then
 some ([],false)
 else
 bif decide (v0.1≤v2) then
 some ([],false)
 else
 ob (f8 v0 v2) fun x79=>
 ob (aE v1 x79) fun xn=>
 ob (cO v0 v2) fun x81=>
 ob (aE v1 x81) fun x82=>
 ob (dz x82 xn) fun xm=>
 bif decide (xm<0) then
 some ([],false)
 else
 bif decide (v0.2.1<xm) then
 some ([],false)
 else
 dt k v0 v1 v2 (k+12) xn xm ([]) 0 0
theorem FD (k:Nat) (v0_0 v0_1 v0_2 v0_3:Int) (v1:List Int) (v2:Int):xC (k+13) none 65 [.agg [.lit (.int .i64 v0_0),.lit (.int .i64 v0_1),.lit (.int .i64 v0_2),.lit (.int .i64 v0_3)],.ro (List.map (aN .u64) v1),.lit (.int .i64 v2)]=ob (iT k (v0_0,v0_1,v0_2,v0_3) v1 v2) fun r=>some ((.tup [.ro (List.map (aN .u64) r.1),.lit (.bool r.2)]),[]):=by
 rw [aK]
 unfold iT
 have hl0:=fun (x87:Int) (x90:Int)=>k7 k v0_0 v0_1 v0_2 v0_3 v1 v2 (k+12) (x87) (x90) ([]) ((0:Int)) (0)
 try simp -implicitDefEqProofs only [List.map_nil,List.length_nil] at hl0
 simp -implicitDefEqProofs only [aiA,aeB,ahb,Nu,MU,Mk,L6,L8,pg,pA,pO,↓syP,syA,syD,simprocAttr,syE,ah,ag,af,syW,xQ,bL,eP,cf,i5,eL,fI,k7 k v0_0 v0_1 v0_2 v0_3 v1 v2,hl0]
 all_goals simp -implicitDefEqProofs only [List.map_nil]
def cA (k:Nat) (v0:Typ)  : Nat→Int→Int→Option Int
 | 0,_,_=>none
 | n+1,sC,s98=>
 bif decide (s98<v0.1.1) then
 ob (iT (k+22) (v0.1.1,v0.1.2.1,v0.1.2.2.1,v0.1.2.2.2) v0.2.2.1 s98) fun xw=>
 cA k v0  n (IntKind.i64.wrap (sC+(↑xw.1.length:Int))) (IntKind.i64.wrap (s98+(1:Int)))
 else
 some (sC)
theorem ny (k:Nat) (v0_0_0 v0_0_1 v0_0_2 v0_0_3:Int) (v0_1:Tyt) (v0_2:List Int) (v0_3:List Tyw) (v0_4:List Tys):∀ (n:Nat) (sC s98:Int) ⦃s18 s19:Bool⦄ ⦃sY:Int⦄ ⦃j94 j95 j96:V⦄,rt none (itX (xX (xS (k+35)) 26 0 (k+35) false) HX (1) (av (xX (xS (k+35)) 26 0 (k+35) false) (aB (xS (k+35)).P Tryz.f26) Hy) n ⟨[.agg [.lit (.int .i64 v0_0_0),.lit (.int .i64 v0_0_1),.lit (.int .i64 v0_0_2),.lit (.int .i64 v0_0_3),.ro (List.map ap v0_1),.ro (List.map (aN IntKind.u64) v0_2),.ro (List.map aY v0_3),.ro (List.map cR v0_4)],.ptr 0 0 0 0,.lit (.int .i64 (0:Int)),.lit (.int .i64 sC),j94,j95,j96,.agg [.lit (.int .i64 v0_0_0),.lit (.int .i64 v0_0_1),.lit (.int .i64 v0_0_2),.lit (.int .i64 v0_0_3),.ro (List.map ap v0_1),.ro (List.map (aN IntKind.u64) v0_2),.ro (List.map aY v0_3),.ro (List.map cR v0_4)],.lit (.bool s18),.lit (.bool s19),.ptr 0 0 0 0,.agg [.lit (.int .i64 v0_0_0),.lit (.int .i64 v0_0_1),.lit (.int .i64 v0_0_2),.lit (.int .i64 v0_0_3)],.ptr 0 0 0 5,.ro (List.map (aN IntKind.u64) v0_2),.lit (.int .i64 sY),.ptr 0 0 0 0,.ptr 0 0 0 0,.lit (.int .i64 v0_0_0),.lit (.int .i64 s98),.junk,.junk,.junk,.junk,.junk,.junk,.junk,.junk,.junk,.junk,.junk,.junk,.junk,.junk,.junk,.junk,uu],[.box [.lit (.int .i64 v0_0_0),.lit (.int .i64 v0_0_1),.lit (.int .i64 v0_0_2),.lit (.int .i64 v0_0_3),.ro (List.map ap v0_1),.ro (List.map (aN IntKind.u64) v0_2),.ro (List.map aY v0_3),.ro (List.map cR v0_4)]]⟩)=ob (cA k ((v0_0_0,v0_0_1,v0_0_2,v0_0_3),v0_1,v0_2,v0_3,v0_4)  n sC s98) fun r=>some ((.lit (.int .i64 r)),[]):=by
 intro n
 induction n with
 | zero=>intros;rfl
 | succ n ih=>
  intro sC s98 s18 s19 sY j94 j95 j96
  rw [cA]
  simp -implicitDefEqProofs only [ain,aeU,afr,Kx,oZ,↓syP,syA,syD,simprocAttr,syE,ah,ag,af,syW,xQ,gw,pZ,FD,SH,ih]
def eQ (k:Nat) (v0:Typ):Option Int:=
 ob (eY k v0) fun xx=>
 bif !xx then
 some 0
 else
 ob (gG v0.1 v0.2.2.1) fun xy=>
 cA k v0 (k+35) xy 0
theorem BV (k:Nat) (v0_0_0 v0_0_1 v0_0_2 v0_0_3:Int) (v0_1:Tyt) (v0_2:List Int) (v0_3:List Tyw) (v0_4:List Tys):xC (k+36) none 26 [.agg [.lit (.int .i64 v0_0_0),.lit (.int .i64 v0_0_1),.lit (.int .i64 v0_0_2),.lit (.int .i64 v0_0_3),.ro (List.map ap v0_1),.ro (List.map (aN .u64) v0_2),.ro (List.map aY v0_3),.ro (List.map cR v0_4)]]=ob (eQ k ((v0_0_0,v0_0_1,v0_0_2,v0_0_3),v0_1,v0_2,v0_3,v0_4)) fun r=>some ((.lit (.int .i64 r)),[]):=by
 rw [aK]
 unfold eQ
 simp -implicitDefEqProofs only [ain,aeU,afr,Kx,oZ,↓syP,syA,syD,simprocAttr,syE,ah,ag,af,syW,xQ,gw,pZ,ny k v0_0_0 v0_0_1 v0_0_2 v0_0_3 v0_1 v0_2 v0_3 v0_4]
end Go.Ab
set_option maxRecDepth 100000
set_option linter.unusedVariables false
set_option linter.unusedSimpArgs false
namespace Go.Ab
open Go.Proofs
def az (k:Nat) (v0:(List Tys))  : Nat→Int→Option Int
 | 0,_=>none
 | n+1,s6=>
 bif decide (s6<(↑v0.length:Int)) then
 ob (idx v0 s6) fun xZ=>
 ob (fQ (xZ.1,xZ.2.1,xZ.2.2.1,xZ.2.2.2.1,xZ.2.2.2.2.1,xZ.2.2.2.2.2.1,xZ.2.2.2.2.2.2.1,xZ.2.2.2.2.2.2.2.1,xZ.2.2.2.2.2.2.2.2)) fun x12=>
 bif x12 then
 some (s6)
 else
 az k v0  n (IntKind.i64.wrap (s6+(1:Int)))
 else
 some ((-1:Int))
theorem dT (k:Nat) (v0:List Tys):∀ (n:Nat) (s6:Int) ⦃j5:V⦄,rt none (itX (xX (xS (k+8)) 96 0 (k+8) false) DF (0) (av (xX (xS (k+8)) 96 0 (k+8) false) (aB (xS (k+8)).P Tryz.f96) CZ) n ⟨[.ro (List.map cR v0),.fn (Fn.func (28:FuncId)) [] [],uu,uu,.lit (.int .i64 (0:Int)),j5,.ro (List.map cR v0),.lit (.int .i64 (↑v0.length:Int)),.lit (.int .i64 s6),.junk,.junk,.junk,.junk,.junk,.junk,.junk,.junk,.junk,.junk],[]⟩)=ob (az k v0  n s6) fun r=>some ((.lit (.int .i64 r)),[]):=by
 intro n
 induction n with
 | zero=>intros;rfl
 | succ n ih=>
  intro s6 j5
  rw [az]
  simp -implicitDefEqProofs only [Py,NX,NZ,nj,eb,↓syP,syA,syD,simprocAttr,syE,ah,ag,af,syW,xQ,BA,Lg,ih]
def bc (k:Nat) (v0:(List Tys)):Option Int:=
 az k v0 (k+8) 0
theorem fc (k:Nat) (v0:List Tys):xC (k+9) none 96 [.ro (List.map cR v0),.fn (Fn.func (28:FuncId)) [] []]=ob (bc k v0) fun r=>some ((.lit (.int .i64 r)),[]):=by
 rw [aK]
 unfold bc
 simp -implicitDefEqProofs only [Py,NX,NZ,nj,eb,↓syP,syA,syD,simprocAttr,syE,ah,ag,af,syW,xQ,dT k v0]
def aR (k:Nat) (v0:(List Tys)):Option Bool:=
 ob (bc (k+8) v0) fun x14=>
 some (decide (0≤x14))
theorem cj (k:Nat) (v0:List Tys):xC (k+18) none 52 [.ro (List.map cR v0),.fn (Fn.func (28:FuncId)) [] []]=ob (aR k v0) fun r=>some ((.lit (.bool r)),[]):=by
 rw [aK]
 unfold aR
 simp -implicitDefEqProofs only [UY,SP,Py,NX,NZ,nj,eb,↓syP,syA,syD,simprocAttr,syE,ah,ag,af,syW,xQ,fc]
def cE (k : Nat) (v0 : ((Int × Int × Int × Int) × List (Int × List Int) × List Int × List (Int × List (Int × Int × Int) × (Int × Int × Int × Int × Int × Int × Int) × Int × Int) × List (Int × List Int × Int × Int × Int × Int × Int × Int × Int)))  : Nat → Int → Option Bool
 | 0,_ => none
 | n + 1,sB =>
 bif decide (sB < (↑v0.2.2.2.1.length : Int)) then
 ob (idx v0.2.2.2.1 sB) fun xO =>
 ob (fP (xO.1,xO.2.1,(xO.2.2.1.1,xO.2.2.1.2.1,xO.2.2.1.2.2.1,xO.2.2.1.2.2.2.1,xO.2.2.1.2.2.2.2.1,xO.2.2.1.2.2.2.2.2.1,xO.2.2.1.2.2.2.2.2.2),xO.2.2.2.1,xO.2.2.2.2)) fun xe =>
 bif !xe then
 some (false)
 else
 ob (eR (v0.1.1,v0.1.2.1,v0.1.2.2.1,v0.1.2.2.2) sB) fun x43 =>
 ob (aE v0.2.2.1 x43) fun x44 =>
 bif x44 != (0 : Int) then
 some (false)
 else
 cE k v0  n (IntKind.i64.wrap (sB + (1 : Int)))
 else
 some (true)
theorem nH (k:Nat) (v0_0_0 v0_0_1 v0_0_2 v0_0_3:Int) (v0_1:Tyt) (v0_2:List Int) (v0_3:List Tyw) (v0_4:List Tys):∀ (n:Nat) (sB:Int) ⦃s19 sv sz:Bool⦄ ⦃j28 j29:V⦄,rt none (itX (xX (xS (k+35)) 25 0 (k+35) false) rj (1) (av (xX (xS (k+35)) 25 0 (k+35) false) (aB (xS (k+35)).P Tryz.f25) Io) n ⟨[.agg [.lit (.int .i64 v0_0_0),.lit (.int .i64 v0_0_1),.lit (.int .i64 v0_0_2),.lit (.int .i64 v0_0_3),.ro (List.map ap v0_1),.ro (List.map (aN IntKind.u64) v0_2),.ro (List.map aY v0_3),.ro (List.map cR v0_4)],.ptr 0 0 0 0,.lit (.bool false),j28,j29,.agg [.lit (.int .i64 v0_0_0),.lit (.int .i64 v0_0_1),.lit (.int .i64 v0_0_2),.lit (.int .i64 v0_0_3),.ro (List.map ap v0_1),.ro (List.map (aN IntKind.u64) v0_2),.ro (List.map aY v0_3),.ro (List.map cR v0_4)],.lit (.bool s19),.lit (.bool sv),.lit (.bool false),.ptr 0 0 0 7,.ro (List.map cR v0_4),.lit (.bool sz),.lit (.bool sz),.ptr 0 0 0 6,.ro (List.map aY v0_3),.lit (.int .i64 (↑v0_3.length:Int)),.lit (.int .i64 sB),.junk,.junk,.junk,.junk,.junk,.junk,.junk,.junk,.junk,.junk,.junk,.junk,.junk,.junk,.junk,.junk,.junk,.junk],[.box [.lit (.int .i64 v0_0_0),.lit (.int .i64 v0_0_1),.lit (.int .i64 v0_0_2),.lit (.int .i64 v0_0_3),.ro (List.map ap v0_1),.ro (List.map (aN IntKind.u64) v0_2),.ro (List.map aY v0_3),.ro (List.map cR v0_4)]]⟩)=ob (cE k ((v0_0_0,v0_0_1,v0_0_2,v0_0_3),v0_1,v0_2,v0_3,v0_4)  n sB) fun r=>some ((.lit (.bool r)),[]):=by
 intro n
 induction n with
 | zero=>intros;rfl
 | succ n ih=>
  intro sB s19 sv sz j28 j29
  rw [cE]
  simp -implicitDefEqProofs only [aiq,agt,aff,K2,LZ,KB,pi,pu,pj,UY,SP,Py,NX,NZ,nj,eb,↓syP,syA,syD,simprocAttr,syE,ah,ag,af,syW,xQ,cf,pm,Cr,gw,cj,Tn,ih]
def fY (k:Nat) (v0:Typ):Option Bool:=
 ob (eY k v0) fun x45=>
 bif !x45 then
 some false
 else
 ob (aR (k+17) v0.2.2.2.2) fun xj=>
 bif xj then
 some false
 else
 cE k v0 (k+35) 0
theorem Bv (k:Nat) (v0_0_0 v0_0_1 v0_0_2 v0_0_3:Int) (v0_1:Tyt) (v0_2:List Int) (v0_3:List Tyw) (v0_4:List Tys):xC (k+36) none 25 [.agg [.lit (.int .i64 v0_0_0),.lit (.int .i64 v0_0_1),.lit (.int .i64 v0_0_2),.lit (.int .i64 v0_0_3),.ro (List.map ap v0_1),.ro (List.map (aN .u64) v0_2),.ro (List.map aY v0_3),.ro (List.map cR v0_4)]]=ob (fY k ((v0_0_0,v0_0_1,v0_0_2,v0_0_3),v0_1,v0_2,v0_3,v0_4)) fun r=>some ((.lit (.bool r)),[]):=by
 rw [aK]
 unfold fY
 simp -implicitDefEqProofs only [aiq,agt,aff,K2,LZ,KB,pi,pu,pj,UY,SP,Py,NX,NZ,nj,eb,↓syP,syA,syD,simprocAttr,syE,ah,ag,af,syW,xQ,gw,cj,nH k v0_0_0 v0_0_1 v0_0_2 v0_0_3 v0_1 v0_2 v0_3 v0_4]
end Go.Ab
set_option maxRecDepth 100000
set_option maxHeartbeats 4000000
set_option linter.unusedVariables false
set_option linter.unusedSimpArgs false
namespace Go.Ab
open Go.Proofs
def awS:Nat→Typ
 | 0=>((1,1,1,0),[],List.replicate 12 0,[(0,[],(1,0,0,0,0,0,0),0,0)],[])
 | n+1=>match fy 0 (awS n) (0,0,0) with | some r=>r.1 | none=>((0,0,0,0),[],[],[],[])
def awR:=match fK 0 (awS 20) [(0,0,0),(2,0,0)] with | some r=>r.1 | none=>awS 0
abbrev awC (x:Typ):List V:=
 [.lit (.int .i64 x.1.1),.lit (.int .i64 x.1.2.1),.lit (.int .i64 x.1.2.2.1),.lit (.int .i64 x.1.2.2.2),.ro (List.map ap x.2.1),.ro (List.map (aN .u64) x.2.2.1),.ro (List.map aY x.2.2.2.1),.ro (List.map cR x.2.2.2.2)]
section
variable (j:Nat)
theorem ajr:xC (j+79) none 23 [.agg [.lit (.int .i64 1),.lit (.int .i64 1),.lit (.int .i64 1),.lit (.int .i64 0)],.nil,.nil]=some (.tup [.agg (awC (awS 0)),.lit (.bool true)],[]):=by kernel_rfl
theorem ajq:xC (j+79) none 26 [.agg (awC (awS 0))]=some (.lit (.int .i64 0),[]):=by kernel_rfl
theorem ai9:xC (j+79) none 25 [.agg (awC (awS 0))]=some (.lit (.bool false),[]):=by kernel_rfl
theorem aiP:xC (j+79) none 29 [.agg (awC (awS 0))]=some (.lit (.bool false),[]):=by kernel_rfl
theorem aiU:xC (j+79) none 20 [.agg (awC (awS 0))]=some (.lit (.bool true),[]):=by kernel_rfl
def awM:List Int:=[0,0,1,0,0,0,0,0,0,0,0,0]
def awW:List Tyw:=[(8,[],(5,3,0,0,0,0,0),0,0)]
theorem J7:awS 20=((1,1,1,0),[],awM,awW,[]):=by kernel_rfl
theorem Zq:awR=((1,1,1,0),[],[0,0,1,1,0,0,0,0,0,0,0,0],awW,[]):=by kernel_rfl
theorem ae0:xC (j+79) none 25 [.agg (awC (awS 20))]=some (.lit (.bool true),[]):=by
 rw [J7]
 kernel_rfl
theorem ags:xC (j+79) none 29 [.agg (awC (awS 20))]=some (.lit (.bool true),[]):=by
 rw [J7]
 kernel_rfl
theorem ai6:xC (j+79) none 19 [.agg (awC (awS 20)),.agg (awC (awS 20))]=some (.lit (.bool true),[]):=by
 rw [J7]
 kernel_rfl
theorem agq:xC (j+79) none 20 [.agg (awC awR)]=some (.lit (.bool true),[]):=by
 rw [Zq]
 kernel_rfl
theorem aiR:xC (j+79) none 17 [.agg (awC (awS 20)),.ro (List.map gf [(0,0,0),(2,0,0)])]=some (.tup [.agg (awC awR),.ro []],[]):=(Ax (j+16) _ _ _ _ _ _ _ _ _).trans (by kernel_rfl)
theorem aju:∀ i:Nat,i<20→xC (j+79) none 24 [.agg (awC (awS i)),.agg [.lit (.int .i64 0),.lit (.int .i64 0),.lit (.int .u64 0)]]=some (.tup [.agg (awC (awS (i+1))),.ro []],[]):=by
 intro i hi
 refine (u7 (j+15) _ _ _ _ _ _ _ _ _ _ _).trans ?_
 iterate 20
  rcases i with _ | i
  ·kernel_rfl
 omega
end
theorem aww {z:Int} (h:0≤z) (h':z≤99):IntKind.i64.wrap z=z:=KY (by omega) (by omega)
theorem SC (j:Nat):xC (j+80) none 15 []=some (.lit (.bool true),[]):=by
 rw [aK]
 simp -implicitDefEqProofs only [ai2,aij,aia,TR,So,TD,SE,Tf,Sp,TI,Tg,Td,TP,AY,AS,Av,↓syP,syA,syD,simprocAttr,syE,ah,ag,af,syW,xQ,ajr,ajq,ai9,aiP,aiU,ae0,ags,ai6,agq,aiR,aju,S8,awC,aww,decide_true,decide_false,cond_true,cond_false]
end Go.Ab
