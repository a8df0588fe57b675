import Derived.Test.YtblpbpnilkfjhaaGreatR6GX
import Derived.Test.YtblpbpnilkfjhaaGreatR6BZ
import Derived.Test.YtblpbpnilkfjhaaGreatR6BX
import Derived.Test.YtblpbpnilkfjhaaGreatR6BY
import Derived.Test.YtblpbpnilkfjhaaGreatR6BU
set_option linter.unusedVariables false
set_option linter.unusedSimpArgs false
set_option maxRecDepth 100000
set_option linter.unusedVariables false
set_option linter.unusedSimpArgs false
namespace Go.Ab
open Go.Proofs
def mf (v0:(Int×Int×Int)) (v1:Int) (v2:Int):Option Bool:=
 bif v0.1==0 then
 ob (eL v0.2.1 v1) fun x4=>
 bif x4 then
 some true
 else
 bif v0.1==1 then
 ob (eL v0.2.1 v2) fun x5=>
 bif x5 then
 some true
 else
 bif v0.1==2 then
 some true
 else
 some (v0.1==3)
 else
 bif v0.1==2 then
 some true
 else
 some (v0.1==3)
 else
 bif v0.1==1 then
 ob (eL v0.2.1 v2) fun x6=>
 bif x6 then
 some true
 else
 bif v0.1==2 then
 some true
 else
 some (v0.1==3)
 else
 bif v0.1==2 then
 some true
 else
 some (v0.1==3)
theorem Df (k:Nat) (v0_0 v0_1 v0_2 v1 v2:Int):xC (k+2) none 42 [.agg [.lit (.int .i64 v0_0),.lit (.int .i64 v0_1),.lit (.int .u64 v0_2)],.lit (.int .i64 v1),.lit (.int .i64 v2)]=ob (mf (v0_0,v0_1,v0_2) v1 v2) fun r=>some ((.lit (.bool r)),[]):=by
 rw [aH]
 unfold mf
 simp -implicitDefEqProofs only [ad5,ada,Ot,Oq,Ou,OQ,Pk,OB,Pb,OZ,O1,rT,↓syP,syA,syD,simprocAttr,syE,ag,af,ae,syW,xQ,od]
def cH (k:Nat) (v0:Tyt)  : Nat→Tyt→Int→Int→Tyt→Option Tyt
 | 0,_,_,_,_=>none
 | n+1,sD,sO,sB,sL=>
 bif decide (sB<sO) then
 bif decide ((0:Int)≤sB∧sB.toNat<sD.length) then
 ob (sL[sB.toNat]?) fun x39=>
 ob (aQ 8 x39.2) fun x40=>
 bif decide ((0:Int)≤sB∧sB.toNat<sD.length) then
 ob (sL[sB.toNat]?) fun xO=>
 cH k v0  n (sD) (sO) (IntKind.i64.wrap (sB+(1:Int))) (sL.set sB.toNat (xO.1,x40))
 else
 none
 else
 none
 else
 ck (decide (sD.length≤sL.length)) (
 some (List.take sD.length sL))
theorem mG (k:Nat) (v0:Tyt):∀ (n:Nat) (sD:Tyt) (sO sB:Int) (sL:Tyt) ⦃j29:V⦄,rt none (itX (xX (xS (k+1)) 58 0 (k+1) false) E2 (2) (ap (xX (xS (k+1)) 58 0 (k+1) false) (am (xS (k+1)).P Tryz.f58) Fe) n ⟨[.ro (List.map an v0),uu,.own 0 0 0,.own 1 0 sD.length,j29,.ro (List.map an v0),.own 1 0 sD.length,.own 1 0 sD.length,.lit (.int .i64 sO),.lit (.int .i64 sB),.junk,.junk,.junk,.junk,.junk,.junk,.junk,.junk,.junk,.junk,.junk,.junk,.junk,uu],[.rows 0 [] 0 true,.rows 2 (List.map an sL) 0 true]⟩)=ob (cH k v0  n sD sO sB sL) fun r=>some ((.ro (List.map an r)),[]):=by
 intro n
 induction n with
 | zero=>intros;rfl
 | succ n ih=>
  intro sD sO sB sL j29
  rw [cH]
  simp -implicitDefEqProofs only [adC,aa0,ZD,J8,np,↓syP,syA,syD,simprocAttr,syE,ag,af,ae,syW,xQ,OM,ih]
def dL (k:Nat) (v0:Tyt):Option Tyt:=
 ob (aQ 32 v0) fun xf=>
 cH k v0 (k+1) xf ((↑xf.length:Int)) 0 xf
theorem eS (k:Nat) (v0:Tyt):xC (k+2) none 58 [.ro (List.map an v0)]=ob (dL k v0) fun r=>some ((.ro (List.map an r)),[]):=by
 rw [aH]
 unfold dL
 simp -implicitDefEqProofs only [adC,aa0,ZD,J8,np,↓syP,syA,syD,simprocAttr,syE,ag,af,ae,syW,xQ,mG k v0]
end Go.Ab
set_option maxRecDepth 100000
set_option linter.unusedVariables false
set_option linter.unusedSimpArgs false
namespace Go.Ab
open Go.Proofs
def bU (k:Nat)   : Nat→List Int→Int→Tyt→Int→Option Int
 | 0,_,_,_,_=>none
 | n+1,sv,sz,sa,sG=>
 bif decide (sG<sz) then
 ob (idx sv sG) fun xk=>
 bif decide (xk<(0:Int)) then
 some (sG)
 else
 bif decide ((↑sa.length:Int)≤xk) then
 some (sG)
 else
 bU k   n (sv) (sz) (sa) (IntKind.i64.wrap (sG+(1:Int)))
 else
 some ((-1:Int))
theorem lQ (k:Nat)  : ∀ (n:Nat) (sv:List Int) (sz:Int) (sa:Tyt) (sG:Int) ⦃s22 sD sO s25:Int⦄ ⦃sq:List Int⦄ ⦃sr:List Tyw⦄ ⦃ss:List Tys⦄ ⦃sB sL sW s33 sb sc sR sP:Int⦄ ⦃j39:V⦄,itX (xX (xS (k+29)) 97 0 (k+29) false) Fg (4) (ap (xX (xS (k+29)) 97 0 (k+29) false) (am (xS (k+29)).P Tryz.f97) EN) n ⟨[.ro (List.map (aF IntKind.i64) sv),.fn (Fn.func (54:FuncId)) [] [.ptr 0 0 0 0],uu,uu,.lit (.int .i64 (0:Int)),j39,.ro (List.map (aF IntKind.i64) sv),.lit (.int .i64 sz),.lit (.int .i64 sG),.junk,.junk,.junk,.junk,.junk,.junk,.junk,.junk,.junk,.junk],[.box [.lit (.int .i64 s22),.lit (.int .i64 sD),.lit (.int .i64 sO),.lit (.int .i64 s25),.ro (List.map an sa),.ro (List.map (aF IntKind.u64) sq),.ro (List.map aU sr),.ro (List.map cf ss)],.box [.lit (.bool false)],.box [.lit (.int .i64 s22),.lit (.int .i64 sD),.lit (.int .i64 sO),.lit (.int .i64 s25),.ro (List.map an sa),.ro (List.map (aF IntKind.u64) sq),.ro (List.map aU sr),.ro (List.map cf ss)],.box [.lit (.int .i64 sB),.ro (List.map (aF IntKind.i64) sv),.lit (.int .i64 sL),.lit (.int .i64 sW),.lit (.int .i64 s33),.lit (.int .u64 sb),.lit (.int .u64 sc),.lit (.int .u64 sR),.lit (.int .i64 sP)]]⟩=ob (bU k   n sv sz sa sG) fun r=>some ((.lit (.int .i64 r),[.box [.lit (.int .i64 s22),.lit (.int .i64 sD),.lit (.int .i64 sO),.lit (.int .i64 s25),.ro (List.map an sa),.ro (List.map (aF IntKind.u64) sq),.ro (List.map aU sr),.ro (List.map cf ss)],.box [.lit (.bool false)],.box [.lit (.int .i64 s22),.lit (.int .i64 sD),.lit (.int .i64 sO),.lit (.int .i64 s25),.ro (List.map an sa),.ro (List.map (aF IntKind.u64) sq),.ro (List.map aU sr),.ro (List.map cf ss)],.box [.lit (.int .i64 sB),.ro (List.map (aF IntKind.i64) sv),.lit (.int .i64 sL),.lit (.int .i64 sW),.lit (.int .i64 s33),.lit (.int .u64 sb),.lit (.int .u64 sc),.lit (.int .u64 sR),.lit (.int .i64 sP)]])):=by
 intro n
 induction n with
 | zero=>intros;rfl
 | succ n ih=>
  intro sv sz sa sG s22 sD sO s25 sq sr ss sB sL sW s33 sb sc sR sP j39
  rw [bU]
  simp -implicitDefEqProofs only [YO,XU,Uy,Bu,Az,BA,dz,dC,ix,iA,mJ,Yw,VJ,aH (g:=51),Nx,Kk,YH,UD,Bi,BC,AQ,BW,AL,Ca,BI,A6,iM,YT,Xy,BV,iu,YD,VD,Yx,WX,Um,AS,B3,iQ,iP,Gz,Ft,EJ,gR,co,YF,VU,Xk,Av,iK,↓syP,syA,syD,simprocAttr,syE,ag,af,ae,syW,xQ,OY,ih]
def bC (k:Nat)   : Nat→List Tys→Int→Tyt→Int→Option Int
 | 0,_,_,_,_=>none
 | n+1,s9,sS,sE,sH=>
 bif decide (sH<sS) then
 ob (idx s9 sH) fun xc=>
 bif decide (xc.1<(0:Int)) then
 some (sH)
 else
 bif decide ((6:Int)≤xc.1) then
 some (sH)
 else
 ob (bU k (k+29) xc.2.1 (↑xc.2.1.length:Int) sE (0:Int)) fun x60=>
 bif decide ((0:Int)≤x60) then
 some (sH)
 else
 bif xc.1 !=(0:Int) then
 bif (↑xc.2.1.length:Int)==(0:Int) then
 some (sH)
 else
 bC k   n (s9) (sS) (sE) (IntKind.i64.wrap (sH+(1:Int)))
 else
 bC k   n (s9) (sS) (sE) (IntKind.i64.wrap (sH+(1:Int)))
 else
 some ((-1:Int))
theorem lO (k:Nat)  : ∀ (n:Nat) (s9:List Tys) (sS:Int) (sE:Tyt) (sH:Int) ⦃s11 sX sT st:Int⦄ ⦃si:List Int⦄ ⦃sC:List Tyw⦄ ⦃j49:V⦄,itX (xX (xS (k+32)) 96 0 (k+32) false) uw (3) (ap (xX (xS (k+32)) 96 0 (k+32) false) (am (xS (k+32)).P Tryz.f96) r4) n ⟨[.ro (List.map cf s9),.fn (Fn.func (53:FuncId)) [] [.ptr 0 0 0 0],uu,uu,.lit (.int .i64 (0:Int)),j49,.ro (List.map cf s9),.lit (.int .i64 sS),.lit (.int .i64 sH),.junk,.junk,.junk,.junk,.junk,.junk,.junk,.junk,.junk,.junk],[.box [.lit (.int .i64 s11),.lit (.int .i64 sX),.lit (.int .i64 sT),.lit (.int .i64 st),.ro (List.map an sE),.ro (List.map (aF IntKind.u64) si),.ro (List.map aU sC),.ro (List.map cf s9)],.box [.lit (.bool false)],.box [.lit (.int .i64 s11),.lit (.int .i64 sX),.lit (.int .i64 sT),.lit (.int .i64 st),.ro (List.map an sE),.ro (List.map (aF IntKind.u64) si),.ro (List.map aU sC),.ro (List.map cf s9)]]⟩=ob (bC k   n s9 sS sE sH) fun r=>some ((.lit (.int .i64 r),[.box [.lit (.int .i64 s11),.lit (.int .i64 sX),.lit (.int .i64 sT),.lit (.int .i64 st),.ro (List.map an sE),.ro (List.map (aF IntKind.u64) si),.ro (List.map aU sC),.ro (List.map cf s9)],.box [.lit (.bool false)],.box [.lit (.int .i64 s11),.lit (.int .i64 sX),.lit (.int .i64 sT),.lit (.int .i64 st),.ro (List.map an sE),.ro (List.map (aF IntKind.u64) si),.ro (List.map aU sC),.ro (List.map cf s9)]])):=by
 intro n
 induction n with
 | zero=>intros;rfl
 | succ n ih=>
  intro s9 sS sE sH s11 sX sT st si sC j49
  rw [bC]
  simp -implicitDefEqProofs only [YO,XU,Uy,Bu,Az,BA,dz,dC,ix,iA,mJ,Yw,VJ,aH (g:=51),Nx,Kk,YH,UD,Bi,BC,AQ,BW,AL,Ca,BI,A6,iM,YT,Xy,BV,iu,YD,VD,Yx,WX,Um,AS,B3,iQ,iP,Gz,Ft,EJ,gR,co,YF,VU,Xk,Av,iK,↓syP,syA,syD,simprocAttr,syE,ag,af,ae,syW,xQ,lQ,Ec,ih]
def du (k:Nat) (v0:Typ)  : Nat→Int→Option Bool
 | 0,_=>none
 | n+1,s67=>
 bif decide (s67<(↑v0.2.2.2.1.length:Int)) then
 ob (idx v0.2.2.2.1 s67) fun xP=>
 ob (gf (k+9) (v0.1.1,v0.1.2.1,v0.1.2.2.1,v0.1.2.2.2) v0.2.1 v0.2.2.1 s67 (xP.1,xP.2.1,(xP.2.2.1.1,xP.2.2.1.2.1,xP.2.2.1.2.2.1,xP.2.2.1.2.2.2.1,xP.2.2.1.2.2.2.2.1,xP.2.2.1.2.2.2.2.2.1,xP.2.2.1.2.2.2.2.2.2),xP.2.2.2.1,xP.2.2.2.2)) fun xd=>
 bif !xd then
 some (false)
 else
 du k v0  n (IntKind.i64.wrap (s67+(1:Int)))
 else
 ob (bC k (k+32) v0.2.2.2.2 (↑v0.2.2.2.2.length:Int) v0.2.1 (0:Int)) fun xg=>
 some (!decide ((0:Int)≤xg))
theorem oC (k:Nat) (v0_0_0 v0_0_1 v0_0_2 v0_0_3:Int) (v0_1:Tyt) (v0_2:List Int) (v0_3:List Tyw) (v0_4:List Tys):∀ (n:Nat) (s67:Int) ⦃s3 s4:Bool⦄ ⦃j65 j66:V⦄,rt none (bq (itX (xX (xS (k+33)) 94 0 (k+33) false) om (4) (ap (xX (xS (k+33)) 94 0 (k+33) false) (am (xS (k+33)).P Tryz.f94) El) n ⟨[.yld 3,.ptr 2 0 0 0,uu,j65,j66,.ptr 2 0 0 6,.ro (List.map aU v0_3),.lit (.int .i64 (↑v0_3.length:Int)),.lit (.int .i64 s67),.junk,.junk,.junk,.junk,.junk,.junk,.junk,.junk,.junk,.junk,.junk,.junk,.junk,.junk,.junk,.junk,.junk,.junk,.junk,.junk,.junk],[.box [.lit (.int .i64 v0_0_0),.lit (.int .i64 v0_0_1),.lit (.int .i64 v0_0_2),.lit (.int .i64 v0_0_3),.ro (List.map an v0_1),.ro (List.map (aF IntKind.u64) v0_2),.ro (List.map aU v0_3),.ro (List.map cf v0_4)],.box [.lit (.bool false)],.box [.lit (.int .i64 v0_0_0),.lit (.int .i64 v0_0_1),.lit (.int .i64 v0_0_2),.lit (.int .i64 v0_0_3),.ro (List.map an v0_1),.ro (List.map (aF IntKind.u64) v0_2),.ro (List.map aU v0_3),.ro (List.map cf v0_4)],(.loop ⟨LoopState.ready,none,20,[.agg [.lit (.int .i64 v0_0_0),.lit (.int .i64 v0_0_1),.lit (.int .i64 v0_0_2),.lit (.int .i64 v0_0_3),.ro (List.map an v0_1),.ro (List.map (aF IntKind.u64) v0_2),.ro (List.map aU v0_3),.ro (List.map cf v0_4)],.ptr 0 0 0 0,.ptr 1 0 0 0,.ptr 0 0 0 0,.agg [.lit (.int .i64 v0_0_0),.lit (.int .i64 v0_0_1),.lit (.int .i64 v0_0_2),.lit (.int .i64 v0_0_3)],.lit (.bool s3),.lit (.bool s4),.lit (.bool false),.ptr 0 0 0 6,.ro (List.map aU v0_3),.lit (.int .i64 (↑v0_3.length:Int)),.ptr 0 0 0 0,.ptr 0 0 0 0,.lit (.int .i64 v0_0_0),.lit (.bool ((↑v0_3.length:Int)!=v0_0_0)),.lit (.bool ((↑v0_3.length:Int)!=v0_0_0)),.lit (.bool false),.ptr 0 0 0 7,.ro (List.map cf v0_4),.lit (.int .i64 (↑v0_4.length:Int)),.lit (.bool (decide ((3:Int)<(↑v0_4.length:Int)))),.lit (.bool (decide ((3:Int)<(↑v0_4.length:Int)))),.agg [.lit (.int .i64 v0_0_0),.lit (.int .i64 v0_0_1),.lit (.int .i64 v0_0_2),.lit (.int .i64 v0_0_3),.ro (List.map an v0_1),.ro (List.map (aF IntKind.u64) v0_2),.ro (List.map aU v0_3),.ro (List.map cf v0_4)],.fn (Fn.func (94:FuncId)) [] [.ptr 2 0 0 0],uu,uu,uu,uu,uu,uu],[(24:Tmp)],H6,Jt⟩)]⟩) (rfK (ap (xX (xS (k+34)) 20 0 (k+34) false) (am (xS (k+34)).P Tryz.f20) Fy) [.agg [.lit (.int .i64 v0_0_0),.lit (.int .i64 v0_0_1),.lit (.int .i64 v0_0_2),.lit (.int .i64 v0_0_3),.ro (List.map an v0_1),.ro (List.map (aF IntKind.u64) v0_2),.ro (List.map aU v0_3),.ro (List.map cf v0_4)],.ptr 0 0 0 0,.ptr 1 0 0 0,.ptr 0 0 0 0,.agg [.lit (.int .i64 v0_0_0),.lit (.int .i64 v0_0_1),.lit (.int .i64 v0_0_2),.lit (.int .i64 v0_0_3)],.lit (.bool s3),.lit (.bool s4),.lit (.bool false),.ptr 0 0 0 6,.ro (List.map aU v0_3),.lit (.int .i64 (↑v0_3.length:Int)),.ptr 0 0 0 0,.ptr 0 0 0 0,.lit (.int .i64 v0_0_0),.lit (.bool ((↑v0_3.length:Int)!=v0_0_0)),.lit (.bool ((↑v0_3.length:Int)!=v0_0_0)),.lit (.bool false),.ptr 0 0 0 7,.ro (List.map cf v0_4),.lit (.int .i64 (↑v0_4.length:Int)),.lit (.bool (decide ((3:Int)<(↑v0_4.length:Int)))),.lit (.bool (decide ((3:Int)<(↑v0_4.length:Int)))),.agg [.lit (.int .i64 v0_0_0),.lit (.int .i64 v0_0_1),.lit (.int .i64 v0_0_2),.lit (.int .i64 v0_0_3),.ro (List.map an v0_1),.ro (List.map (aF IntKind.u64) v0_2),.ro (List.map aU v0_3),.ro (List.map cf v0_4)],.fn (Fn.func (94:FuncId)) [] [.ptr 2 0 0 0],uu,uu,uu,uu,uu,uu] (3)))=ob (du k ((v0_0_0,v0_0_1,v0_0_2,v0_0_3),v0_1,v0_2,v0_3,v0_4)  n s67) fun r=>some ((.lit (.bool r)),[]):=by
 intro n
 induction n with
 | zero=>intros;rfl
 | succ n ih=>
  intro s67 s3 s4 j65 j66
  rw [du]
  simp -implicitDefEqProofs only [YO,XU,Uy,Bu,Az,BA,dz,dC,ix,iA,mJ,Yw,VJ,aH (g:=51),Nx,Kk,YH,UD,Bi,BC,AQ,BW,AL,Ca,BI,A6,iM,YT,Xy,BV,iu,YD,VD,Yx,WX,Um,AS,B3,iQ,iP,Gz,Ft,EJ,gR,co,YF,VU,Xk,Av,iK,↓syP,syA,syD,simprocAttr,syE,ag,af,ae,syW,xQ,bG,uc,lO,Oe,ih]
def ej (k:Nat) (v0:Typ):Option Bool:=
 ob (bK v0.1) fun xV=>
 bif !xV then
 some false
 else
 bif (↑v0.2.2.2.1.length:Int)!=v0.1.1 then
 some false
 else
 bif decide (3<(↑v0.2.2.2.2.length:Int)) then
 some false
 else
 du k v0 (k+33) 0
theorem ft (k:Nat) (v0_0_0 v0_0_1 v0_0_2 v0_0_3:Int) (v0_1:Tyt) (v0_2:List Int) (v0_3:List Tyw) (v0_4:List Tys):xC (k+35) none 20 [.agg [.lit (.int .i64 v0_0_0),.lit (.int .i64 v0_0_1),.lit (.int .i64 v0_0_2),.lit (.int .i64 v0_0_3),.ro (List.map an v0_1),.ro (List.map (aF .u64) v0_2),.ro (List.map aU v0_3),.ro (List.map cf v0_4)]]=ob (ej k ((v0_0_0,v0_0_1,v0_0_2,v0_0_3),v0_1,v0_2,v0_3,v0_4)) fun r=>some ((.lit (.bool r)),[]):=by
 rw [aH]
 unfold ej
 simp -implicitDefEqProofs only [YO,XU,Uy,Bu,Az,BA,dz,dC,ix,iA,mJ,Yw,VJ,aH (g:=51),Nx,Kk,YH,UD,Bi,BC,AQ,BW,AL,Ca,BI,A6,iM,YT,Xy,BV,iu,YD,VD,Yx,WX,Um,AS,B3,iQ,iP,Gz,Ft,EJ,gR,co,YF,VU,Xk,Av,iK,↓syP,syA,syD,simprocAttr,syE,ag,af,ae,syW,xQ,bG,oC k v0_0_0 v0_0_1 v0_0_2 v0_0_3 v0_1 v0_2 v0_3 v0_4]
end Go.Ab
set_option maxRecDepth 100000
set_option linter.unusedVariables false
set_option linter.unusedSimpArgs false
namespace Go.Ab
open Go.Proofs
def eA (k:Nat)   : Nat→Int→Int→Int→Int→Tyt→List Int→List Tyw→List Tys→Int→List Tyw→Int→List Tys→Option (Int×Int×Int×Int×Tyt×List Int×List Tyw×List Tys×List Tyw×List Tys)
 | 0,_,_,_,_,_,_,_,_,_,_,_,_=>none
 | n+1,sa,sq,sr,ss,sb,sc,sR,sP,sU,s47,su,sH=>
 bif decide (su<sU) then
 bif decide ((0:Int)≤su∧su.toNat<sP.length) then
 ob (sH[su.toNat]?) fun xd=>
 ob (aQ 8 xd.2.1) fun xg=>
 bif decide ((0:Int)≤su∧su.toNat<sP.length) then
 ob (sH[su.toNat]?) fun xV=>
 eA k   n (sa) (sq) (sr) (ss) (sb) (sc) (sR) (sP) (sU) (s47) (IntKind.i64.wrap (su+(1:Int))) (sH.set su.toNat (xV.1,xg,xV.2.2.1,xV.2.2.2.1,xV.2.2.2.2.1,xV.2.2.2.2.2.1,xV.2.2.2.2.2.2.1,xV.2.2.2.2.2.2.2.1,xV.2.2.2.2.2.2.2.2))
 else
 none
 else
 none
 else
 some (sa,sq,sr,ss,sb,sc,sR,sP,s47,sH)
theorem lG (k:Nat)  : ∀ (n:Nat) (sa sq sr ss:Int) (sb:Tyt) (sc:List Int) (sR:List Tyw) (sP:List Tys) (sU:Int) (s47:List Tyw) (su:Int) (sH:List Tys) ⦃sB:Tyt⦄ ⦃sL:List Int⦄ ⦃sW:List Tyw⦄ ⦃s33:List Tys⦄ ⦃sk:Int⦄ ⦃j46 j48:V⦄,itX (xX (xS (k+61)) 41 0 (k+61) false) Ex (8) (ap (xX (xS (k+61)) 41 0 (k+61) false) (am (xS (k+61)).P Tryz.f41) E6) n ⟨[.agg [.lit (.int .i64 sa),.lit (.int .i64 sq),.lit (.int .i64 sr),.lit (.int .i64 ss),.ro (List.map an sB),.ro (List.map (aF IntKind.u64) sL),.ro (List.map aU sW),.ro (List.map cf s33)],.ptr 0 0 0 0,.ptr 5 0 0 0,j46,j48,.ptr 0 0 0 4,.ro (List.map an sB),.ro (List.map an sb),.ptr 0 0 0 5,.ro (List.map (aF IntKind.u64) sL),.ro (List.map (aF IntKind.u64) sc),.ptr 0 0 0 4,.ptr 0 0 0 5,.ptr 0 0 0 6,.ro (List.map aU sW),.own 6 0 sR.length,.ptr 0 0 0 7,.ro (List.map cf s33),.own 7 0 sP.length,.ptr 0 0 0 6,.ptr 0 0 0 7,.ptr 0 0 0 6,.own 6 0 sR.length,.lit (.int .i64 sk),.junk,.junk,.junk,.junk,.junk,.junk,.junk,.junk,.junk,.junk,.junk,.junk,.junk,.junk,.junk,.junk,.ptr 0 0 0 7,.own 7 0 sP.length,.lit (.int .i64 sU),.lit (.int .i64 su),.junk,.junk,.junk,.junk,.junk,.junk,.junk,.junk,.junk,.junk,.junk,.junk,.junk,.junk,.junk,uu],[.box [.lit (.int .i64 sa),.lit (.int .i64 sq),.lit (.int .i64 sr),.lit (.int .i64 ss),.ro (List.map an sb),.ro (List.map (aF IntKind.u64) sc),.own 6 0 sR.length,.own 7 0 sP.length],.rows 0 [] 0 true,.rows 0 [] 0 true,.rows 0 [] 0 true,.rows 0 [] 0 true,.box [.lit (.int .i64 (0:Int)),.lit (.int .i64 (0:Int)),.lit (.int .i64 (0:Int)),.lit (.int .i64 (0:Int)),.own 1 0 0,.own 2 0 0,.own 3 0 0,.own 4 0 0],.rows 11 (List.map aU s47) 0 true,.rows 9 (List.map cf sH) 0 true]⟩=ob (eA k   n sa sq sr ss sb sc sR sP sU s47 su sH) fun r=>some ((.agg [.lit (.int .i64 r.1),.lit (.int .i64 r.2.1),.lit (.int .i64 r.2.2.1),.lit (.int .i64 r.2.2.2.1),.ro (List.map an r.2.2.2.2.1),.ro (List.map (aF IntKind.u64) r.2.2.2.2.2.1),.own 6 0 r.2.2.2.2.2.2.1.length,.own 7 0 r.2.2.2.2.2.2.2.1.length],[.box [.lit (.int .i64 r.1),.lit (.int .i64 r.2.1),.lit (.int .i64 r.2.2.1),.lit (.int .i64 r.2.2.2.1),.ro (List.map an r.2.2.2.2.1),.ro (List.map (aF IntKind.u64) r.2.2.2.2.2.1),.own 6 0 r.2.2.2.2.2.2.1.length,.own 7 0 r.2.2.2.2.2.2.2.1.length],.rows 0 [] 0 true,.rows 0 [] 0 true,.rows 0 [] 0 true,.rows 0 [] 0 true,.box [.lit (.int .i64 r.1),.lit (.int .i64 r.2.1),.lit (.int .i64 r.2.2.1),.lit (.int .i64 r.2.2.2.1),.ro (List.map an r.2.2.2.2.1),.ro (List.map (aF IntKind.u64) r.2.2.2.2.2.1),.own 6 0 r.2.2.2.2.2.2.1.length,.own 7 0 r.2.2.2.2.2.2.2.1.length],.rows 11 (List.map aU r.2.2.2.2.2.2.2.2.1) 0 true,.rows 9 (List.map cf r.2.2.2.2.2.2.2.2.2) 0 true])):=by
 intro n
 induction n with
 | zero=>intros;rfl
 | succ n ih=>
  intro sa sq sr ss sb sc sR sP sU s47 su sH sB sL sW s33 sk j46 j48
  rw [eA]
  simp -implicitDefEqProofs only [YN,Wz,UU,BP,iE,YG,UB,T6,AM,Ba,iq,iC,aH (g:=41),Yy,Wa,AK,iz,Yt,Vd,Yv,Ua,YJ,UL,↓syP,syA,syD,simprocAttr,syE,ag,af,ae,syW,xQ,Ov,ih]
def ez (k:Nat)   : Nat→Int→Int→Int→Int→Tyt→List Int→List Tyw→List Tys→Int→Int→List Tyw→Option (Int×Int×Int×Int×Tyt×List Int×List Tyw×List Tys×List Tyw×List Tys)
 | 0,_,_,_,_,_,_,_,_,_,_,_=>none
 | n+1,s6,s7,s8,s9,st,sE,si,sC,s18,sD,sO=>
 bif decide (sD<s18) then
 bif decide ((0:Int)≤sD∧sD.toNat<si.length) then
 ob (sO[sD.toNat]?) fun xl=>
 ob (aQ 24 xl.2.1) fun xm=>
 bif decide ((0:Int)≤sD∧sD.toNat<si.length) then
 ob (sO[sD.toNat]?) fun xW=>
 ez k   n (s6) (s7) (s8) (s9) (st) (sE) (si) (sC) (s18) (IntKind.i64.wrap (sD+(1:Int))) (sO.set sD.toNat (xW.1,xm,(xW.2.2.1.1,xW.2.2.1.2.1,xW.2.2.1.2.2.1,xW.2.2.1.2.2.2.1,xW.2.2.1.2.2.2.2.1,xW.2.2.1.2.2.2.2.2.1,xW.2.2.1.2.2.2.2.2.2),xW.2.2.2.1,xW.2.2.2.2))
 else
 none
 else
 none
 else
 eA k  (k+61) (s6) (s7) (s8) (s9) (st) (sE) (si) (sC) ((↑sC.length:Int)) (sO) ((0:Int)) (sC)
theorem gI (k:Nat)  : ∀ (n:Nat) (s6 s7 s8 s9:Int) (st:Tyt) (sE:List Int) (si:List Tyw) (sC:List Tys) (s18 sD:Int) (sO:List Tyw) ⦃sS:Tyt⦄ ⦃s11:List Int⦄ ⦃sX:List Tyw⦄ ⦃sT:List Tys⦄ ⦃j22:V⦄,itX (xX (xS (k+61)) 41 0 (k+61) false) ES (8) (ap (xX (xS (k+61)) 41 0 (k+61) false) (am (xS (k+61)).P Tryz.f41) EE) n ⟨[.agg [.lit (.int .i64 s6),.lit (.int .i64 s7),.lit (.int .i64 s8),.lit (.int .i64 s9),.ro (List.map an sS),.ro (List.map (aF IntKind.u64) s11),.ro (List.map aU sX),.ro (List.map cf sT)],.ptr 0 0 0 0,.ptr 5 0 0 0,j22,uu,.ptr 0 0 0 4,.ro (List.map an sS),.ro (List.map an st),.ptr 0 0 0 5,.ro (List.map (aF IntKind.u64) s11),.ro (List.map (aF IntKind.u64) sE),.ptr 0 0 0 4,.ptr 0 0 0 5,.ptr 0 0 0 6,.ro (List.map aU sX),.own 6 0 si.length,.ptr 0 0 0 7,.ro (List.map cf sT),.own 7 0 sC.length,.ptr 0 0 0 6,.ptr 0 0 0 7,.ptr 0 0 0 6,.own 6 0 si.length,.lit (.int .i64 s18),.lit (.int .i64 sD),.junk,.junk,.junk,.junk,.junk,.junk,.junk,.junk,.junk,.junk,.junk,.junk,.junk,.junk,.junk,uu,uu,uu,uu,uu,uu,uu,uu,uu,uu,uu,uu,uu,uu,uu,uu,uu,uu,uu,uu],[.box [.lit (.int .i64 s6),.lit (.int .i64 s7),.lit (.int .i64 s8),.lit (.int .i64 s9),.ro (List.map an st),.ro (List.map (aF IntKind.u64) sE),.own 6 0 si.length,.own 7 0 sC.length],.rows 0 [] 0 true,.rows 0 [] 0 true,.rows 0 [] 0 true,.rows 0 [] 0 true,.box [.lit (.int .i64 (0:Int)),.lit (.int .i64 (0:Int)),.lit (.int .i64 (0:Int)),.lit (.int .i64 (0:Int)),.own 1 0 0,.own 2 0 0,.own 3 0 0,.own 4 0 0],.rows 11 (List.map aU sO) 0 true,.rows 9 (List.map cf sC) 0 true]⟩=ob (ez k   n s6 s7 s8 s9 st sE si sC s18 sD sO) fun r=>some ((.agg [.lit (.int .i64 r.1),.lit (.int .i64 r.2.1),.lit (.int .i64 r.2.2.1),.lit (.int .i64 r.2.2.2.1),.ro (List.map an r.2.2.2.2.1),.ro (List.map (aF IntKind.u64) r.2.2.2.2.2.1),.own 6 0 r.2.2.2.2.2.2.1.length,.own 7 0 r.2.2.2.2.2.2.2.1.length],[.box [.lit (.int .i64 r.1),.lit (.int .i64 r.2.1),.lit (.int .i64 r.2.2.1),.lit (.int .i64 r.2.2.2.1),.ro (List.map an r.2.2.2.2.1),.ro (List.map (aF IntKind.u64) r.2.2.2.2.2.1),.own 6 0 r.2.2.2.2.2.2.1.length,.own 7 0 r.2.2.2.2.2.2.2.1.length],.rows 0 [] 0 true,.rows 0 [] 0 true,.rows 0 [] 0 true,.rows 0 [] 0 true,.box [.lit (.int .i64 r.1),.lit (.int .i64 r.2.1),.lit (.int .i64 r.2.2.1),.lit (.int .i64 r.2.2.2.1),.ro (List.map an r.2.2.2.2.1),.ro (List.map (aF IntKind.u64) r.2.2.2.2.2.1),.own 6 0 r.2.2.2.2.2.2.1.length,.own 7 0 r.2.2.2.2.2.2.2.1.length],.rows 11 (List.map aU r.2.2.2.2.2.2.2.2.1) 0 true,.rows 9 (List.map cf r.2.2.2.2.2.2.2.2.2) 0 true])):=by
 intro n
 induction n with
 | zero=>intros;rfl
 | succ n ih=>
  intro s6 s7 s8 s9 st sE si sC s18 sD sO sS s11 sX sT j22
  rw [ez]
  simp -implicitDefEqProofs only [YN,Wz,UU,BP,iE,YG,UB,T6,AM,Ba,iq,iC,aH (g:=41),Yy,Wa,AK,iz,Yt,Vd,Yv,Ua,YJ,UL,↓syP,syA,syD,simprocAttr,syE,ag,af,ae,syW,xQ,OU,ih,lG k ]
def cy (k:Nat) (v0:Typ) (v1:Tye)  : Nat→Int→Int→Int→Int→Tyt→List Tyw→List Tys→List Tyw→List Tys→Tye→Int→List Int→Nat→Option (Typ×Tye)
 | 0,_,_,_,_,_,_,_,_,_,_,_,_,_=>none
 | n+1,sI,sJ,sM,sN,sl,sm,sj,so,sY,sA,se,sf,sQ=>
 bif decide (se<(↑v1.length:Int)) then
 ob (idx v1 se) fun xD=>
 ob (mf (xD.1,xD.2.1,xD.2.2) v0.1.1 (↑v0.2.2.2.2.length:Int)) fun xr=>
 bif xr then
 bif xD.1==(0:Int) then
 bif decide ((0:Int)≤xD.2.1∧xD.2.1.toNat<sm.length) then
 ob (so[xD.2.1.toNat]?) fun xL=>
 ob (mj k (sI,sJ,sM,sN) sl sf xD.2.1 (xL.1,xL.2.1,(xL.2.2.1.1,xL.2.2.1.2.1,xL.2.2.1.2.2.1,xL.2.2.1.2.2.2.1,xL.2.2.1.2.2.2.2.1,xL.2.2.1.2.2.2.2.2.1,xL.2.2.1.2.2.2.2.2.2),xL.2.2.2.1,xL.2.2.2.2) xD.2.2) fun xI=>
 bif decide ((0:Int)≤xD.2.1∧xD.2.1.toNat<sm.length) then
 ob (so[xD.2.1.toNat]?) fun xE=>
 ck (sQ==3||sQ==0) (
 bif room (sA++xI.2.2).length 24 then
 cy k v0 v1  n (sI) (sJ) (sM) (sN) (sl) (sm) (sj) (so.set xD.2.1.toNat (xI.2.1.1,xI.2.1.2.1,(xI.2.1.2.2.1.1,xI.2.1.2.2.1.2.1,xI.2.1.2.2.1.2.2.1,xI.2.1.2.2.1.2.2.2.1,xI.2.1.2.2.1.2.2.2.2.1,xI.2.1.2.2.1.2.2.2.2.2.1,xI.2.1.2.2.1.2.2.2.2.2.2),xI.2.1.2.2.2.1,xI.2.1.2.2.2.2)) (sY) (sA++xI.2.2) (IntKind.i64.wrap (se+(1:Int))) (xI.1) (3)
 else
 none)
 else
 none
 else
 none
 else
 bif xD.1==(1:Int) then
 bif decide ((0:Int)≤xD.2.1∧xD.2.1.toNat<sj.length) then
 ob (sY[xD.2.1.toNat]?) fun xT=>
 ob (gP (k+36) (sI,sJ,sM,sN) sl sf (xT.1,xT.2.1,xT.2.2.1,xT.2.2.2.1,xT.2.2.2.2.1,xT.2.2.2.2.2.1,xT.2.2.2.2.2.2.1,xT.2.2.2.2.2.2.2.1,xT.2.2.2.2.2.2.2.2)) fun xe=>
 bif xe then
 bif decide ((0:Int)≤xD.2.1∧xD.2.1.toNat<sj.length) then
 ob (sY[xD.2.1.toNat]?) fun xU=>
 ob (i7 (k+20) (sI,sJ,sM,sN) sl sf xD.2.1 (xU.1,xU.2.1,xU.2.2.1,xU.2.2.2.1,xU.2.2.2.2.1,xU.2.2.2.2.2.1,xU.2.2.2.2.2.2.1,xU.2.2.2.2.2.2.2.1,xU.2.2.2.2.2.2.2.2)) fun xJ=>
 bif decide ((0:Int)≤xD.2.1∧xD.2.1.toNat<sj.length) then
 ob (sY[xD.2.1.toNat]?) fun x158=>
 ck (sQ==3||sQ==0) (
 bif room (sA++xJ.2.2).length 24 then
 cy k v0 v1  n (sI) (sJ) (sM) (sN) (sl) (sm) (sj) (so) (sY.set xD.2.1.toNat (xJ.2.1.1,xJ.2.1.2.1,xJ.2.1.2.2.1,xJ.2.1.2.2.2.1,xJ.2.1.2.2.2.2.1,xJ.2.1.2.2.2.2.2.1,xJ.2.1.2.2.2.2.2.2.1,xJ.2.1.2.2.2.2.2.2.2.1,xJ.2.1.2.2.2.2.2.2.2.2)) (sA++xJ.2.2) (IntKind.i64.wrap (se+(1:Int))) (xJ.1) (3)
 else
 none)
 else
 none
 else
 none
 else
 ck (sQ==3||sQ==0) (
 bif room sA.length 24 then
 cy k v0 v1  n (sI) (sJ) (sM) (sN) (sl) (sm) (sj) (so) (sY) (sA) (IntKind.i64.wrap (se+(1:Int))) (sf) (3)
 else
 none)
 else
 none
 else
 bif xD.1==(2:Int) then
 ob (bH sf (3:Int) (1:Int)) fun xh=>
 ck (sQ==3||sQ==0) (
 bif room sA.length 24 then
 cy k v0 v1  n (sI) (sJ) (sM) (sN) (sl) (sm) (sj) (so) (sY) (sA) (IntKind.i64.wrap (se+(1:Int))) (xh) (3)
 else
 none)
 else
 ck (sQ==3||sQ==0) (
 bif room sA.length 24 then
 cy k v0 v1  n (sI) (sJ) (sM) (sN) (sl) (sm) (sj) (so) (sY) (sA) (IntKind.i64.wrap (se+(1:Int))) (sf) (3)
 else
 none)
 else
 cy k v0 v1  n (sI) (sJ) (sM) (sN) (sl) (sm) (sj) (so) (sY) (sA) (IntKind.i64.wrap (se+(1:Int))) (sf) (sQ)
 else
 ck (decide (sm.length≤so.length)) (
 ck (decide (sj.length≤sY.length)) (
 some ((((sI),(sJ),(sM),(sN)),(sl),(sf),(List.take sm.length so),(List.take sj.length sY)),(sA))))
theorem kr (k:Nat) (v0_0_0 v0_0_1 v0_0_2 v0_0_3:Int) (v0_1:Tyt) (v0_2:List Int) (v0_3:List Tyw) (v0_4:List Tys) (v1:Tye):∀ (n:Nat) (sI sJ sM sN:Int) (sl:Tyt) (sm:List Tyw) (sj:List Tys) (so:List Tyw) (sY:List Tys) (sA:Tye) (se:Int) (sf:List Int) (sQ:Nat) ⦃s91:List Int⦄ ⦃s94 s95:Bool⦄ ⦃sF:Nat⦄ ⦃j117:V⦄,rt none (itX (xX (xS (k+62)) 17 0 (k+62) false) AP (15) (ap (xX (xS (k+62)) 17 0 (k+62) false) (am (xS (k+62)).P Tryz.f17) D6) n ⟨[.agg [.lit (.int .i64 v0_0_0),.lit (.int .i64 v0_0_1),.lit (.int .i64 v0_0_2),.lit (.int .i64 v0_0_3),.ro (List.map an v0_1),.ro (List.map (aF IntKind.u64) v0_2),.ro (List.map aU v0_3),.ro (List.map cf v0_4)],.ro (List.map ii v1),.ptr 0 0 0 0,uu,.ptr 5 0 0 0,.own 6 0 0,.ptr 13 0 0 0,.own 14 sF sA.length,uu,j117,.agg [.lit (.int .i64 v0_0_0),.lit (.int .i64 v0_0_1),.lit (.int .i64 v0_0_2),.lit (.int .i64 v0_0_3),.ro (List.map an v0_1),.ro (List.map (aF IntKind.u64) v0_2),.ro (List.map aU v0_3),.ro (List.map cf v0_4)],.agg [.lit (.int .i64 sI),.lit (.int .i64 sJ),.lit (.int .i64 sM),.lit (.int .i64 sN),.ro (List.map an sl),.ro (List.map (aF IntKind.u64) s91),.own 7 0 sm.length,.own 8 0 sj.length],.agg [.lit (.int .i64 v0_0_0),.lit (.int .i64 v0_0_1),.lit (.int .i64 v0_0_2),.lit (.int .i64 v0_0_3),.ro (List.map an v0_1),.ro (List.map (aF IntKind.u64) v0_2),.ro (List.map aU v0_3),.ro (List.map cf v0_4)],.lit (.bool s94),.lit (.bool s95),uu,.ro (List.map ii v1),.lit (.int .i64 (↑v1.length:Int)),.lit (.int .i64 se),.junk,.junk,.junk,.junk,.junk,.junk,.junk,.junk,.junk,.junk,.junk,.junk,.junk,.junk,.junk,.junk,uu,uu],[.box [.lit (.int .i64 v0_0_0),.lit (.int .i64 v0_0_1),.lit (.int .i64 v0_0_2),.lit (.int .i64 v0_0_3),.ro (List.map an v0_1),.ro (List.map (aF IntKind.u64) v0_2),.ro (List.map aU v0_3),.ro (List.map cf v0_4)],.rows 0 [] 0 true,.rows 0 [] 0 true,.rows 0 [] 0 true,.rows 0 [] 0 true,.box [.lit (.int .i64 (0:Int)),.lit (.int .i64 (0:Int)),.lit (.int .i64 (0:Int)),.lit (.int .i64 (0:Int)),.own 1 0 0,.own 2 0 0,.own 3 0 0,.own 4 0 0],.rows 0 [] 0 true,.rows 11 (List.map aU so) 0 true,.rows 9 (List.map cf sY) 0 true,.rows 0 [] 0 true,.rows 0 [] 0 true,.rows 0 [] 0 true,.rows 0 [] 0 true,.box [.lit (.int .i64 sI),.lit (.int .i64 sJ),.lit (.int .i64 sM),.lit (.int .i64 sN),.ro (List.map an sl),.ro (List.map (aF IntKind.u64) sf),.own 7 0 sm.length,.own 8 0 sj.length],.rows sQ (List.map aS sA) sF true]⟩)=ob (cy k ((v0_0_0,v0_0_1,v0_0_2,v0_0_3),v0_1,v0_2,v0_3,v0_4) v1  n sI sJ sM sN sl sm sj so sY sA se sf sQ) fun r=>some ((.tup [.agg [.lit (.int .i64 r.1.1.1),.lit (.int .i64 r.1.1.2.1),.lit (.int .i64 r.1.1.2.2.1),.lit (.int .i64 r.1.1.2.2.2),.ro (List.map an r.1.2.1),.ro (List.map (aF .u64) r.1.2.2.1),.ro (List.map aU r.1.2.2.2.1),.ro (List.map cf r.1.2.2.2.2)],.ro (List.map aS r.2)]),[]):=by
 intro n
 induction n with
 | zero=>intros;rfl
 | succ n ih=>
  intro sI sJ sM sN sl sm sj so sY sA se sf sQ s91 s94 s95 sF j117
  rw [cy]
  simp -implicitDefEqProofs only [YN,Wz,UU,BP,iE,YG,UB,T6,AM,Ba,iq,iC,aH (g:=41),Yy,Wa,AK,iz,Yt,Vd,Yv,Ua,YJ,UL,↓syP,syA,syD,simprocAttr,syE,ag,af,ae,syW,xQ,dN,oo,wb,Df,eS,ft,Dy,gI,Pa,ih]
def kY (k:Nat) (v0:Typ) (v1:Tye):Option (Typ×Tye):=
 ob (dL (k+59) v0.2.1) fun xN=>
 ob (aQ 8 v0.2.2.1) fun xH=>
 ob (aQ 104 v0.2.2.2.1) fun xb=>
 ob (aQ 88 v0.2.2.2.2) fun xi=>
 ob (ez k (k+61) v0.1.1 v0.1.2.1 v0.1.2.2.1 v0.1.2.2.2 xN xH xb xi (↑xb.length:Int) 0 xb) fun xB=>
 ck (decide (xB.2.2.2.2.2.2.1.length≤xB.2.2.2.2.2.2.2.2.1.length)) (
 ck (decide (xB.2.2.2.2.2.2.2.1.length≤xB.2.2.2.2.2.2.2.2.2.length)) (
 ob (ej (k+27) v0) fun xj=>
 bif !xj then
 ck (decide (xB.2.2.2.2.2.2.1.length≤(List.take xB.2.2.2.2.2.2.1.length xB.2.2.2.2.2.2.2.2.1).length)) (
 ck (decide (xB.2.2.2.2.2.2.2.1.length≤(List.take xB.2.2.2.2.2.2.2.1.length xB.2.2.2.2.2.2.2.2.2).length)) (
 some (((xB.1,xB.2.1,xB.2.2.1,xB.2.2.2.1),xB.2.2.2.2.1,xB.2.2.2.2.2.1,(List.take xB.2.2.2.2.2.2.1.length (List.take xB.2.2.2.2.2.2.1.length xB.2.2.2.2.2.2.2.2.1)),(List.take xB.2.2.2.2.2.2.2.1.length (List.take xB.2.2.2.2.2.2.2.1.length xB.2.2.2.2.2.2.2.2.2))),[])))
 else
 cy k v0 v1 (k+62) xB.1 xB.2.1 xB.2.2.1 xB.2.2.2.1 xB.2.2.2.2.1 xB.2.2.2.2.2.2.1 xB.2.2.2.2.2.2.2.1 (List.take xB.2.2.2.2.2.2.1.length xB.2.2.2.2.2.2.2.2.1) (List.take xB.2.2.2.2.2.2.2.1.length xB.2.2.2.2.2.2.2.2.2) ([]) 0 xB.2.2.2.2.2.1 0))
theorem uN (k:Nat) (v0_0_0 v0_0_1 v0_0_2 v0_0_3:Int) (v0_1:Tyt) (v0_2:List Int) (v0_3:List Tyw) (v0_4:List Tys) (v1:Tye):xC (k+63) none 17 [.agg [.lit (.int .i64 v0_0_0),.lit (.int .i64 v0_0_1),.lit (.int .i64 v0_0_2),.lit (.int .i64 v0_0_3),.ro (List.map an v0_1),.ro (List.map (aF .u64) v0_2),.ro (List.map aU v0_3),.ro (List.map cf v0_4)],.ro (List.map ii v1)]=ob (kY k ((v0_0_0,v0_0_1,v0_0_2,v0_0_3),v0_1,v0_2,v0_3,v0_4) v1) fun r=>some ((.tup [.agg [.lit (.int .i64 r.1.1.1),.lit (.int .i64 r.1.1.2.1),.lit (.int .i64 r.1.1.2.2.1),.lit (.int .i64 r.1.1.2.2.2),.ro (List.map an r.1.2.1),.ro (List.map (aF .u64) r.1.2.2.1),.ro (List.map aU r.1.2.2.2.1),.ro (List.map cf r.1.2.2.2.2)],.ro (List.map aS r.2)]),[]):=by
 rw [aH]
 unfold kY
 have hl0:=fun (xK:Int×Int×Int×Int×Tyt×List Int×List Tyw×List Tys×List Tyw×List Tys)=>kr k v0_0_0 v0_0_1 v0_0_2 v0_0_3 v0_1 v0_2 v0_3 v0_4 v1 (k+62) (xK.fst) (xK.snd.fst) (xK.snd.snd.fst) (xK.snd.snd.snd.fst) (xK.snd.snd.snd.snd.fst) (xK.snd.snd.snd.snd.snd.snd.fst) (xK.snd.snd.snd.snd.snd.snd.snd.fst) (List.take xK.snd.snd.snd.snd.snd.snd.fst.length xK.snd.snd.snd.snd.snd.snd.snd.snd.fst) (List.take xK.snd.snd.snd.snd.snd.snd.snd.fst.length xK.snd.snd.snd.snd.snd.snd.snd.snd.snd) ([]) ((0:Int)) (xK.snd.snd.snd.snd.snd.fst) (0)
 try simp -implicitDefEqProofs only [List.map_nil,List.length_nil] at hl0
 simp -implicitDefEqProofs only [YN,Wz,UU,BP,iE,YG,UB,T6,AM,Ba,iq,iC,aH (g:=41),Yy,Wa,AK,iz,Yt,Vd,Yv,Ua,YJ,UL,↓syP,syA,syD,simprocAttr,syE,ag,af,ae,syW,xQ,eS,ft,gI,kr k v0_0_0 v0_0_1 v0_0_2 v0_0_3 v0_1 v0_2 v0_3 v0_4 v1,hl0]
 all_goals simp -implicitDefEqProofs only [List.map_nil]
end Go.Ab
set_option maxRecDepth 100000
set_option linter.unusedVariables false
set_option linter.unusedSimpArgs false
namespace Go.Ab
open Go.Proofs
def bu (k:Nat)   : Nat→Tyt→Int→Nat→List Int→Int→Nat→Option (Nat×List Int×Nat)
 | 0,_,_,_,_,_,_=>none
 | n+1,s7,sS,sX,sT,sE,sC=>
 bif decide (sE<sS) then
 ob (dQ k s7 sE) fun x24=>
 bif x24==(-1:Int) then
 ck (sC==1||sC==0) (
 bif room (sT++[sE]).length 8 then
 bu k   n (s7) (sS) (sX+1) (sT++[sE]) (IntKind.i64.wrap (sE+(1:Int))) (1)
 else
 none)
 else
 bu k   n (s7) (sS) (sX) (sT) (IntKind.i64.wrap (sE+(1:Int))) (sC)
 else
 some (sX,sT,sC)
theorem cL (k:Nat)  : ∀ (n:Nat) (s7:Tyt) (sS:Int) (sX:Nat) (sT:List Int) (sE:Int) (sC:Nat) ⦃s8 s9:Bool⦄ ⦃j14:V⦄,itX (xX (xS (k+20)) 57 0 (k+20) false) uq (2) (ap (xX (xS (k+20)) 57 0 (k+20) false) (am (xS (k+20)).P Tryz.f57) Aj) n ⟨[.ro (List.map an s7),uu,.own 0 0 0,.own 1 sX sT.length,j14,.ro (List.map an s7),.lit (.bool s8),.lit (.bool s9),.ro (List.map an s7),.lit (.int .i64 sS),.lit (.int .i64 sE),.junk,.junk,.junk,.junk,.junk,.junk,.junk,.junk,.junk,.junk,.junk,uu],[.rows 0 [] 0 true,.rows sC (List.map (aF IntKind.i64) sT) sX true]⟩=ob (bu k   n s7 sS sX sT sE sC) fun r=>some ((.own 1 r.1 r.2.1.length,[.rows 0 [] 0 true,.rows r.2.2 (List.map (aF IntKind.i64) r.2.1) r.1 true])):=by
 intro n
 induction n with
 | zero=>intros;rfl
 | succ n ih=>
  intro s7 sS sX sT sE sC s8 s9 j14
  rw [bu]
  simp -implicitDefEqProofs only [U3,TW,TU,ua,ui,uK,uE,uI,gb,f8,gg,gh,UZ,TY,TX,rZ,f9,aH (g:=57),↓syP,syA,syD,simprocAttr,syE,ag,af,ae,syW,xQ,pZ,Ox,ih]
theorem eB (k:Nat) (v1:Tyt):∀ ⦃s8 s9:Bool⦄ ⦃j14:V⦄,itX (xX (xS (k+20)) 57 0 (k+20) false) uq 2 (ap (xX (xS (k+20)) 57 0 (k+20) false) (am (xS (k+20)).P Tryz.f57) Aj) (k+20) (St.mk [.ro (List.map an v1),uu,.own 0 0 0,.own 1 0 0,j14,.ro (List.map an v1),.lit (.bool s8),.lit (.bool s9),.ro (List.map an v1),.lit (.int .i64 (↑v1.length:Int)),.lit (.int .i64 (0:Int)),.junk,.junk,.junk,.junk,.junk,.junk,.junk,.junk,.junk,.junk,.junk,uu] [.rows 0 [] 0 true,.rows 0 [] 0 true])=ob (bu k (k+20) v1 (↑v1.length:Int) 0 [] (0:Int) 0) fun r ↦ some (.own 1 r.fst r.snd.fst.length,[.rows 0 [] 0 true,.rows r.snd.snd (List.map (aF IntKind.i64) r.snd.fst) r.fst true]):=by
 have h:=cL k  (k+20) (v1) ((↑v1.length:Int)) (0) ([]) ((0:Int)) (0)
 simp -implicitDefEqProofs only [List.map_nil,List.length_nil] at h
 exact h
def cz (k:Nat) (v0:(Int×Int×Int×Int)) (v1:Tyt) (v2:(List (List Int))) (o0:Tyt→List Int→Nat→List Tyw→Int→List Tys→Nat→Nat→List Int→Option (Typ×Bool)):Nat→List Int→Tyt→List Int→Int→Nat→List Tyw→Nat→Int→List Int→Int→List Tys→Nat→Option (Typ×Bool)
 | 0,_,_,_,_,_,_,_,_,_,_,_,_=>none
 | n+1,s81,sI,sJ,sM,sN,s105,sZ,s110,sp,s130,sx,s134=>
 bif decide (s110<sM) then
 ob (idx s81 s110) fun xh=>
 ck (decide (sZ≤sp.length)) (
 ob (cR (k+20) (List.take sZ sp) xh) fun xN=>
 bif decide (xN<(0:Int)) then
 some (((((0:Int)),((0:Int)),((0:Int)),((0:Int))),[],[],[],[]),(false))
 else
 ck (sN==1) (
 ck (decide (sZ≤sp.length∧(0:Int)≤xN∧xN<IntKind.i64.wrap (xN+(1:Int))∧(IntKind.i64.wrap (xN+(1:Int))).toNat≤sZ∧sZ≤9223372036854775807)) (
 cz k v0 v1 v2 o0 n (s81) (sI) (sJ) (sM) (1) (s105) (sZ - ((IntKind.i64.wrap (xN+(1:Int))).toNat - xN.toNat)) (IntKind.i64.wrap (s110+(1:Int))) (B4 (List.take sZ sp) xN.toNat (IntKind.i64.wrap (xN+(1:Int))).toNat++List.drop sZ sp) (s130) (sx) (s134))))
 else
 ob (fE s81) fun xH=>
 ck (s134==9||s134==0) (
 bif room (sx++[(xH.1,xH.2.1,xH.2.2.1,xH.2.2.2.1,xH.2.2.2.2.1,xH.2.2.2.2.2.1,xH.2.2.2.2.2.2.1,xH.2.2.2.2.2.2.2.1,xH.2.2.2.2.2.2.2.2)]).length 88 then
 o0 (sI) (sJ) (sN) (s105) (IntKind.i64.wrap (s130+(1:Int))) (sx++[(xH.1,xH.2.1,xH.2.2.1,xH.2.2.2.1,xH.2.2.2.2.1,xH.2.2.2.2.2.1,xH.2.2.2.2.2.2.1,xH.2.2.2.2.2.2.2.1,xH.2.2.2.2.2.2.2.2)]) (9) (sZ) (sp)
 else
 none)
theorem oB (k:Nat) (v0_0 v0_1 v0_2 v0_3:Int) (v1:Tyt) (v2:List (List Int)) (n56:Nat) (o0:Tyt→List Int→Nat→List Tyw→Int→List Tys→Nat→Nat→List Int→Option (Typ×Bool)) (ho0:∀ (sd:Tyt) (sK:List Int) (sw:Nat) (sn:List Tyw) (sV:Int) (sF:List Tys) (sA sg:Nat) (sh:List Int) ⦃s57:List Int⦄ ⦃s58 s59 s60 s61:Bool⦄ ⦃s76 s78 s114:Nat⦄ ⦃j75 j112 j136 j137:V⦄,rt none (itX (xX (xS (k+21)) 23 0 (k+21) false) oe (14) (ap (xX (xS (k+21)) 23 0 (k+21) false) (am (xS (k+21)).P Tryz.f23) uA) n56 ⟨(.agg [.lit (.int .i64 v0_0),.lit (.int .i64 v0_1),.lit (.int .i64 v0_2),.lit (.int .i64 v0_3)]::.ro (List.map an v1)::.ro (List.map cX v2)::.ptr 0 0 0 0::uu::uu::.ptr 5 0 0 0::.lit (.bool false)::.own 6 0 sg::.ptr 11 0 0 0::j75::uu::j112::uu::j136::j137::.agg [.lit (.int .i64 v0_0),.lit (.int .i64 v0_1),.lit (.int .i64 v0_2),.lit (.int .i64 v0_3)]::.lit (.bool s58)::.lit (.bool s59)::.lit (.bool false)::.ro (List.map an v1)::.lit (.bool s60)::.lit (.bool s61)::.lit (.bool s61)::.lit (.bool false)::.ro (List.map cX v2)::.lit (.int .i64 (↑v2.length:Int))::.lit (.bool (decide ((3:Int)<(↑v2.length:Int))))::.lit (.bool (decide ((3:Int)<(↑v2.length:Int))))::uu::.ro (List.map an v1)::.own 6 0 s57.length::.agg [.lit (.int .i64 v0_0),.lit (.int .i64 v0_1),.lit (.int .i64 v0_2),.lit (.int .i64 v0_3)]::.ro (List.map an v1)::.ro (List.map an sd)::.agg [.lit (.int .i64 v0_0),.lit (.int .i64 v0_1),.lit (.int .i64 v0_2),.lit (.int .i64 v0_3)]::.ro (List.map (aF IntKind.u64) sK)::.agg [.lit (.int .i64 v0_0),.lit (.int .i64 v0_1),.lit (.int .i64 v0_2),.lit (.int .i64 v0_3),.ro (List.map an sd),.ro (List.map (aF IntKind.u64) sK),.nil,.nil]::.ptr 0 0 0 0::.lit (.int .i64 v0_0)::.junk::.junk::.junk::.junk::.junk::.junk::.junk::.junk::.junk::.junk::.junk::.ro (List.map cX v2)::.lit (.int .i64 (↑v2.length:Int))::.lit (.int .i64 sV)::.junk::.junk::.junk::.junk::.junk::.junk::.junk::.junk::.junk::.junk::.junk::.junk::.junk::.junk::.junk::.junk::.junk::.junk::.junk::.junk::.junk::.junk::.junk::.junk::.junk::.junk::.junk::.junk::.junk::uu::[]),[.box [.lit (.int .i64 v0_0),.lit (.int .i64 v0_1),.lit (.int .i64 v0_2),.lit (.int .i64 v0_3)],.rows 0 [] 0 true,.rows 0 [] 0 true,.rows 0 [] 0 true,.rows 0 [] 0 true,.box [.lit (.int .i64 (0:Int)),.lit (.int .i64 (0:Int)),.lit (.int .i64 (0:Int)),.lit (.int .i64 (0:Int)),.own 1 0 0,.own 2 0 0,.own 3 0 0,.own 4 0 0],.rows sw (List.map (aF IntKind.i64) sh) 0 true,.rows 0 [] 0 true,.rows 0 [] 0 true,.rows 0 [] 0 true,.rows 0 [] 0 true,.box [.lit (.int .i64 v0_0),.lit (.int .i64 v0_1),.lit (.int .i64 v0_2),.lit (.int .i64 v0_3),.ro (List.map an sd),.ro (List.map (aF IntKind.u64) sK),.own 12 s76 sn.length,.own 13 s114 sF.length],.rows s78 (List.map aU sn) s76 true,.rows sA (List.map cf sF) s114 true]⟩)=ob (o0 sd sK sw sn sV sF sA sg sh) fun r=>some ((.tup [.agg [.lit (.int .i64 r.1.1.1),.lit (.int .i64 r.1.1.2.1),.lit (.int .i64 r.1.1.2.2.1),.lit (.int .i64 r.1.1.2.2.2),.ro (List.map an r.1.2.1),.ro (List.map (aF .u64) r.1.2.2.1),.ro (List.map aU r.1.2.2.2.1),.ro (List.map cf r.1.2.2.2.2)],.lit (.bool r.2)]),[])):∀ (n:Nat) (s81:List Int) (sI:Tyt) (sJ:List Int) (sM:Int) (sN:Nat) (s105:List Tyw) (sZ:Nat) (s110:Int) (sp:List Int) (s130:Int) (sx:List Tys) (s134:Nat) ⦃s80:List Int⦄ ⦃s82 s83 s84 s85:Bool⦄ ⦃s104 s106:Nat⦄ ⦃s131:Bool⦄ ⦃s132:Nat⦄ ⦃j103 j108 j109:V⦄,rt none (itX (xX (xS (k+21)) 23 0 (k+21) false) Eo (14) (ap (xX (xS (k+21)) 23 0 (k+21) false) (eJ (xX (xS (k+21)) 23 0 (k+21) false) oe 14 (ap (xX (xS (k+21)) 23 0 (k+21) false) (am (xS (k+21)).P Tryz.f23) uA) n56) Ff) n ⟨(.agg [.lit (.int .i64 v0_0),.lit (.int .i64 v0_1),.lit (.int .i64 v0_2),.lit (.int .i64 v0_3)]::.ro (List.map an v1)::.ro (List.map cX v2)::.ptr 0 0 0 0::uu::uu::.ptr 5 0 0 0::.lit (.bool false)::.own 6 0 sZ::.ptr 11 0 0 0::j103::uu::.ro (List.map (aF IntKind.i64) s81)::uu::j108::j109::.agg [.lit (.int .i64 v0_0),.lit (.int .i64 v0_1),.lit (.int .i64 v0_2),.lit (.int .i64 v0_3)]::.lit (.bool s82)::.lit (.bool s83)::.lit (.bool false)::.ro (List.map an v1)::.lit (.bool s84)::.lit (.bool s85)::.lit (.bool s85)::.lit (.bool false)::.ro (List.map cX v2)::.lit (.int .i64 (↑v2.length:Int))::.lit (.bool (decide ((3:Int)<(↑v2.length:Int))))::.lit (.bool (decide ((3:Int)<(↑v2.length:Int))))::uu::.ro (List.map an v1)::.own 6 0 s80.length::.agg [.lit (.int .i64 v0_0),.lit (.int .i64 v0_1),.lit (.int .i64 v0_2),.lit (.int .i64 v0_3)]::.ro (List.map an v1)::.ro (List.map an sI)::.agg [.lit (.int .i64 v0_0),.lit (.int .i64 v0_1),.lit (.int .i64 v0_2),.lit (.int .i64 v0_3)]::.ro (List.map (aF IntKind.u64) sJ)::.agg [.lit (.int .i64 v0_0),.lit (.int .i64 v0_1),.lit (.int .i64 v0_2),.lit (.int .i64 v0_3),.ro (List.map an sI),.ro (List.map (aF IntKind.u64) sJ),.nil,.nil]::.ptr 0 0 0 0::.lit (.int .i64 v0_0)::.junk::.junk::.junk::.junk::.junk::.junk::.junk::.junk::.junk::.junk::.junk::.ro (List.map cX v2)::.lit (.int .i64 (↑v2.length:Int))::.lit (.int .i64 s130)::.lit (.bool s131)::.rp [.ro (List.map (aF IntKind.i64) s81)]::.ro (List.map (aF IntKind.i64) s81)::.ro (List.map (aF IntKind.i64) s81)::.lit (.int .i64 sM)::.lit (.int .i64 s110)::.junk::.junk::.junk::.junk::.junk::.junk::.junk::.junk::.junk::.junk::.junk::.junk::.junk::.junk::.junk::.junk::.junk::.junk::.junk::.junk::.junk::.junk::.junk::uu::[]),[.box [.lit (.int .i64 v0_0),.lit (.int .i64 v0_1),.lit (.int .i64 v0_2),.lit (.int .i64 v0_3)],.rows 0 [] 0 true,.rows 0 [] 0 true,.rows 0 [] 0 true,.rows 0 [] 0 true,.box [.lit (.int .i64 (0:Int)),.lit (.int .i64 (0:Int)),.lit (.int .i64 (0:Int)),.lit (.int .i64 (0:Int)),.own 1 0 0,.own 2 0 0,.own 3 0 0,.own 4 0 0],.rows sN (List.map (aF IntKind.i64) sp) 0 true,.rows 0 [] 0 true,.rows 0 [] 0 true,.rows 0 [] 0 true,.rows 0 [] 0 true,.box [.lit (.int .i64 v0_0),.lit (.int .i64 v0_1),.lit (.int .i64 v0_2),.lit (.int .i64 v0_3),.ro (List.map an sI),.ro (List.map (aF IntKind.u64) sJ),.own 12 s104 s105.length,.own 13 s132 sx.length],.rows s106 (List.map aU s105) s104 true,.rows s134 (List.map cf sx) s132 true]⟩)=ob (cz k (v0_0,v0_1,v0_2,v0_3) v1 v2 o0 n s81 sI sJ sM sN s105 sZ s110 sp s130 sx s134) fun r=>some ((.tup [.agg [.lit (.int .i64 r.1.1.1),.lit (.int .i64 r.1.1.2.1),.lit (.int .i64 r.1.1.2.2.1),.lit (.int .i64 r.1.1.2.2.2),.ro (List.map an r.1.2.1),.ro (List.map (aF .u64) r.1.2.2.1),.ro (List.map aU r.1.2.2.2.1),.ro (List.map cf r.1.2.2.2.2)],.lit (.bool r.2)]),[]):=by
 intro n
 induction n with
 | zero=>intros;rfl
 | succ n ih=>
  intro s81 sI sJ sM sN s105 sZ s110 sp s130 sx s134 s80 s82 s83 s84 s85 s104 s106 s131 s132 j103 j108 j109
  rw [cz]
  simp -implicitDefEqProofs only [U3,TW,TU,ua,ui,uK,uE,uI,gb,f8,gg,gh,UZ,TY,TX,rZ,f9,aH (g:=57),↓syP,syA,syD,simprocAttr,syE,ag,af,ae,syW,xQ,cD,bG,mQ,fg,m8,kT,eS,cL,eB,NZ,ih,ho0]
  all_goals simp -implicitDefEqProofs only [List.map_nil]
def bR (k:Nat) (v0:(Int×Int×Int×Int)) (v1:Tyt) (v2:(List (List Int)))  : Nat→Tyt→List Int→Nat→List Tyw→Int→List Tys→Nat→Nat→List Int→Option (Typ×Bool)
 | 0,_,_,_,_,_,_,_,_,_=>none
 | n+1,sd,sK,sw,sn,sV,sF,sA,sg,sh=>
 bif decide (sV<(↑v2.length:Int)) then
 ob (idx v2 sV) fun xe=>
 cz k v0 v1 v2 (fun sd sK sw sn sV sF sA sg sh=>bR k v0 v1 v2  n sd sK sw sn sV sF sA sg sh) (k+21) (xe) (sd) (sK) ((↑xe.length:Int)) (sw) (sn) (sg) ((0:Int)) (sh) (sV) (sF) (sA)
 else
 some ((((v0.1),(v0.2.1),(v0.2.2.1),(v0.2.2.2)),(sd),(sK),(sn),(sF)),(true))
theorem ki (k:Nat) (v0_0 v0_1 v0_2 v0_3:Int) (v1:Tyt) (v2:List (List Int)):∀ (n:Nat) (sd:Tyt) (sK:List Int) (sw:Nat) (sn:List Tyw) (sV:Int) (sF:List Tys) (sA sg:Nat) (sh:List Int) ⦃s57:List Int⦄ ⦃s58 s59 s60 s61:Bool⦄ ⦃s76 s78 s114:Nat⦄ ⦃j75 j112 j136 j137:V⦄,rt none (itX (xX (xS (k+21)) 23 0 (k+21) false) oe (14) (ap (xX (xS (k+21)) 23 0 (k+21) false) (am (xS (k+21)).P Tryz.f23) uA) n ⟨(.agg [.lit (.int .i64 v0_0),.lit (.int .i64 v0_1),.lit (.int .i64 v0_2),.lit (.int .i64 v0_3)]::.ro (List.map an v1)::.ro (List.map cX v2)::.ptr 0 0 0 0::uu::uu::.ptr 5 0 0 0::.lit (.bool false)::.own 6 0 sg::.ptr 11 0 0 0::j75::uu::j112::uu::j136::j137::.agg [.lit (.int .i64 v0_0),.lit (.int .i64 v0_1),.lit (.int .i64 v0_2),.lit (.int .i64 v0_3)]::.lit (.bool s58)::.lit (.bool s59)::.lit (.bool false)::.ro (List.map an v1)::.lit (.bool s60)::.lit (.bool s61)::.lit (.bool s61)::.lit (.bool false)::.ro (List.map cX v2)::.lit (.int .i64 (↑v2.length:Int))::.lit (.bool (decide ((3:Int)<(↑v2.length:Int))))::.lit (.bool (decide ((3:Int)<(↑v2.length:Int))))::uu::.ro (List.map an v1)::.own 6 0 s57.length::.agg [.lit (.int .i64 v0_0),.lit (.int .i64 v0_1),.lit (.int .i64 v0_2),.lit (.int .i64 v0_3)]::.ro (List.map an v1)::.ro (List.map an sd)::.agg [.lit (.int .i64 v0_0),.lit (.int .i64 v0_1),.lit (.int .i64 v0_2),.lit (.int .i64 v0_3)]::.ro (List.map (aF IntKind.u64) sK)::.agg [.lit (.int .i64 v0_0),.lit (.int .i64 v0_1),.lit (.int .i64 v0_2),.lit (.int .i64 v0_3),.ro (List.map an sd),.ro (List.map (aF IntKind.u64) sK),.nil,.nil]::.ptr 0 0 0 0::.lit (.int .i64 v0_0)::.junk::.junk::.junk::.junk::.junk::.junk::.junk::.junk::.junk::.junk::.junk::.ro (List.map cX v2)::.lit (.int .i64 (↑v2.length:Int))::.lit (.int .i64 sV)::.junk::.junk::.junk::.junk::.junk::.junk::.junk::.junk::.junk::.junk::.junk::.junk::.junk::.junk::.junk::.junk::.junk::.junk::.junk::.junk::.junk::.junk::.junk::.junk::.junk::.junk::.junk::.junk::.junk::uu::[]),[.box [.lit (.int .i64 v0_0),.lit (.int .i64 v0_1),.lit (.int .i64 v0_2),.lit (.int .i64 v0_3)],.rows 0 [] 0 true,.rows 0 [] 0 true,.rows 0 [] 0 true,.rows 0 [] 0 true,.box [.lit (.int .i64 (0:Int)),.lit (.int .i64 (0:Int)),.lit (.int .i64 (0:Int)),.lit (.int .i64 (0:Int)),.own 1 0 0,.own 2 0 0,.own 3 0 0,.own 4 0 0],.rows sw (List.map (aF IntKind.i64) sh) 0 true,.rows 0 [] 0 true,.rows 0 [] 0 true,.rows 0 [] 0 true,.rows 0 [] 0 true,.box [.lit (.int .i64 v0_0),.lit (.int .i64 v0_1),.lit (.int .i64 v0_2),.lit (.int .i64 v0_3),.ro (List.map an sd),.ro (List.map (aF IntKind.u64) sK),.own 12 s76 sn.length,.own 13 s114 sF.length],.rows s78 (List.map aU sn) s76 true,.rows sA (List.map cf sF) s114 true]⟩)=ob (bR k (v0_0,v0_1,v0_2,v0_3) v1 v2  n sd sK sw sn sV sF sA sg sh) fun r=>some ((.tup [.agg [.lit (.int .i64 r.1.1.1),.lit (.int .i64 r.1.1.2.1),.lit (.int .i64 r.1.1.2.2.1),.lit (.int .i64 r.1.1.2.2.2),.ro (List.map an r.1.2.1),.ro (List.map (aF .u64) r.1.2.2.1),.ro (List.map aU r.1.2.2.2.1),.ro (List.map cf r.1.2.2.2.2)],.lit (.bool r.2)]),[]):=by
 intro n
 induction n with
 | zero=>intros;rfl
 | succ n ih=>
  intro sd sK sw sn sV sF sA sg sh s57 s58 s59 s60 s61 s76 s78 s114 j75 j112 j136 j137
  rw [bR]
  simp -implicitDefEqProofs only [U3,TW,TU,ua,ui,uK,uE,uI,gb,f8,gg,gh,UZ,TY,TX,rZ,f9,aH (g:=57),↓syP,syA,syD,simprocAttr,syE,ag,af,ae,syW,xQ,cD,bG,mQ,fg,m8,kT,eS,cL,eB,O3,ih,oB k v0_0 v0_1 v0_2 v0_3 v1 v2 _ (fun sd sK sw sn sV sF sA sg sh=>bR k (v0_0,v0_1,v0_2,v0_3) v1 v2  n sd sK sw sn sV sF sA sg sh) ih]
def cA (k:Nat) (v0:(Int×Int×Int×Int)) (v1:Tyt) (v2:(List (List Int)))  : Nat→Tyt→List Int→List Int→Nat→Int→List Tyw→Nat→Option (Typ×Bool)
 | 0,_,_,_,_,_,_,_=>none
 | n+1,sk,sU,sG,s41,s52,s54,s55=>
 bif decide (s52<v0.1) then
 ob (lj s52) fun xE=>
 ck (s55==11||s55==0) (
 bif room (s54++[(xE.1,xE.2.1,(xE.2.2.1.1,xE.2.2.1.2.1,xE.2.2.1.2.2.1,xE.2.2.1.2.2.2.1,xE.2.2.1.2.2.2.2.1,xE.2.2.1.2.2.2.2.2.1,xE.2.2.1.2.2.2.2.2.2),xE.2.2.2.1,xE.2.2.2.2)]).length 104 then
 cA k v0 v1 v2  n (sk) (sU) (sG) (s41) (IntKind.i64.wrap (s52+(1:Int))) (s54++[(xE.1,xE.2.1,(xE.2.2.1.1,xE.2.2.1.2.1,xE.2.2.1.2.2.1,xE.2.2.1.2.2.2.1,xE.2.2.1.2.2.2.2.1,xE.2.2.1.2.2.2.2.2.1,xE.2.2.1.2.2.2.2.2.2),xE.2.2.2.1,xE.2.2.2.2)]) (11)
 else
 none)
 else
 bR k v0 v1 v2 (k+21) (sk) (sU) (s41) (s54) ((0:Int)) ([]) (0) (sG.length) (sG)
theorem fN (k:Nat) (v0_0 v0_1 v0_2 v0_3:Int) (v1:Tyt) (v2:List (List Int)):∀ (n:Nat) (sk:Tyt) (sU sG:List Int) (s41:Nat) (s52:Int) (s54:List Tyw) (s55:Nat) ⦃sb sc sR sP:Bool⦄ ⦃sy:Nat⦄ ⦃j51:V⦄,rt none (itX (xX (xS (k+21)) 23 0 (k+21) false) EC (14) (ap (xX (xS (k+21)) 23 0 (k+21) false) (am (xS (k+21)).P Tryz.f23) E7) n ⟨(.agg [.lit (.int .i64 v0_0),.lit (.int .i64 v0_1),.lit (.int .i64 v0_2),.lit (.int .i64 v0_3)]::.ro (List.map an v1)::.ro (List.map cX v2)::.ptr 0 0 0 0::uu::uu::.ptr 5 0 0 0::.lit (.bool false)::.own 6 0 sG.length::.ptr 11 0 0 0::j51::uu::uu::uu::uu::uu::.agg [.lit (.int .i64 v0_0),.lit (.int .i64 v0_1),.lit (.int .i64 v0_2),.lit (.int .i64 v0_3)]::.lit (.bool sb)::.lit (.bool sc)::.lit (.bool false)::.ro (List.map an v1)::.lit (.bool sR)::.lit (.bool sP)::.lit (.bool sP)::.lit (.bool false)::.ro (List.map cX v2)::.lit (.int .i64 (↑v2.length:Int))::.lit (.bool (decide ((3:Int)<(↑v2.length:Int))))::.lit (.bool (decide ((3:Int)<(↑v2.length:Int))))::uu::.ro (List.map an v1)::.own 6 0 sG.length::.agg [.lit (.int .i64 v0_0),.lit (.int .i64 v0_1),.lit (.int .i64 v0_2),.lit (.int .i64 v0_3)]::.ro (List.map an v1)::.ro (List.map an sk)::.agg [.lit (.int .i64 v0_0),.lit (.int .i64 v0_1),.lit (.int .i64 v0_2),.lit (.int .i64 v0_3)]::.ro (List.map (aF IntKind.u64) sU)::.agg [.lit (.int .i64 v0_0),.lit (.int .i64 v0_1),.lit (.int .i64 v0_2),.lit (.int .i64 v0_3),.ro (List.map an sk),.ro (List.map (aF IntKind.u64) sU),.nil,.nil]::.ptr 0 0 0 0::.lit (.int .i64 v0_0)::.lit (.int .i64 s52)::.junk::.junk::.junk::.junk::.junk::.junk::.junk::.junk::.junk::.junk::uu::uu::uu::uu::uu::uu::uu::uu::uu::uu::uu::uu::uu::uu::uu::uu::uu::uu::uu::uu::uu::uu::uu::uu::uu::uu::uu::uu::uu::uu::uu::uu::uu::[]),[.box [.lit (.int .i64 v0_0),.lit (.int .i64 v0_1),.lit (.int .i64 v0_2),.lit (.int .i64 v0_3)],.rows 0 [] 0 true,.rows 0 [] 0 true,.rows 0 [] 0 true,.rows 0 [] 0 true,.box [.lit (.int .i64 (0:Int)),.lit (.int .i64 (0:Int)),.lit (.int .i64 (0:Int)),.lit (.int .i64 (0:Int)),.own 1 0 0,.own 2 0 0,.own 3 0 0,.own 4 0 0],.rows s41 (List.map (aF IntKind.i64) sG) 0 true,.rows 0 [] 0 true,.rows 0 [] 0 true,.rows 0 [] 0 true,.rows 0 [] 0 true,.box [.lit (.int .i64 v0_0),.lit (.int .i64 v0_1),.lit (.int .i64 v0_2),.lit (.int .i64 v0_3),.ro (List.map an sk),.ro (List.map (aF IntKind.u64) sU),.own 12 sy s54.length,.own 13 0 0],.rows s55 (List.map aU s54) sy true,.rows 0 [] 0 true]⟩)=ob (cA k (v0_0,v0_1,v0_2,v0_3) v1 v2  n sk sU sG s41 s52 s54 s55) fun r=>some ((.tup [.agg [.lit (.int .i64 r.1.1.1),.lit (.int .i64 r.1.1.2.1),.lit (.int .i64 r.1.1.2.2.1),.lit (.int .i64 r.1.1.2.2.2),.ro (List.map an r.1.2.1),.ro (List.map (aF .u64) r.1.2.2.1),.ro (List.map aU r.1.2.2.2.1),.ro (List.map cf r.1.2.2.2.2)],.lit (.bool r.2)]),[]):=by
 intro n
 induction n with
 | zero=>intros;rfl
 | succ n ih=>
  intro sk sU sG s41 s52 s54 s55 sb sc sR sP sy j51
  rw [cA]
  have hu2:=ki k v0_0 v0_1 v0_2 v0_3 v1 v2 (k+21) (sk) (sU) (s41) (s54) ((0:Int)) ([]) (0) (sG.length) (sG)
  try simp -implicitDefEqProofs only [List.map_nil,List.length_nil] at hu2
  simp -implicitDefEqProofs only [U3,TW,TU,ua,ui,uK,uE,uI,gb,f8,gg,gh,UZ,TY,TX,rZ,f9,aH (g:=57),↓syP,syA,syD,simprocAttr,syE,ag,af,ae,syW,xQ,cD,bG,mQ,fg,m8,kT,eS,cL,eB,OI,ih,ki k v0_0 v0_1 v0_2 v0_3 v1 v2,hu2]
def fq (k:Nat) (v0:(Int×Int×Int×Int)) (v1:Tyt) (v2:(List (List Int))):Option (Typ×Bool):=
 ob (bK v0) fun xb=>
 bif !xb then
 some (((0,0,0,0),[],[],[],[]),false)
 else
 ob (cF (k+2) v1) fun xi=>
 bif !xi then
 some (((0,0,0,0),[],[],[],[]),false)
 else
 bif decide (3<(↑v2.length:Int)) then
 some (((0,0,0,0),[],[],[],[]),false)
 else
 ob (cF (k+1) v1) fun xB=>
 bif !xB then
 ob (dL (k+19) v1) fun xj=>
 ob (iD (k+17) v0) fun xs=>
 cA k v0 v1 v2 (k+21) xj xs ([]) 0 0 ([]) 0
 else
 ob (bu k (k+20) v1 (↑v1.length:Int) 0 [] 0 0) fun xn=>
 ob (dL (k+19) v1) fun xt=>
 ob (iD (k+17) v0) fun xu=>
 cA k v0 v1 v2 (k+21) xt xu xn.2.1 xn.2.2 0 ([]) 0
theorem uJ (k:Nat) (v0_0 v0_1 v0_2 v0_3:Int) (v1:Tyt) (v2:List (List Int)):xC (k+22) none 23 [.agg [.lit (.int .i64 v0_0),.lit (.int .i64 v0_1),.lit (.int .i64 v0_2),.lit (.int .i64 v0_3)],.ro (List.map an v1),.ro (List.map cX v2)]=ob (fq k (v0_0,v0_1,v0_2,v0_3) v1 v2) fun r=>some ((.tup [.agg [.lit (.int .i64 r.1.1.1),.lit (.int .i64 r.1.1.2.1),.lit (.int .i64 r.1.1.2.2.1),.lit (.int .i64 r.1.1.2.2.2),.ro (List.map an r.1.2.1),.ro (List.map (aF .u64) r.1.2.2.1),.ro (List.map aU r.1.2.2.2.1),.ro (List.map cf r.1.2.2.2.2)],.lit (.bool r.2)]),[]):=by
 rw [aH]
 unfold fq
 have hl0:=fun (xv:Tyt) (xw:List Int)=>fN k v0_0 v0_1 v0_2 v0_3 v1 v2 (k+21) (xv) (xw) ([]) (0) ((0:Int)) ([]) (0)
 try simp -implicitDefEqProofs only [List.map_nil,List.length_nil] at hl0
 have hl1:=fun (xx:Tyt) (xy:List Int) (xo:Nat×List Int×Nat)=>fN k v0_0 v0_1 v0_2 v0_3 v1 v2 (k+21) (xx) (xy) (xo.snd.fst) (xo.snd.snd) ((0:Int)) ([]) (0)
 try simp -implicitDefEqProofs only [List.map_nil,List.length_nil] at hl1
 simp -implicitDefEqProofs only [U3,TW,TU,ua,ui,uK,uE,uI,gb,f8,gg,gh,UZ,TY,TX,rZ,f9,aH (g:=57),↓syP,syA,syD,simprocAttr,syE,ag,af,ae,syW,xQ,cD,bG,mQ,eS,cL,eB,fN k v0_0 v0_1 v0_2 v0_3 v1 v2,hl0,hl1]
 all_goals simp -implicitDefEqProofs only [List.map_nil]
end Go.Ab
set_option maxRecDepth 100000
set_option linter.unusedVariables false
set_option linter.unusedSimpArgs false
namespace Go.Ab
open Go.Proofs
def lK (k:Nat) (v0:Typ) (v1:(Int×Int×Int)):Option (Typ×Tye):=
 ob (kY k v0 [v1]) fun x2=>
 some (((x2.1.1.1,x2.1.1.2.1,x2.1.1.2.2.1,x2.1.1.2.2.2),x2.1.2),x2.2)
theorem DV (k:Nat) (v0_0_0 v0_0_1 v0_0_2 v0_0_3:Int) (v0_1:Tyt) (v0_2:List Int) (v0_3:List Tyw) (v0_4:List Tys) (v1_0 v1_1 v1_2:Int):xC (k+64) none 24 [.agg [.lit (.int .i64 v0_0_0),.lit (.int .i64 v0_0_1),.lit (.int .i64 v0_0_2),.lit (.int .i64 v0_0_3),.ro (List.map an v0_1),.ro (List.map (aF .u64) v0_2),.ro (List.map aU v0_3),.ro (List.map cf v0_4)],.agg [.lit (.int .i64 v1_0),.lit (.int .i64 v1_1),.lit (.int .u64 v1_2)]]=ob (lK k ((v0_0_0,v0_0_1,v0_0_2,v0_0_3),v0_1,v0_2,v0_3,v0_4) (v1_0,v1_1,v1_2)) fun r=>some ((.tup [.agg [.lit (.int .i64 r.1.1.1),.lit (.int .i64 r.1.1.2.1),.lit (.int .i64 r.1.1.2.2.1),.lit (.int .i64 r.1.1.2.2.2),.ro (List.map an r.1.2.1),.ro (List.map (aF .u64) r.1.2.2.1),.ro (List.map aU r.1.2.2.2.1),.ro (List.map cf r.1.2.2.2.2)],.ro (List.map aS r.2)]),[]):=by
 rw [aH]
 unfold lK
 simp -implicitDefEqProofs only [aez,adJ,↓syP,syA,syD,simprocAttr,syE,ag,af,ae,syW,xQ,uN]
end Go.Ab
set_option maxRecDepth 100000
set_option linter.unusedVariables false
set_option linter.unusedSimpArgs false
namespace Go.Ab
open Go.Proofs
def aW (k:Nat) (v0:(List (List Int)))  : Nat→Int→Option Bool
 | 0,_=>none
 | n+1,s3=>
 bif decide (s3<(↑v0.length:Int)) then
 bif decide (s3≤(10:Int)) then
 ob (idx v0 s3) fun x6=>
 bif decide ((60:Int)<(↑x6.length:Int)) then
 some (false)
 else
 aW k v0  n (IntKind.i64.wrap (s3+(1:Int)))
 else
 some (decide ((↑v0.length:Int)≤(10:Int)))
 else
 some (decide ((↑v0.length:Int)≤(10:Int)))
theorem fJ (k:Nat) (v0:List (List Int)):∀ (n:Nat) (s3:Int),rt none (itX (xX (xS k) 22 0 k false) oq (0) (ap (xX (xS k) 22 0 k false) (am (xS k).P Tryz.f22) Fz) n ⟨[.ro (List.map cX v0),uu,.lit (.bool false),.lit (.int .i64 s3),.junk,.junk,.junk,.junk,.junk,.junk,.junk,.junk,.junk,.junk,.junk,.junk,.junk,.junk,.junk,.junk,uu,uu,uu],[]⟩)=ob (aW k v0  n s3) fun r=>some ((.lit (.bool r)),[]):=by
 intro n
 induction n with
 | zero=>intros;rfl
 | succ n ih=>
  intro s3
  rw [aW]
  simp -implicitDefEqProofs only [adI,ZN,Zr,IA,IE,nw,nE,↓syP,syA,syD,simprocAttr,syE,ag,af,ae,syW,xQ,O0,ih]
def bS (k:Nat) (v0:(List (List Int))):Option Bool:=
 aW k v0 k 0
theorem eZ (k:Nat) (v0:List (List Int)):xC (k+1) none 22 [.ro (List.map cX v0)]=ob (bS k v0) fun r=>some ((.lit (.bool r)),[]):=by
 rw [aH]
 unfold bS
 simp -implicitDefEqProofs only [adI,ZN,Zr,IA,IE,nw,nE,↓syP,syA,syD,simprocAttr,syE,ag,af,ae,syW,xQ,fJ k v0]
end Go.Ab
set_option maxRecDepth 100000
set_option linter.unusedVariables false
set_option linter.unusedSimpArgs false
namespace Go.Ab
open Go.Proofs
def fI (v0:(Int×Int×Int×Int)) (v1:(List Int)):Option Int:=
 ob (ik v0 v1) fun x6=>
 bif !x6 then
 some ((-1))
 else
 ob (aD v1 5) fun x7=>
 ob (aD v1 4) fun x8=>
 ob (dE x7 x8) fun x9=>
 some x9
theorem ov (k:Nat) (v0_0 v0_1 v0_2 v0_3:Int) (v1:List Int):xC (k+5) none 64 [.agg [.lit (.int .i64 v0_0),.lit (.int .i64 v0_1),.lit (.int .i64 v0_2),.lit (.int .i64 v0_3)],.ro (List.map (aF .u64) v1)]=ob (fI (v0_0,v0_1,v0_2,v0_3) v1) fun r=>some ((.lit (.int .i64 r)),[]):=by
 rw [aH]
 unfold fI
 simp -implicitDefEqProofs only [adU,adg,↓syP,syA,syD,simprocAttr,syE,ag,af,ae,syW,xQ,bO,eN,uj]
def cU (k:Nat) (v0:(Int×Int×Int×Int)) (v1:(List Int)) (v2:Int)  : Nat→Int→Int→List Int→Int→Nat→Option ((List Int)×Bool)
 | 0,_,_,_,_,_=>none
 | n+1,sB,sW,s51,sy,sK=>
 bif decide (sy<sW) then
 ob (eR (v0.1,v0.2.1,v0.2.2.1,v0.2.2.2) v2 (IntKind.u64.wrap (sB+IntKind.u64.wrap sy))) fun xP=>
 ob (aD v1 xP) fun xd=>
 ck (sK==1||sK==0) (
 bif room (s51++[xd]).length 8 then
 cU k v0 v1 v2  n (sB) (sW) (s51++[xd]) (IntKind.i64.wrap (sy+(1:Int))) (1)
 else
 none)
 else
 some ((s51),(true))
theorem iv (k:Nat) (v0_0 v0_1 v0_2 v0_3:Int) (v1:List Int) (v2:Int):∀ (n:Nat) (sB sW:Int) (s51:List Int) (sy:Int) (sK:Nat) ⦃sL:Int⦄ ⦃s33 sb:Bool⦄ ⦃sc:Int⦄ ⦃sR:Bool⦄ ⦃sP sk:Int⦄ ⦃sU sG:Bool⦄ ⦃sH:Nat⦄ ⦃j52:V⦄,rt none (itX (xX (xS (k+12)) 65 0 (k+12) false) Fa (3) (ap (xX (xS (k+12)) 65 0 (k+12) false) (am (xS (k+12)).P Tryz.f65) ER) n ⟨(.agg [.lit (.int .i64 v0_0),.lit (.int .i64 v0_1),.lit (.int .i64 v0_2),.lit (.int .i64 v0_3)]::.ro (List.map (aF IntKind.u64) v1)::.lit (.int .i64 v2)::.ptr 0 0 0 0::uu::uu::.own 1 0 0::.lit (.bool false)::.lit (.int .u64 sB)::.lit (.int .u64 sL)::.lit (.int .i64 sW)::.own 2 sH s51.length::j52::.agg [.lit (.int .i64 v0_0),.lit (.int .i64 v0_1),.lit (.int .i64 v0_2),.lit (.int .i64 v0_3)]::.lit (.bool s33)::.lit (.bool sb)::.lit (.bool false)::.ro (List.map (aF IntKind.u64) v1)::.lit (.int .i64 (↑v1.length:Int))::.agg [.lit (.int .i64 v0_0),.lit (.int .i64 v0_1),.lit (.int .i64 v0_2),.lit (.int .i64 v0_3)]::.lit (.int .i64 sc)::.lit (.bool sR)::.lit (.bool sR)::.lit (.bool false)::.lit (.int .i64 v2)::.lit (.bool (decide (v2<(0:Int))))::.lit (.bool (decide (v2<(0:Int))))::.lit (.bool false)::.lit (.int .i64 v2)::.ptr 0 0 0 0::.lit (.int .i64 v0_0)::.lit (.bool (decide (v0_0≤v2)))::.lit (.bool (decide (v0_0≤v2)))::.ro (List.map (aF IntKind.u64) v1)::.agg [.lit (.int .i64 v0_0),.lit (.int .i64 v0_1),.lit (.int .i64 v0_2),.lit (.int .i64 v0_3)]::.lit (.int .i64 v2)::.lit (.int .i64 sP)::.lit (.int .u64 sB)::.ro (List.map (aF IntKind.u64) v1)::.agg [.lit (.int .i64 v0_0),.lit (.int .i64 v0_1),.lit (.int .i64 v0_2),.lit (.int .i64 v0_3)]::.lit (.int .i64 v2)::.lit (.int .i64 sk)::.lit (.int .u64 sL)::.lit (.int .u64 sL)::.lit (.int .u64 sB)::.lit (.int .i64 sW)::.lit (.int .i64 sW)::.lit (.bool sU)::.lit (.bool false)::.lit (.int .i64 sW)::.ptr 0 0 0 1::.lit (.int .i64 v0_1)::.lit (.bool sG)::.lit (.bool sG)::.lit (.int .i64 sW)::.lit (.int .i64 sy)::.junk::.junk::.junk::.junk::.junk::.junk::.junk::.junk::.junk::.junk::.junk::.junk::.junk::.junk::.junk::uu::[]),[.box [.lit (.int .i64 v0_0),.lit (.int .i64 v0_1),.lit (.int .i64 v0_2),.lit (.int .i64 v0_3)],.rows 0 [] 0 true,.rows sK (List.map (aF IntKind.u64) s51) sH true]⟩)=ob (cU k (v0_0,v0_1,v0_2,v0_3) v1 v2  n sB sW s51 sy sK) fun r=>some ((.tup [.ro (List.map (aF .u64) r.1),.lit (.bool r.2)]),[]):=by
 intro n
 induction n with
 | zero=>intros;rfl
 | succ n ih=>
  intro sB sW s51 sy sK sL s33 sb sc sR sP sk sU sG sH j52
  rw [cU]
  simp -implicitDefEqProofs only [adq,abm,Zb,HX,Jc,ID,HB,Ir,nm,ny,nH,↓syP,syA,syD,simprocAttr,syE,ag,af,ae,syW,xQ,bG,dY,bO,gw,dT,lc,eN,Og,ih]
def gu (k:Nat) (v0:(Int×Int×Int×Int)) (v1:(List Int)) (v2:Int):Option ((List Int)×Bool):=
 ob (bK v0) fun xg=>
 bif !xg then
 some ([],false)
 else
 ob (cO v0) fun xV=>
 bif (↑v1.length:Int)!=xV then
 some ([],false)
 else
 bif decide (v2<0) then
 some ([],false)
 else
 bif decide (v0.1≤v2) then
 some ([],false)
 else
 ob (eV v0 v2) fun x79=>
 ob (aD v1 x79) fun xq=>
 ob (cC v0 v2) fun x81=>
 ob (aD v1 x81) fun x82=>
 ob (dE x82 xq) fun xp=>
 bif decide (xp<0) then
 some ([],false)
 else
 bif decide (v0.2.1<xp) then
 some ([],false)
 else
 cU k v0 v1 v2 (k+12) xq xp ([]) 0 0
theorem CJ (k:Nat) (v0_0 v0_1 v0_2 v0_3:Int) (v1:List Int) (v2:Int):xC (k+13) none 65 [.agg [.lit (.int .i64 v0_0),.lit (.int .i64 v0_1),.lit (.int .i64 v0_2),.lit (.int .i64 v0_3)],.ro (List.map (aF .u64) v1),.lit (.int .i64 v2)]=ob (gu k (v0_0,v0_1,v0_2,v0_3) v1 v2) fun r=>some ((.tup [.ro (List.map (aF .u64) r.1),.lit (.bool r.2)]),[]):=by
 rw [aH]
 unfold gu
 have hl0:=fun (x87:Int) (x90:Int)=>iv k v0_0 v0_1 v0_2 v0_3 v1 v2 (k+12) (x87) (x90) ([]) ((0:Int)) (0)
 try simp -implicitDefEqProofs only [List.map_nil,List.length_nil] at hl0
 simp -implicitDefEqProofs only [adq,abm,Zb,HX,Jc,ID,HB,Ir,nm,ny,nH,↓syP,syA,syD,simprocAttr,syE,ag,af,ae,syW,xQ,bG,dY,bO,gw,dT,eN,iv k v0_0 v0_1 v0_2 v0_3 v1 v2,hl0]
 all_goals simp -implicitDefEqProofs only [List.map_nil]
def ct (k:Nat) (v0:Typ)  : Nat→Int→Int→Option Int
 | 0,_,_=>none
 | n+1,sC,s98=>
 bif decide (s98<v0.1.1) then
 ob (gu (k+22) (v0.1.1,v0.1.2.1,v0.1.2.2.1,v0.1.2.2.2) v0.2.2.1 s98) fun xz=>
 ct k v0  n (IntKind.i64.wrap (sC+(↑xz.1.length:Int))) (IntKind.i64.wrap (s98+(1:Int)))
 else
 some (sC)
theorem mb (k:Nat) (v0_0_0 v0_0_1 v0_0_2 v0_0_3:Int) (v0_1:Tyt) (v0_2:List Int) (v0_3:List Tyw) (v0_4:List Tys):∀ (n:Nat) (sC s98:Int) ⦃s18 s19:Bool⦄ ⦃sY:Int⦄ ⦃j94 j95 j96:V⦄,rt none (itX (xX (xS (k+35)) 26 0 (k+35) false) E0 (1) (ap (xX (xS (k+35)) 26 0 (k+35) false) (am (xS (k+35)).P Tryz.f26) EL) n ⟨[.agg [.lit (.int .i64 v0_0_0),.lit (.int .i64 v0_0_1),.lit (.int .i64 v0_0_2),.lit (.int .i64 v0_0_3),.ro (List.map an v0_1),.ro (List.map (aF IntKind.u64) v0_2),.ro (List.map aU v0_3),.ro (List.map cf v0_4)],.ptr 0 0 0 0,.lit (.int .i64 (0:Int)),.lit (.int .i64 sC),j94,j95,j96,.agg [.lit (.int .i64 v0_0_0),.lit (.int .i64 v0_0_1),.lit (.int .i64 v0_0_2),.lit (.int .i64 v0_0_3),.ro (List.map an v0_1),.ro (List.map (aF IntKind.u64) v0_2),.ro (List.map aU v0_3),.ro (List.map cf v0_4)],.lit (.bool s18),.lit (.bool s19),.ptr 0 0 0 0,.agg [.lit (.int .i64 v0_0_0),.lit (.int .i64 v0_0_1),.lit (.int .i64 v0_0_2),.lit (.int .i64 v0_0_3)],.ptr 0 0 0 5,.ro (List.map (aF IntKind.u64) v0_2),.lit (.int .i64 sY),.ptr 0 0 0 0,.ptr 0 0 0 0,.lit (.int .i64 v0_0_0),.lit (.int .i64 s98),.junk,.junk,.junk,.junk,.junk,.junk,.junk,.junk,.junk,.junk,.junk,.junk,.junk,.junk,.junk,.junk,uu],[.box [.lit (.int .i64 v0_0_0),.lit (.int .i64 v0_0_1),.lit (.int .i64 v0_0_2),.lit (.int .i64 v0_0_3),.ro (List.map an v0_1),.ro (List.map (aF IntKind.u64) v0_2),.ro (List.map aU v0_3),.ro (List.map cf v0_4)]]⟩)=ob (ct k ((v0_0_0,v0_0_1,v0_0_2,v0_0_3),v0_1,v0_2,v0_3,v0_4)  n sC s98) fun r=>some ((.lit (.int .i64 r)),[]):=by
 intro n
 induction n with
 | zero=>intros;rfl
 | succ n ih=>
  intro sC s98 s18 s19 sY j94 j95 j96
  rw [ct]
  simp -implicitDefEqProofs only [adA,acK,aat,I2,na,↓syP,syA,syD,simprocAttr,syE,ag,af,ae,syW,xQ,ft,ov,CJ,OC,ih]
def dp (k:Nat) (v0:Typ):Option Int:=
 ob (ej k v0) fun x104=>
 bif !x104 then
 some 0
 else
 ob (fI v0.1 v0.2.2.1) fun x105=>
 ct k v0 (k+35) x105 0
theorem wS (k:Nat) (v0_0_0 v0_0_1 v0_0_2 v0_0_3:Int) (v0_1:Tyt) (v0_2:List Int) (v0_3:List Tyw) (v0_4:List Tys):xC (k+36) none 26 [.agg [.lit (.int .i64 v0_0_0),.lit (.int .i64 v0_0_1),.lit (.int .i64 v0_0_2),.lit (.int .i64 v0_0_3),.ro (List.map an v0_1),.ro (List.map (aF .u64) v0_2),.ro (List.map aU v0_3),.ro (List.map cf v0_4)]]=ob (dp k ((v0_0_0,v0_0_1,v0_0_2,v0_0_3),v0_1,v0_2,v0_3,v0_4)) fun r=>some ((.lit (.int .i64 r)),[]):=by
 rw [aH]
 unfold dp
 simp -implicitDefEqProofs only [adA,acK,aat,I2,na,↓syP,syA,syD,simprocAttr,syE,ag,af,ae,syW,xQ,ft,ov,mb k v0_0_0 v0_0_1 v0_0_2 v0_0_3 v0_1 v0_2 v0_3 v0_4]
end Go.Ab
set_option maxRecDepth 100000
set_option linter.unusedVariables false
set_option linter.unusedSimpArgs false
namespace Go.Ab
open Go.Proofs
def az (k:Nat) (v0:(List Tys))  : Nat→Int→Option Int
 | 0,_=>none
 | n+1,s6=>
 bif decide (s6<(↑v0.length:Int)) then
 ob (idx v0 s6) fun xZ=>
 ob (eT (xZ.1,xZ.2.1,xZ.2.2.1,xZ.2.2.2.1,xZ.2.2.2.2.1,xZ.2.2.2.2.2.1,xZ.2.2.2.2.2.2.1,xZ.2.2.2.2.2.2.2.1,xZ.2.2.2.2.2.2.2.2)) fun x12=>
 bif x12 then
 some (s6)
 else
 az k v0  n (IntKind.i64.wrap (s6+(1:Int)))
 else
 some ((-1:Int))
theorem dt (k:Nat) (v0:List Tys):∀ (n:Nat) (s6:Int) ⦃j5:V⦄,rt none (itX (xX (xS (k+8)) 96 0 (k+8) false) uw (0) (ap (xX (xS (k+8)) 96 0 (k+8) false) (am (xS (k+8)).P Tryz.f96) r4) n ⟨[.ro (List.map cf v0),.fn (Fn.func (28:FuncId)) [] [],uu,uu,.lit (.int .i64 (0:Int)),j5,.ro (List.map cf v0),.lit (.int .i64 (↑v0.length:Int)),.lit (.int .i64 s6),.junk,.junk,.junk,.junk,.junk,.junk,.junk,.junk,.junk,.junk],[]⟩)=ob (az k v0  n s6) fun r=>some ((.lit (.int .i64 r)),[]):=by
 intro n
 induction n with
 | zero=>intros;rfl
 | succ n ih=>
  intro s6 j5
  rw [az]
  simp -implicitDefEqProofs only [Gz,Ft,EJ,gR,co,↓syP,syA,syD,simprocAttr,syE,ag,af,ae,syW,xQ,wy,Ec,ih]
def ba (k:Nat) (v0:(List Tys)):Option Int:=
 az k v0 (k+8) 0
theorem eq (k:Nat) (v0:List Tys):xC (k+9) none 96 [.ro (List.map cf v0),.fn (Fn.func (28:FuncId)) [] []]=ob (ba k v0) fun r=>some ((.lit (.int .i64 r)),[]):=by
 rw [aH]
 unfold ba
 simp -implicitDefEqProofs only [Gz,Ft,EJ,gR,co,↓syP,syA,syD,simprocAttr,syE,ag,af,ae,syW,xQ,dt k v0]
def aN (k:Nat) (v0:(List Tys)):Option Bool:=
 ob (ba (k+8) v0) fun x14=>
 some (decide (0≤x14))
theorem b9 (k:Nat) (v0:List Tys):xC (k+18) none 52 [.ro (List.map cf v0),.fn (Fn.func (28:FuncId)) [] []]=ob (aN k v0) fun r=>some ((.lit (.bool r)),[]):=by
 rw [aH]
 unfold aN
 simp -implicitDefEqProofs only [Nx,Kk,Gz,Ft,EJ,gR,co,↓syP,syA,syD,simprocAttr,syE,ag,af,ae,syW,xQ,eq]
def cr (k : Nat) (v0 : ((Int × Int × Int × Int) × List (Int × List Int) × List Int × List (Int × List (Int × Int × Int) × (Int × Int × Int × Int × Int × Int × Int) × Int × Int) × List (Int × List Int × Int × Int × Int × Int × Int × Int × Int)))  : Nat → Int → Option Bool
 | 0,_ => none
 | n + 1,sB =>
 bif decide (sB < (↑v0.2.2.2.1.length : Int)) then
 ob (idx v0.2.2.2.1 sB) fun xO =>
 ob (eU (xO.1,xO.2.1,(xO.2.2.1.1,xO.2.2.1.2.1,xO.2.2.1.2.2.1,xO.2.2.1.2.2.2.1,xO.2.2.1.2.2.2.2.1,xO.2.2.1.2.2.2.2.2.1,xO.2.2.1.2.2.2.2.2.2),xO.2.2.2.1,xO.2.2.2.2)) fun xf =>
 bif !xf then
 some (false)
 else
 ob (eh (v0.1.1,v0.1.2.1,v0.1.2.2.1,v0.1.2.2.2) sB) fun x43 =>
 ob (aD v0.2.2.1 x43) fun x44 =>
 bif x44 != (0 : Int) then
 some (false)
 else
 cr k v0  n (IntKind.i64.wrap (sB + (1 : Int)))
 else
 some (true)
theorem lD (k:Nat) (v0_0_0 v0_0_1 v0_0_2 v0_0_3:Int) (v0_1:Tyt) (v0_2:List Int) (v0_3:List Tyw) (v0_4:List Tys):∀ (n:Nat) (sB:Int) ⦃s19 sv sz:Bool⦄ ⦃j28 j29:V⦄,rt none (itX (xX (xS (k+35)) 25 0 (k+35) false) nX (1) (ap (xX (xS (k+35)) 25 0 (k+35) false) (am (xS (k+35)).P Tryz.f25) EV) n ⟨[.agg [.lit (.int .i64 v0_0_0),.lit (.int .i64 v0_0_1),.lit (.int .i64 v0_0_2),.lit (.int .i64 v0_0_3),.ro (List.map an v0_1),.ro (List.map (aF IntKind.u64) v0_2),.ro (List.map aU v0_3),.ro (List.map cf v0_4)],.ptr 0 0 0 0,.lit (.bool false),j28,j29,.agg [.lit (.int .i64 v0_0_0),.lit (.int .i64 v0_0_1),.lit (.int .i64 v0_0_2),.lit (.int .i64 v0_0_3),.ro (List.map an v0_1),.ro (List.map (aF IntKind.u64) v0_2),.ro (List.map aU v0_3),.ro (List.map cf v0_4)],.lit (.bool s19),.lit (.bool sv),.lit (.bool false),.ptr 0 0 0 7,.ro (List.map cf v0_4),.lit (.bool sz),.lit (.bool sz),.ptr 0 0 0 6,.ro (List.map aU v0_3),.lit (.int .i64 (↑v0_3.length:Int)),.lit (.int .i64 sB),.junk,.junk,.junk,.junk,.junk,.junk,.junk,.junk,.junk,.junk,.junk,.junk,.junk,.junk,.junk,.junk,.junk,.junk],[.box [.lit (.int .i64 v0_0_0),.lit (.int .i64 v0_0_1),.lit (.int .i64 v0_0_2),.lit (.int .i64 v0_0_3),.ro (List.map an v0_1),.ro (List.map (aF IntKind.u64) v0_2),.ro (List.map aU v0_3),.ro (List.map cf v0_4)]]⟩)=ob (cr k ((v0_0_0,v0_0_1,v0_0_2,v0_0_3),v0_1,v0_2,v0_3,v0_4)  n sB) fun r=>some ((.lit (.bool r)),[]):=by
 intro n
 induction n with
 | zero=>intros;rfl
 | succ n ih=>
  intro sB s19 sv sz j28 j29
  rw [cr]
  simp -implicitDefEqProofs only [adr,acm,aac,Jo,HP,J2,nM,nS,nK,Nx,Kk,Gz,Ft,EJ,gR,co,↓syP,syA,syD,simprocAttr,syE,ag,af,ae,syW,xQ,bO,nG,wE,ft,b9,N0,ih]
def dm (k:Nat) (v0:Typ):Option Bool:=
 ob (ej k v0) fun x45=>
 bif !x45 then
 some false
 else
 ob (aN (k+17) v0.2.2.2.2) fun xk=>
 bif xk then
 some false
 else
 cr k v0 (k+35) 0
theorem mO (k:Nat) (v0_0_0 v0_0_1 v0_0_2 v0_0_3:Int) (v0_1:Tyt) (v0_2:List Int) (v0_3:List Tyw) (v0_4:List Tys):xC (k+36) none 25 [.agg [.lit (.int .i64 v0_0_0),.lit (.int .i64 v0_0_1),.lit (.int .i64 v0_0_2),.lit (.int .i64 v0_0_3),.ro (List.map an v0_1),.ro (List.map (aF .u64) v0_2),.ro (List.map aU v0_3),.ro (List.map cf v0_4)]]=ob (dm k ((v0_0_0,v0_0_1,v0_0_2,v0_0_3),v0_1,v0_2,v0_3,v0_4)) fun r=>some ((.lit (.bool r)),[]):=by
 rw [aH]
 unfold dm
 simp -implicitDefEqProofs only [adr,acm,aac,Jo,HP,J2,nM,nS,nK,Nx,Kk,Gz,Ft,EJ,gR,co,↓syP,syA,syD,simprocAttr,syE,ag,af,ae,syW,xQ,ft,b9,lD k v0_0_0 v0_0_1 v0_0_2 v0_0_3 v0_1 v0_2 v0_3 v0_4]
def fb (v0:Tys):Option Bool:=
 some (decide (0<(↑v0.2.1.length:Int)))
theorem pq (k:Nat) (v0_0:Int) (v0_1:List Int) (v0_2_0 v0_2_1 v0_2_2 v0_2_3 v0_2_4 v0_2_5 v0_2_6:Int):xC (k+1) none 67 [.agg [.lit (.int .i64 v0_0),.ro (List.map (aF .i64) v0_1),.lit (.int .i64 v0_2_0),.lit (.int .i64 v0_2_1),.lit (.int .i64 v0_2_2),.lit (.int .u64 v0_2_3),.lit (.int .u64 v0_2_4),.lit (.int .u64 v0_2_5),.lit (.int .i64 v0_2_6)]]=ob (fb (v0_0,v0_1,(v0_2_0,v0_2_1,v0_2_2,v0_2_3,v0_2_4,v0_2_5,v0_2_6))) fun r=>some ((.lit (.bool r)),[]):=by
 rw [aH]
 unfold fb
 simp -implicitDefEqProofs only [adm,abb,↓syP,syA,syD,simprocAttr,syE,ag,af,ae,syW,xQ]
def av (k:Nat) (v0:(List Tys))  : Nat→Int→Option Int
 | 0,_=>none
 | n+1,s56=>
 bif decide (s56<(↑v0.length:Int)) then
 ob (idx v0 s56) fun xa=>
 ob (fb (xa.1,xa.2.1,xa.2.2.1,xa.2.2.2.1,xa.2.2.2.2.1,xa.2.2.2.2.2.1,xa.2.2.2.2.2.2.1,xa.2.2.2.2.2.2.2.1,xa.2.2.2.2.2.2.2.2)) fun x62=>
 bif x62 then
 some (s56)
 else
 av k v0  n (IntKind.i64.wrap (s56+(1:Int)))
 else
 some ((-1:Int))
theorem dh (k:Nat) (v0:List Tys):∀ (n:Nat) (s56:Int) ⦃j55:V⦄,rt none (itX (xX (xS (k+8)) 96 0 (k+8) false) uw (0) (ap (xX (xS (k+8)) 96 0 (k+8) false) (am (xS (k+8)).P Tryz.f96) r4) n ⟨[.ro (List.map cf v0),.fn (Fn.func (67:FuncId)) [] [],uu,uu,.lit (.int .i64 (0:Int)),j55,.ro (List.map cf v0),.lit (.int .i64 (↑v0.length:Int)),.lit (.int .i64 s56),.junk,.junk,.junk,.junk,.junk,.junk,.junk,.junk,.junk,.junk],[]⟩)=ob (av k v0  n s56) fun r=>some ((.lit (.int .i64 r)),[]):=by
 intro n
 induction n with
 | zero=>intros;rfl
 | succ n ih=>
  intro s56 j55
  rw [av]
  simp -implicitDefEqProofs only [Gz,Ft,EJ,gR,co,↓syP,syA,syD,simprocAttr,syE,ag,af,ae,syW,xQ,pq,Ec,ih]
def aX (k:Nat) (v0:(List Tys)):Option Int:=
 av k v0 (k+8) 0
theorem dW (k:Nat) (v0:List Tys):xC (k+9) none 96 [.ro (List.map cf v0),.fn (Fn.func (67:FuncId)) [] []]=ob (aX k v0) fun r=>some ((.lit (.int .i64 r)),[]):=by
 rw [aH]
 unfold aX
 simp -implicitDefEqProofs only [Gz,Ft,EJ,gR,co,↓syP,syA,syD,simprocAttr,syE,ag,af,ae,syW,xQ,dh k v0]
def aK (k:Nat) (v0:(List Tys)):Option Bool:=
 ob (aX (k+8) v0) fun x64=>
 some (decide (0≤x64))
theorem dA (k:Nat) (v0:List Tys):xC (k+18) none 52 [.ro (List.map cf v0),.fn (Fn.func (67:FuncId)) [] []]=ob (aK k v0) fun r=>some ((.lit (.bool r)),[]):=by
 rw [aH]
 unfold aK
 simp -implicitDefEqProofs only [Nx,Kk,Gz,Ft,EJ,gR,co,↓syP,syA,syD,simprocAttr,syE,ag,af,ae,syW,xQ,dW]
def eb (k:Nat) (v0:Typ):Option Bool:=
 ob (dm k v0) fun x69=>
 bif x69 then
 ob (aD v0.2.2.1 0) fun xl=>
 bif xl==0 then
 ob (aK (k+18) v0.2.2.2.2) fun xm=>
 some (!xm)
 else
 some false
 else
 some false
theorem wA (k:Nat) (v0_0_0 v0_0_1 v0_0_2 v0_0_3:Int) (v0_1:Tyt) (v0_2:List Int) (v0_3:List Tyw) (v0_4:List Tys):xC (k+37) none 29 [.agg [.lit (.int .i64 v0_0_0),.lit (.int .i64 v0_0_1),.lit (.int .i64 v0_0_2),.lit (.int .i64 v0_0_3),.ro (List.map an v0_1),.ro (List.map (aF .u64) v0_2),.ro (List.map aU v0_3),.ro (List.map cf v0_4)]]=ob (eb k ((v0_0_0,v0_0_1,v0_0_2,v0_0_3),v0_1,v0_2,v0_3,v0_4)) fun r=>some ((.lit (.bool r)),[]):=by
 rw [aH]
 unfold eb
 simp -implicitDefEqProofs only [adW,adv,N7,O5,uM,Nx,Kk,adm,abb,Gz,Ft,EJ,gR,co,↓syP,syA,syD,simprocAttr,syE,ag,af,ae,syW,xQ,bO,mO,dA]
end Go.Ab
set_option maxRecDepth 100000
set_option maxHeartbeats 4000000
set_option linter.unusedVariables false
set_option linter.unusedSimpArgs false
namespace Go.Ab
open Go.Proofs
def awS:Nat→Typ
 | 0=>((1,1,1,0),[],List.replicate 12 0,[(0,[],(1,0,0,0,0,0,0),0,0)],[])
 | n+1=>match lK 0 (awS n) (0,0,0) with | some r=>r.1 | none=>((0,0,0,0),[],[],[],[])
def awR:=match kY 0 (awS 20) [(0,0,0),(2,0,0)] with | some r=>r.1 | none=>awS 0
abbrev awC (x:Typ):List V:=
 [.lit (.int .i64 x.1.1),.lit (.int .i64 x.1.2.1),.lit (.int .i64 x.1.2.2.1),.lit (.int .i64 x.1.2.2.2),.ro (List.map an x.2.1),.ro (List.map (aF .u64) x.2.2.1),.ro (List.map aU x.2.2.2.1),.ro (List.map cf x.2.2.2.2)]
section
variable (j:Nat)
theorem ad4:xC (j+79) none 23 [.agg [.lit (.int .i64 1),.lit (.int .i64 1),.lit (.int .i64 1),.lit (.int .i64 0)],.nil,.nil]=some (.tup [.agg (awC (awS 0)),.lit (.bool true)],[]):=by kernel_rfl
theorem ad2:xC (j+79) none 26 [.agg (awC (awS 0))]=some (.lit (.int .i64 0),[]):=by kernel_rfl
theorem aek:xC (j+79) none 25 [.agg (awC (awS 0))]=some (.lit (.bool false),[]):=by kernel_rfl
theorem aeb:xC (j+79) none 29 [.agg (awC (awS 0))]=some (.lit (.bool false),[]):=by kernel_rfl
theorem aei:xC (j+79) none 20 [.agg (awC (awS 0))]=some (.lit (.bool true),[]):=by kernel_rfl
def awM:List Int:=[0,0,1,0,0,0,0,0,0,0,0,0]
def awW:List Tyw:=[(8,[],(5,3,0,0,0,0,0),0,0)]
theorem Ij:awS 20=((1,1,1,0),[],awM,awW,[]):=by kernel_rfl
theorem T5:awR=((1,1,1,0),[],[0,0,1,1,0,0,0,0,0,0,0,0],awW,[]):=by kernel_rfl
theorem ZR:xC (j+79) none 25 [.agg (awC (awS 20))]=some (.lit (.bool true),[]):=by
 rw [Ij]
 kernel_rfl
theorem acD:xC (j+79) none 29 [.agg (awC (awS 20))]=some (.lit (.bool true),[]):=by
 rw [Ij]
 kernel_rfl
theorem ad8:xC (j+79) none 19 [.agg (awC (awS 20)),.agg (awC (awS 20))]=some (.lit (.bool true),[]):=by
 rw [Ij]
 kernel_rfl
theorem aaE:xC (j+79) none 20 [.agg (awC awR)]=some (.lit (.bool true),[]):=by
 rw [T5]
 kernel_rfl
theorem adV:xC (j+79) none 17 [.agg (awC (awS 20)),.ro (List.map ii [(0,0,0),(2,0,0)])]=some (.tup [.agg (awC awR),.ro []],[]):=(uN (j+16) _ _ _ _ _ _ _ _ _).trans (by kernel_rfl)
theorem aem:∀ i:Nat,i<20→xC (j+79) none 24 [.agg (awC (awS i)),.agg [.lit (.int .i64 0),.lit (.int .i64 0),.lit (.int .u64 0)]]=some (.tup [.agg (awC (awS (i+1))),.ro []],[]):=by
 intro i hi
 refine (DV (j+15) _ _ _ _ _ _ _ _ _ _ _).trans ?_
 iterate 20
  rcases i with _ | i
  ·kernel_rfl
 omega
end
theorem aww {z:Int} (h:0≤z) (h':z≤99):IntKind.i64.wrap z=z:=JV (by omega) (by omega)
theorem Ow (j:Nat):xC (j+80) none 15 []=some (.lit (.bool true),[]):=by
 rw [aH]
 simp -implicitDefEqProofs only [aeu,ac7,adn,OJ,N4,N2,Pe,OP,Oc,O4,O9,On,NY,uk,us,rX,↓syP,syA,syD,simprocAttr,syE,ag,af,ae,syW,xQ,ad4,ad2,aek,aeb,aei,ZR,acD,ad8,aaE,adV,aem,OD,awC,aww,decide_true,decide_false,cond_true,cond_false]
end Go.Ab
