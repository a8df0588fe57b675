import Derived.Test.YtblpbpnilkfjhaaGreatR6GX
import Derived.Test.YtblpbpnilkfjhaaGreatR6BZ
import Derived.Test.YtblpbpnilkfjhaaGreatR6BX
import Derived.Test.YtblpbpnilkfjhaaGreatR6BY
import Derived.Test.YtblpbpnilkfjhaaGreatR6BU
set_option linter.unusedVariables false
set_option linter.unusedSimpArgs false
set_option maxRecDepth 100000
set_option linter.unusedVariables false
set_option linter.unusedSimpArgs false
namespace Go.Ab
open Go.Proofs
def gQ (v0:(Int×Int×Int)) (v1:Int) (v2:Int):Option Bool:=
 bif v0.1==0 then
 ob (cG v0.2.1 v1) fun x4=>
 bif x4 then
 some true
 else
 bif v0.1==1 then
 ob (cG v0.2.1 v2) fun x5=>
 bif x5 then
 some true
 else
 bif v0.1==2 then
 some true
 else
 some (v0.1==3)
 else
 bif v0.1==2 then
 some true
 else
 some (v0.1==3)
 else
 bif v0.1==1 then
 ob (cG v0.2.1 v2) fun x6=>
 bif x6 then
 some true
 else
 bif v0.1==2 then
 some true
 else
 some (v0.1==3)
 else
 bif v0.1==2 then
 some true
 else
 some (v0.1==3)
theorem AY (k:Nat) (v0_0 v0_1 v0_2 v1 v2:Int):xC (k+2) none 42 [.agg [.lit (.int .i64 v0_0),.lit (.int .i64 v0_1),.lit (.int .u64 v0_2)],.lit (.int .i64 v1),.lit (.int .i64 v2)]=ob (gQ (v0_0,v0_1,v0_2) v1 v2) fun r=>some ((.lit (.bool r)),[]):=by
 rw [aH]
 unfold gQ
 simp -implicitDefEqProofs only [ah7,ah0,SF,TF,TT,Tb,Ul,TY,To,T5,Tc,Bo,↓syP,syA,syD,simprocAttr,syE,ah,ag,ae,syW,xQ,ia]
def dk (k:Nat) (v0:Tyt)  : Nat→Tyt→Int→Int→Tyt→Option Tyt
 | 0,_,_,_,_=>none
 | n+1,sD,sO,sB,sL=>
 bif decide (sB<sO) then
 bif decide ((0:Int)≤sB∧sB.toNat<sD.length) then
 ob (sL[sB.toNat]?) fun x39=>
 ob (aO 8 x39.2) fun x40=>
 bif decide ((0:Int)≤sB∧sB.toNat<sD.length) then
 ob (sL[sB.toNat]?) fun xO=>
 dk k v0  n (sD) (sO) (IntKind.i64.wrap (sB+(1:Int))) (sL.set sB.toNat (xO.1,x40))
 else
 none
 else
 none
 else
 ck (decide (sD.length≤sL.length)) (
 some (List.take sD.length sL))
theorem pB (k:Nat) (v0:Tyt):∀ (n:Nat) (sD:Tyt) (sO sB:Int) (sL:Tyt) ⦃j29:V⦄,rt none (itX (xX (xS (k+1)) 58 0 (k+1) false) Ik (2) (aw (xX (xS (k+1)) 58 0 (k+1) false) (av (xS (k+1)).P Tryz.f58) Jy) n ⟨[.ro (List.map ao v0),uu,.own 0 0 0,.own 1 0 sD.length,j29,.ro (List.map ao v0),.own 1 0 sD.length,.own 1 0 sD.length,.lit (.int .i64 sO),.lit (.int .i64 sB),.junk,.junk,.junk,.junk,.junk,.junk,.junk,.junk,.junk,.junk,.junk,.junk,.junk,uu],[.rows 0 [] 0 true,.rows 2 (List.map ao sL) 0 true]⟩)=ob (dk k v0  n sD sO sB sL) fun r=>some ((.ro (List.map ao r)),[]):=by
 intro n
 induction n with
 | zero=>intros;rfl
 | succ n ih=>
  intro sD sO sB sL j29
  rw [dk]
  simp -implicitDefEqProofs only [ahK,aeF,afD,OS,rc,↓syP,syA,syD,simprocAttr,syE,ah,ag,ae,syW,xQ,TC,ih]
def dz (k:Nat) (v0:Tyt):Option Tyt:=
 ob (aO 32 v0) fun xf=>
 dk k v0 (k+1) xf ((↑xf.length:Int)) 0 xf
theorem db (k:Nat) (v0:Tyt):xC (k+2) none 58 [.ro (List.map ao v0)]=ob (dz k v0) fun r=>some ((.ro (List.map ao r)),[]):=by
 rw [aH]
 unfold dz
 simp -implicitDefEqProofs only [ahK,aeF,afD,OS,rc,↓syP,syA,syD,simprocAttr,syE,ah,ag,ae,syW,xQ,pB k v0]
end Go.Ab
set_option maxRecDepth 100000
set_option linter.unusedVariables false
set_option linter.unusedSimpArgs false
namespace Go.Ab
open Go.Proofs
def cp (k:Nat)   : Nat→List Int→Int→Tyt→Int→Option Int
 | 0,_,_,_,_=>none
 | n+1,sv,sz,sa,sG=>
 bif decide (sG<sz) then
 ob (idx sv sG) fun xk=>
 bif decide (xk<(0:Int)) then
 some (sG)
 else
 bif decide ((↑sa.length:Int)≤xk) then
 some (sG)
 else
 cp k   n (sv) (sz) (sa) (IntKind.i64.wrap (sG+(1:Int)))
 else
 some ((-1:Int))
theorem oO (k:Nat)  : ∀ (n:Nat) (sv:List Int) (sz:Int) (sa:Tyt) (sG:Int) ⦃s22 sD sO s25:Int⦄ ⦃sq:List Int⦄ ⦃sr:List Tyw⦄ ⦃ss:List Tys⦄ ⦃sB sL sW s33 sb sc sR sP:Int⦄ ⦃j39:V⦄,itX (xX (xS (k+29)) 97 0 (k+29) false) IX (4) (aw (xX (xS (k+29)) 97 0 (k+29) false) (av (xS (k+29)).P Tryz.f97) HZ) n ⟨[.ro (List.map (aG IntKind.i64) sv),.fn (Fn.func (54:FuncId)) [] [.ptr 0 0 0 0],uu,uu,.lit (.int .i64 (0:Int)),j39,.ro (List.map (aG IntKind.i64) sv),.lit (.int .i64 sz),.lit (.int .i64 sG),.junk,.junk,.junk,.junk,.junk,.junk,.junk,.junk,.junk,.junk],[.box [.lit (.int .i64 s22),.lit (.int .i64 sD),.lit (.int .i64 sO),.lit (.int .i64 s25),.ro (List.map ao sa),.ro (List.map (aG IntKind.u64) sq),.ro (List.map aM sr),.ro (List.map bD ss)],.box [.lit (.bool false)],.box [.lit (.int .i64 s22),.lit (.int .i64 sD),.lit (.int .i64 sO),.lit (.int .i64 s25),.ro (List.map ao sa),.ro (List.map (aG IntKind.u64) sq),.ro (List.map aM sr),.ro (List.map bD ss)],.box [.lit (.int .i64 sB),.ro (List.map (aG IntKind.i64) sv),.lit (.int .i64 sL),.lit (.int .i64 sW),.lit (.int .i64 s33),.lit (.int .u64 sb),.lit (.int .u64 sc),.lit (.int .u64 sR),.lit (.int .i64 sP)]]⟩=ob (cp k   n sv sz sa sG) fun r=>some ((.lit (.int .i64 r),[.box [.lit (.int .i64 s22),.lit (.int .i64 sD),.lit (.int .i64 sO),.lit (.int .i64 s25),.ro (List.map ao sa),.ro (List.map (aG IntKind.u64) sq),.ro (List.map aM sr),.ro (List.map bD ss)],.box [.lit (.bool false)],.box [.lit (.int .i64 s22),.lit (.int .i64 sD),.lit (.int .i64 sO),.lit (.int .i64 s25),.ro (List.map ao sa),.ro (List.map (aG IntKind.u64) sq),.ro (List.map aM sr),.ro (List.map bD ss)],.box [.lit (.int .i64 sB),.ro (List.map (aG IntKind.i64) sv),.lit (.int .i64 sL),.lit (.int .i64 sW),.lit (.int .i64 s33),.lit (.int .u64 sb),.lit (.int .u64 sc),.lit (.int .u64 sR),.lit (.int .i64 sP)]])):=by
 intro n
 induction n with
 | zero=>intros;rfl
 | succ n ih=>
  intro sv sz sa sG s22 sD sO s25 sq sr ss sB sL sW s33 sb sc sR sP j39
  rw [cp]
  simp -implicitDefEqProofs only [adc,aaf,ZN,Ei,EM,ED,eA,eB,l8,lB,pO,ada,Yy,aH (g:=51),P5,OT,ac2,acB,FU,FF,FW,EK,ES,FB,Ec,Fu,lN,ac3,ZM,FK,lL,adj,abO,adi,abW,aa2,F0,EU,lE,mg,J2,Iu,Jw,li,cL,adg,abZ,ab6,Gb,lG,↓syP,syA,syD,simprocAttr,syE,ah,ag,ae,syW,xQ,Ui,ih]
def bP (k:Nat)   : Nat→List Tys→Int→Tyt→Int→Option Int
 | 0,_,_,_,_=>none
 | n+1,s9,sS,sE,sH=>
 bif decide (sH<sS) then
 ob (idx s9 sH) fun xc=>
 bif decide (xc.1<(0:Int)) then
 some (sH)
 else
 bif decide ((6:Int)≤xc.1) then
 some (sH)
 else
 ob (cp k (k+29) xc.2.1 (↑xc.2.1.length:Int) sE (0:Int)) fun x60=>
 bif decide ((0:Int)≤x60) then
 some (sH)
 else
 bif xc.1 !=(0:Int) then
 bif (↑xc.2.1.length:Int)==(0:Int) then
 some (sH)
 else
 bP k   n (s9) (sS) (sE) (IntKind.i64.wrap (sH+(1:Int)))
 else
 bP k   n (s9) (sS) (sE) (IntKind.i64.wrap (sH+(1:Int)))
 else
 some ((-1:Int))
theorem oP (k:Nat)  : ∀ (n:Nat) (s9:List Tys) (sS:Int) (sE:Tyt) (sH:Int) ⦃s11 sX sT st:Int⦄ ⦃si:List Int⦄ ⦃sC:List Tyw⦄ ⦃j49:V⦄,itX (xX (xS (k+32)) 96 0 (k+32) false) Cc (3) (aw (xX (xS (k+32)) 96 0 (k+32) false) (av (xS (k+32)).P Tryz.f96) BQ) n ⟨[.ro (List.map bD s9),.fn (Fn.func (53:FuncId)) [] [.ptr 0 0 0 0],uu,uu,.lit (.int .i64 (0:Int)),j49,.ro (List.map bD s9),.lit (.int .i64 sS),.lit (.int .i64 sH),.junk,.junk,.junk,.junk,.junk,.junk,.junk,.junk,.junk,.junk],[.box [.lit (.int .i64 s11),.lit (.int .i64 sX),.lit (.int .i64 sT),.lit (.int .i64 st),.ro (List.map ao sE),.ro (List.map (aG IntKind.u64) si),.ro (List.map aM sC),.ro (List.map bD s9)],.box [.lit (.bool false)],.box [.lit (.int .i64 s11),.lit (.int .i64 sX),.lit (.int .i64 sT),.lit (.int .i64 st),.ro (List.map ao sE),.ro (List.map (aG IntKind.u64) si),.ro (List.map aM sC),.ro (List.map bD s9)]]⟩=ob (bP k   n s9 sS sE sH) fun r=>some ((.lit (.int .i64 r),[.box [.lit (.int .i64 s11),.lit (.int .i64 sX),.lit (.int .i64 sT),.lit (.int .i64 st),.ro (List.map ao sE),.ro (List.map (aG IntKind.u64) si),.ro (List.map aM sC),.ro (List.map bD s9)],.box [.lit (.bool false)],.box [.lit (.int .i64 s11),.lit (.int .i64 sX),.lit (.int .i64 sT),.lit (.int .i64 st),.ro (List.map ao sE),.ro (List.map (aG IntKind.u64) si),.ro (List.map aM sC),.ro (List.map bD s9)]])):=by
 intro n
 induction n with
 | zero=>intros;rfl
 | succ n ih=>
  intro s9 sS sE sH s11 sX sT st si sC j49
  rw [bP]
  simp -implicitDefEqProofs only [adc,aaf,ZN,Ei,EM,ED,eA,eB,l8,lB,pO,ada,Yy,aH (g:=51),P5,OT,ac2,acB,FU,FF,FW,EK,ES,FB,Ec,Fu,lN,ac3,ZM,FK,lL,adj,abO,adi,abW,aa2,F0,EU,lE,mg,J2,Iu,Jw,li,cL,adg,abZ,ab6,Gb,lG,↓syP,syA,syD,simprocAttr,syE,ah,ag,ae,syW,xQ,oO,Iq,ih]
def eh (k:Nat) (v0:Typ)  : Nat→Int→Option Bool
 | 0,_=>none
 | n+1,s67=>
 bif decide (s67<(↑v0.2.2.2.1.length:Int)) then
 ob (idx v0.2.2.2.1 s67) fun xP=>
 ob (iT (k+9) (v0.1.1,v0.1.2.1,v0.1.2.2.1,v0.1.2.2.2) v0.2.1 v0.2.2.1 s67 (xP.1,xP.2.1,(xP.2.2.1.1,xP.2.2.1.2.1,xP.2.2.1.2.2.1,xP.2.2.1.2.2.2.1,xP.2.2.1.2.2.2.2.1,xP.2.2.1.2.2.2.2.2.1,xP.2.2.1.2.2.2.2.2.2),xP.2.2.2.1,xP.2.2.2.2)) fun xd=>
 bif !xd then
 some (false)
 else
 eh k v0  n (IntKind.i64.wrap (s67+(1:Int)))
 else
 ob (bP k (k+32) v0.2.2.2.2 (↑v0.2.2.2.2.length:Int) v0.2.1 (0:Int)) fun xg=>
 some (!decide ((0:Int)≤xg))
theorem uK (k:Nat) (v0_0_0 v0_0_1 v0_0_2 v0_0_3:Int) (v0_1:Tyt) (v0_2:List Int) (v0_3:List Tyw) (v0_4:List Tys):∀ (n:Nat) (s67:Int) ⦃s3 s4:Bool⦄ ⦃j65 j66:V⦄,rt none (bq (itX (xX (xS (k+33)) 94 0 (k+33) false) ul (4) (aw (xX (xS (k+33)) 94 0 (k+33) false) (av (xS (k+33)).P Tryz.f94) Js) n ⟨[.yld 3,.ptr 2 0 0 0,uu,j65,j66,.ptr 2 0 0 6,.ro (List.map aM v0_3),.lit (.int .i64 (↑v0_3.length:Int)),.lit (.int .i64 s67),.junk,.junk,.junk,.junk,.junk,.junk,.junk,.junk,.junk,.junk,.junk,.junk,.junk,.junk,.junk,.junk,.junk,.junk,.junk,.junk,.junk],[.box [.lit (.int .i64 v0_0_0),.lit (.int .i64 v0_0_1),.lit (.int .i64 v0_0_2),.lit (.int .i64 v0_0_3),.ro (List.map ao v0_1),.ro (List.map (aG IntKind.u64) v0_2),.ro (List.map aM v0_3),.ro (List.map bD v0_4)],.box [.lit (.bool false)],.box [.lit (.int .i64 v0_0_0),.lit (.int .i64 v0_0_1),.lit (.int .i64 v0_0_2),.lit (.int .i64 v0_0_3),.ro (List.map ao v0_1),.ro (List.map (aG IntKind.u64) v0_2),.ro (List.map aM v0_3),.ro (List.map bD v0_4)],(.loop ⟨LoopState.ready,none,20,[.agg [.lit (.int .i64 v0_0_0),.lit (.int .i64 v0_0_1),.lit (.int .i64 v0_0_2),.lit (.int .i64 v0_0_3),.ro (List.map ao v0_1),.ro (List.map (aG IntKind.u64) v0_2),.ro (List.map aM v0_3),.ro (List.map bD v0_4)],.ptr 0 0 0 0,.ptr 1 0 0 0,.ptr 0 0 0 0,.agg [.lit (.int .i64 v0_0_0),.lit (.int .i64 v0_0_1),.lit (.int .i64 v0_0_2),.lit (.int .i64 v0_0_3)],.lit (.bool s3),.lit (.bool s4),.lit (.bool false),.ptr 0 0 0 6,.ro (List.map aM v0_3),.lit (.int .i64 (↑v0_3.length:Int)),.ptr 0 0 0 0,.ptr 0 0 0 0,.lit (.int .i64 v0_0_0),.lit (.bool ((↑v0_3.length:Int)!=v0_0_0)),.lit (.bool ((↑v0_3.length:Int)!=v0_0_0)),.lit (.bool false),.ptr 0 0 0 7,.ro (List.map bD v0_4),.lit (.int .i64 (↑v0_4.length:Int)),.lit (.bool (decide ((3:Int)<(↑v0_4.length:Int)))),.lit (.bool (decide ((3:Int)<(↑v0_4.length:Int)))),.agg [.lit (.int .i64 v0_0_0),.lit (.int .i64 v0_0_1),.lit (.int .i64 v0_0_2),.lit (.int .i64 v0_0_3),.ro (List.map ao v0_1),.ro (List.map (aG IntKind.u64) v0_2),.ro (List.map aM v0_3),.ro (List.map bD v0_4)],.fn (Fn.func (94:FuncId)) [] [.ptr 2 0 0 0],uu,uu,uu,uu,uu,uu],[(24:Tmp)],MN,NM⟩)]⟩) (rfK (aw (xX (xS (k+34)) 20 0 (k+34) false) (av (xS (k+34)).P Tryz.f20) Jf) [.agg [.lit (.int .i64 v0_0_0),.lit (.int .i64 v0_0_1),.lit (.int .i64 v0_0_2),.lit (.int .i64 v0_0_3),.ro (List.map ao v0_1),.ro (List.map (aG IntKind.u64) v0_2),.ro (List.map aM v0_3),.ro (List.map bD v0_4)],.ptr 0 0 0 0,.ptr 1 0 0 0,.ptr 0 0 0 0,.agg [.lit (.int .i64 v0_0_0),.lit (.int .i64 v0_0_1),.lit (.int .i64 v0_0_2),.lit (.int .i64 v0_0_3)],.lit (.bool s3),.lit (.bool s4),.lit (.bool false),.ptr 0 0 0 6,.ro (List.map aM v0_3),.lit (.int .i64 (↑v0_3.length:Int)),.ptr 0 0 0 0,.ptr 0 0 0 0,.lit (.int .i64 v0_0_0),.lit (.bool ((↑v0_3.length:Int)!=v0_0_0)),.lit (.bool ((↑v0_3.length:Int)!=v0_0_0)),.lit (.bool false),.ptr 0 0 0 7,.ro (List.map bD v0_4),.lit (.int .i64 (↑v0_4.length:Int)),.lit (.bool (decide ((3:Int)<(↑v0_4.length:Int)))),.lit (.bool (decide ((3:Int)<(↑v0_4.length:Int)))),.agg [.lit (.int .i64 v0_0_0),.lit (.int .i64 v0_0_1),.lit (.int .i64 v0_0_2),.lit (.int .i64 v0_0_3),.ro (List.map ao v0_1),.ro (List.map (aG IntKind.u64) v0_2),.ro (List.map aM v0_3),.ro (List.map bD v0_4)],.fn (Fn.func (94:FuncId)) [] [.ptr 2 0 0 0],uu,uu,uu,uu,uu,uu] (3)))=ob (eh k ((v0_0_0,v0_0_1,v0_0_2,v0_0_3),v0_1,v0_2,v0_3,v0_4)  n s67) fun r=>some ((.lit (.bool r)),[]):=by
 intro n
 induction n with
 | zero=>intros;rfl
 | succ n ih=>
  intro s67 s3 s4 j65 j66
  rw [eh]
  simp -implicitDefEqProofs only [adc,aaf,ZN,Ei,EM,ED,eA,eB,l8,lB,pO,ada,Yy,aH (g:=51),P5,OT,ac2,acB,FU,FF,FW,EK,ES,FB,Ec,Fu,lN,ac3,ZM,FK,lL,adj,abO,adi,abW,aa2,F0,EU,lE,mg,J2,Iu,Jw,li,cL,adg,abZ,ab6,Gb,lG,↓syP,syA,syD,simprocAttr,syE,ah,ag,ae,syW,xQ,bT,BP,oP,Ue,ih]
def du (k:Nat) (v0:Typ):Option Bool:=
 ob (bU v0.1) fun xV=>
 bif !xV then
 some false
 else
 bif (↑v0.2.2.2.1.length:Int)!=v0.1.1 then
 some false
 else
 bif decide (3<(↑v0.2.2.2.2.length:Int)) then
 some false
 else
 eh k v0 (k+33) 0
theorem cy (k:Nat) (v0_0_0 v0_0_1 v0_0_2 v0_0_3:Int) (v0_1:Tyt) (v0_2:List Int) (v0_3:List Tyw) (v0_4:List Tys):xC (k+35) none 20 [.agg [.lit (.int .i64 v0_0_0),.lit (.int .i64 v0_0_1),.lit (.int .i64 v0_0_2),.lit (.int .i64 v0_0_3),.ro (List.map ao v0_1),.ro (List.map (aG .u64) v0_2),.ro (List.map aM v0_3),.ro (List.map bD v0_4)]]=ob (du k ((v0_0_0,v0_0_1,v0_0_2,v0_0_3),v0_1,v0_2,v0_3,v0_4)) fun r=>some ((.lit (.bool r)),[]):=by
 rw [aH]
 unfold du
 simp -implicitDefEqProofs only [adc,aaf,ZN,Ei,EM,ED,eA,eB,l8,lB,pO,ada,Yy,aH (g:=51),P5,OT,ac2,acB,FU,FF,FW,EK,ES,FB,Ec,Fu,lN,ac3,ZM,FK,lL,adj,abO,adi,abW,aa2,F0,EU,lE,mg,J2,Iu,Jw,li,cL,adg,abZ,ab6,Gb,lG,↓syP,syA,syD,simprocAttr,syE,ah,ag,ae,syW,xQ,bT,uK k v0_0_0 v0_0_1 v0_0_2 v0_0_3 v0_1 v0_2 v0_3 v0_4]
end Go.Ab
set_option maxRecDepth 100000
set_option linter.unusedVariables false
set_option linter.unusedSimpArgs false
namespace Go.Ab
open Go.Proofs
def cQ (k:Nat)   : Nat→Int→Int→Int→Int→Tyt→List Int→List Tyw→List Tys→Int→List Tyw→Int→List Tys→Option (Int×Int×Int×Int×Tyt×List Int×List Tyw×List Tys×List Tyw×List Tys)
 | 0,_,_,_,_,_,_,_,_,_,_,_,_=>none
 | n+1,sa,sq,sr,ss,sb,sc,sR,sP,sU,s47,su,sH=>
 bif decide (su<sU) then
 bif decide ((0:Int)≤su∧su.toNat<sP.length) then
 ob (sH[su.toNat]?) fun xd=>
 ob (aO 8 xd.2.1) fun xg=>
 bif decide ((0:Int)≤su∧su.toNat<sP.length) then
 ob (sH[su.toNat]?) fun xV=>
 cQ k   n (sa) (sq) (sr) (ss) (sb) (sc) (sR) (sP) (sU) (s47) (IntKind.i64.wrap (su+(1:Int))) (sH.set su.toNat (xV.1,xg,xV.2.2.1,xV.2.2.2.1,xV.2.2.2.2.1,xV.2.2.2.2.2.1,xV.2.2.2.2.2.2.1,xV.2.2.2.2.2.2.2.1,xV.2.2.2.2.2.2.2.2))
 else
 none
 else
 none
 else
 some (sa,sq,sr,ss,sb,sc,sR,sP,s47,sH)
theorem oq (k:Nat)  : ∀ (n:Nat) (sa sq sr ss:Int) (sb:Tyt) (sc:List Int) (sR:List Tyw) (sP:List Tys) (sU:Int) (s47:List Tyw) (su:Int) (sH:List Tys) ⦃sB:Tyt⦄ ⦃sL:List Int⦄ ⦃sW:List Tyw⦄ ⦃s33:List Tys⦄ ⦃sk:Int⦄ ⦃j46 j48:V⦄,itX (xX (xS (k+61)) 41 0 (k+61) false) Jq (8) (aw (xX (xS (k+61)) 41 0 (k+61) false) (av (xS (k+61)).P Tryz.f41) Ix) n ⟨[.agg [.lit (.int .i64 sa),.lit (.int .i64 sq),.lit (.int .i64 sr),.lit (.int .i64 ss),.ro (List.map ao sB),.ro (List.map (aG IntKind.u64) sL),.ro (List.map aM sW),.ro (List.map bD s33)],.ptr 0 0 0 0,.ptr 5 0 0 0,j46,j48,.ptr 0 0 0 4,.ro (List.map ao sB),.ro (List.map ao sb),.ptr 0 0 0 5,.ro (List.map (aG IntKind.u64) sL),.ro (List.map (aG IntKind.u64) sc),.ptr 0 0 0 4,.ptr 0 0 0 5,.ptr 0 0 0 6,.ro (List.map aM sW),.own 6 0 sR.length,.ptr 0 0 0 7,.ro (List.map bD s33),.own 7 0 sP.length,.ptr 0 0 0 6,.ptr 0 0 0 7,.ptr 0 0 0 6,.own 6 0 sR.length,.lit (.int .i64 sk),.junk,.junk,.junk,.junk,.junk,.junk,.junk,.junk,.junk,.junk,.junk,.junk,.junk,.junk,.junk,.junk,.ptr 0 0 0 7,.own 7 0 sP.length,.lit (.int .i64 sU),.lit (.int .i64 su),.junk,.junk,.junk,.junk,.junk,.junk,.junk,.junk,.junk,.junk,.junk,.junk,.junk,.junk,.junk,uu],[.box [.lit (.int .i64 sa),.lit (.int .i64 sq),.lit (.int .i64 sr),.lit (.int .i64 ss),.ro (List.map ao sb),.ro (List.map (aG IntKind.u64) sc),.own 6 0 sR.length,.own 7 0 sP.length],.rows 0 [] 0 true,.rows 0 [] 0 true,.rows 0 [] 0 true,.rows 0 [] 0 true,.box [.lit (.int .i64 (0:Int)),.lit (.int .i64 (0:Int)),.lit (.int .i64 (0:Int)),.lit (.int .i64 (0:Int)),.own 1 0 0,.own 2 0 0,.own 3 0 0,.own 4 0 0],.rows 11 (List.map aM s47) 0 true,.rows 9 (List.map bD sH) 0 true]⟩=ob (cQ k   n sa sq sr ss sb sc sR sP sU s47 su sH) fun r=>some ((.agg [.lit (.int .i64 r.1),.lit (.int .i64 r.2.1),.lit (.int .i64 r.2.2.1),.lit (.int .i64 r.2.2.2.1),.ro (List.map ao r.2.2.2.2.1),.ro (List.map (aG IntKind.u64) r.2.2.2.2.2.1),.own 6 0 r.2.2.2.2.2.2.1.length,.own 7 0 r.2.2.2.2.2.2.2.1.length],[.box [.lit (.int .i64 r.1),.lit (.int .i64 r.2.1),.lit (.int .i64 r.2.2.1),.lit (.int .i64 r.2.2.2.1),.ro (List.map ao r.2.2.2.2.1),.ro (List.map (aG IntKind.u64) r.2.2.2.2.2.1),.own 6 0 r.2.2.2.2.2.2.1.length,.own 7 0 r.2.2.2.2.2.2.2.1.length],.rows 0 [] 0 true,.rows 0 [] 0 true,.rows 0 [] 0 true,.rows 0 [] 0 true,.box [.lit (.int .i64 r.1),.lit (.int .i64 r.2.1),.lit (.int .i64 r.2.2.1),.lit (.int .i64 r.2.2.2.1),.ro (List.map ao r.2.2.2.2.1),.ro (List.map (aG IntKind.u64) r.2.2.2.2.2.1),.own 6 0 r.2.2.2.2.2.2.1.length,.own 7 0 r.2.2.2.2.2.2.2.1.length],.rows 11 (List.map aM r.2.2.2.2.2.2.2.2.1) 0 true,.rows 9 (List.map bD r.2.2.2.2.2.2.2.2.2) 0 true])):=by
 intro n
 induction n with
 | zero=>intros;rfl
 | succ n ih=>
  intro sa sq sr ss sb sc sR sP sU s47 su sH sB sL sW s33 sk j46 j48
  rw [cQ]
  simp -implicitDefEqProofs only [S3,Rp,PS,pm,fC,TR,Ph,PF,pN,pp,fh,fw,aH (g:=41),S4,RO,pi,fe,Tn,RR,Tk,Pz,T3,QB,↓syP,syA,syD,simprocAttr,syE,ah,ag,ae,syW,xQ,SA,ih]
def bO (k:Nat)   : Nat→Int→Int→Int→Int→Tyt→List Int→List Tyw→List Tys→Int→Int→List Tyw→Option (Int×Int×Int×Int×Tyt×List Int×List Tyw×List Tys×List Tyw×List Tys)
 | 0,_,_,_,_,_,_,_,_,_,_,_=>none
 | n+1,s6,s7,s8,s9,st,sE,si,sC,s18,sD,sO=>
 bif decide (sD<s18) then
 bif decide ((0:Int)≤sD∧sD.toNat<si.length) then
 ob (sO[sD.toNat]?) fun xl=>
 ob (aO 24 xl.2.1) fun xm=>
 bif decide ((0:Int)≤sD∧sD.toNat<si.length) then
 ob (sO[sD.toNat]?) fun xW=>
 bO k   n (s6) (s7) (s8) (s9) (st) (sE) (si) (sC) (s18) (IntKind.i64.wrap (sD+(1:Int))) (sO.set sD.toNat (xW.1,xm,(xW.2.2.1.1,xW.2.2.1.2.1,xW.2.2.1.2.2.1,xW.2.2.1.2.2.2.1,xW.2.2.1.2.2.2.2.1,xW.2.2.1.2.2.2.2.2.1,xW.2.2.1.2.2.2.2.2.2),xW.2.2.2.1,xW.2.2.2.2))
 else
 none
 else
 none
 else
 cQ k  (k+61) (s6) (s7) (s8) (s9) (st) (sE) (si) (sC) ((↑sC.length:Int)) (sO) ((0:Int)) (sC)
theorem cw (k:Nat)  : ∀ (n:Nat) (s6 s7 s8 s9:Int) (st:Tyt) (sE:List Int) (si:List Tyw) (sC:List Tys) (s18 sD:Int) (sO:List Tyw) ⦃sS:Tyt⦄ ⦃s11:List Int⦄ ⦃sX:List Tyw⦄ ⦃sT:List Tys⦄ ⦃j22:V⦄,itX (xX (xS (k+61)) 41 0 (k+61) false) Ju (8) (aw (xX (xS (k+61)) 41 0 (k+61) false) (av (xS (k+61)).P Tryz.f41) I3) n ⟨[.agg [.lit (.int .i64 s6),.lit (.int .i64 s7),.lit (.int .i64 s8),.lit (.int .i64 s9),.ro (List.map ao sS),.ro (List.map (aG IntKind.u64) s11),.ro (List.map aM sX),.ro (List.map bD sT)],.ptr 0 0 0 0,.ptr 5 0 0 0,j22,uu,.ptr 0 0 0 4,.ro (List.map ao sS),.ro (List.map ao st),.ptr 0 0 0 5,.ro (List.map (aG IntKind.u64) s11),.ro (List.map (aG IntKind.u64) sE),.ptr 0 0 0 4,.ptr 0 0 0 5,.ptr 0 0 0 6,.ro (List.map aM sX),.own 6 0 si.length,.ptr 0 0 0 7,.ro (List.map bD sT),.own 7 0 sC.length,.ptr 0 0 0 6,.ptr 0 0 0 7,.ptr 0 0 0 6,.own 6 0 si.length,.lit (.int .i64 s18),.lit (.int .i64 sD),.junk,.junk,.junk,.junk,.junk,.junk,.junk,.junk,.junk,.junk,.junk,.junk,.junk,.junk,.junk,uu,uu,uu,uu,uu,uu,uu,uu,uu,uu,uu,uu,uu,uu,uu,uu,uu,uu,uu,uu],[.box [.lit (.int .i64 s6),.lit (.int .i64 s7),.lit (.int .i64 s8),.lit (.int .i64 s9),.ro (List.map ao st),.ro (List.map (aG IntKind.u64) sE),.own 6 0 si.length,.own 7 0 sC.length],.rows 0 [] 0 true,.rows 0 [] 0 true,.rows 0 [] 0 true,.rows 0 [] 0 true,.box [.lit (.int .i64 (0:Int)),.lit (.int .i64 (0:Int)),.lit (.int .i64 (0:Int)),.lit (.int .i64 (0:Int)),.own 1 0 0,.own 2 0 0,.own 3 0 0,.own 4 0 0],.rows 11 (List.map aM sO) 0 true,.rows 9 (List.map bD sC) 0 true]⟩=ob (bO k   n s6 s7 s8 s9 st sE si sC s18 sD sO) fun r=>some ((.agg [.lit (.int .i64 r.1),.lit (.int .i64 r.2.1),.lit (.int .i64 r.2.2.1),.lit (.int .i64 r.2.2.2.1),.ro (List.map ao r.2.2.2.2.1),.ro (List.map (aG IntKind.u64) r.2.2.2.2.2.1),.own 6 0 r.2.2.2.2.2.2.1.length,.own 7 0 r.2.2.2.2.2.2.2.1.length],[.box [.lit (.int .i64 r.1),.lit (.int .i64 r.2.1),.lit (.int .i64 r.2.2.1),.lit (.int .i64 r.2.2.2.1),.ro (List.map ao r.2.2.2.2.1),.ro (List.map (aG IntKind.u64) r.2.2.2.2.2.1),.own 6 0 r.2.2.2.2.2.2.1.length,.own 7 0 r.2.2.2.2.2.2.2.1.length],.rows 0 [] 0 true,.rows 0 [] 0 true,.rows 0 [] 0 true,.rows 0 [] 0 true,.box [.lit (.int .i64 r.1),.lit (.int .i64 r.2.1),.lit (.int .i64 r.2.2.1),.lit (.int .i64 r.2.2.2.1),.ro (List.map ao r.2.2.2.2.1),.ro (List.map (aG IntKind.u64) r.2.2.2.2.2.1),.own 6 0 r.2.2.2.2.2.2.1.length,.own 7 0 r.2.2.2.2.2.2.2.1.length],.rows 11 (List.map aM r.2.2.2.2.2.2.2.2.1) 0 true,.rows 9 (List.map bD r.2.2.2.2.2.2.2.2.2) 0 true])):=by
 intro n
 induction n with
 | zero=>intros;rfl
 | succ n ih=>
  intro s6 s7 s8 s9 st sE si sC s18 sD sO sS s11 sX sT j22
  rw [bO]
  simp -implicitDefEqProofs only [S3,Rp,PS,pm,fC,TR,Ph,PF,pN,pp,fh,fw,aH (g:=41),S4,RO,pi,fe,Tn,RR,Tk,Pz,T3,QB,↓syP,syA,syD,simprocAttr,syE,ah,ag,ae,syW,xQ,Uh,ih,oq k ]
def bC (k:Nat) (v0:Typ) (v1:Tye)  : Nat→Int→Int→Int→Int→Tyt→List Tyw→List Tys→List Tyw→List Tys→Tye→Int→List Int→Nat→Option (Typ×Tye)
 | 0,_,_,_,_,_,_,_,_,_,_,_,_,_=>none
 | n+1,sI,sJ,sM,sN,sl,sm,sj,so,sY,sA,se,sf,sQ=>
 bif decide (se<(↑v1.length:Int)) then
 ob (idx v1 se) fun xD=>
 ob (gQ (xD.1,xD.2.1,xD.2.2) v0.1.1 (↑v0.2.2.2.2.length:Int)) fun xr=>
 bif xr then
 bif xD.1==(0:Int) then
 bif decide ((0:Int)≤xD.2.1∧xD.2.1.toNat<sm.length) then
 ob (so[xD.2.1.toNat]?) fun xL=>
 ob (gW k (sI,sJ,sM,sN) sl sf xD.2.1 (xL.1,xL.2.1,(xL.2.2.1.1,xL.2.2.1.2.1,xL.2.2.1.2.2.1,xL.2.2.1.2.2.2.1,xL.2.2.1.2.2.2.2.1,xL.2.2.1.2.2.2.2.2.1,xL.2.2.1.2.2.2.2.2.2),xL.2.2.2.1,xL.2.2.2.2) xD.2.2) fun xI=>
 bif decide ((0:Int)≤xD.2.1∧xD.2.1.toNat<sm.length) then
 ob (so[xD.2.1.toNat]?) fun xE=>
 ck (sQ==3||sQ==0) (
 bif room (sA++xI.2.2).length 24 then
 bC k v0 v1  n (sI) (sJ) (sM) (sN) (sl) (sm) (sj) (so.set xD.2.1.toNat (xI.2.1.1,xI.2.1.2.1,(xI.2.1.2.2.1.1,xI.2.1.2.2.1.2.1,xI.2.1.2.2.1.2.2.1,xI.2.1.2.2.1.2.2.2.1,xI.2.1.2.2.1.2.2.2.2.1,xI.2.1.2.2.1.2.2.2.2.2.1,xI.2.1.2.2.1.2.2.2.2.2.2),xI.2.1.2.2.2.1,xI.2.1.2.2.2.2)) (sY) (sA++xI.2.2) (IntKind.i64.wrap (se+(1:Int))) (xI.1) (3)
 else
 none)
 else
 none
 else
 none
 else
 bif xD.1==(1:Int) then
 bif decide ((0:Int)≤xD.2.1∧xD.2.1.toNat<sj.length) then
 ob (sY[xD.2.1.toNat]?) fun xT=>
 ob (eT (k+36) (sI,sJ,sM,sN) sl sf (xT.1,xT.2.1,xT.2.2.1,xT.2.2.2.1,xT.2.2.2.2.1,xT.2.2.2.2.2.1,xT.2.2.2.2.2.2.1,xT.2.2.2.2.2.2.2.1,xT.2.2.2.2.2.2.2.2)) fun xe=>
 bif xe then
 bif decide ((0:Int)≤xD.2.1∧xD.2.1.toNat<sj.length) then
 ob (sY[xD.2.1.toNat]?) fun xU=>
 ob (fA (k+20) (sI,sJ,sM,sN) sl sf xD.2.1 (xU.1,xU.2.1,xU.2.2.1,xU.2.2.2.1,xU.2.2.2.2.1,xU.2.2.2.2.2.1,xU.2.2.2.2.2.2.1,xU.2.2.2.2.2.2.2.1,xU.2.2.2.2.2.2.2.2)) fun xJ=>
 bif decide ((0:Int)≤xD.2.1∧xD.2.1.toNat<sj.length) then
 ob (sY[xD.2.1.toNat]?) fun x158=>
 ck (sQ==3||sQ==0) (
 bif room (sA++xJ.2.2).length 24 then
 bC k v0 v1  n (sI) (sJ) (sM) (sN) (sl) (sm) (sj) (so) (sY.set xD.2.1.toNat (xJ.2.1.1,xJ.2.1.2.1,xJ.2.1.2.2.1,xJ.2.1.2.2.2.1,xJ.2.1.2.2.2.2.1,xJ.2.1.2.2.2.2.2.1,xJ.2.1.2.2.2.2.2.2.1,xJ.2.1.2.2.2.2.2.2.2.1,xJ.2.1.2.2.2.2.2.2.2.2)) (sA++xJ.2.2) (IntKind.i64.wrap (se+(1:Int))) (xJ.1) (3)
 else
 none)
 else
 none
 else
 none
 else
 ck (sQ==3||sQ==0) (
 bif room sA.length 24 then
 bC k v0 v1  n (sI) (sJ) (sM) (sN) (sl) (sm) (sj) (so) (sY) (sA) (IntKind.i64.wrap (se+(1:Int))) (sf) (3)
 else
 none)
 else
 none
 else
 bif xD.1==(2:Int) then
 ob (bo sf (3:Int) (1:Int)) fun xh=>
 ck (sQ==3||sQ==0) (
 bif room sA.length 24 then
 bC k v0 v1  n (sI) (sJ) (sM) (sN) (sl) (sm) (sj) (so) (sY) (sA) (IntKind.i64.wrap (se+(1:Int))) (xh) (3)
 else
 none)
 else
 ck (sQ==3||sQ==0) (
 bif room sA.length 24 then
 bC k v0 v1  n (sI) (sJ) (sM) (sN) (sl) (sm) (sj) (so) (sY) (sA) (IntKind.i64.wrap (se+(1:Int))) (sf) (3)
 else
 none)
 else
 bC k v0 v1  n (sI) (sJ) (sM) (sN) (sl) (sm) (sj) (so) (sY) (sA) (IntKind.i64.wrap (se+(1:Int))) (sf) (sQ)
 else
 ck (decide (sm.length≤so.length)) (
 ck (decide (sj.length≤sY.length)) (
 some ((((sI),(sJ),(sM),(sN)),(sl),(sf),(List.take sm.length so),(List.take sj.length sY)),(sA))))
theorem mG (k:Nat) (v0_0_0 v0_0_1 v0_0_2 v0_0_3:Int) (v0_1:Tyt) (v0_2:List Int) (v0_3:List Tyw) (v0_4:List Tys) (v1:Tye):∀ (n:Nat) (sI sJ sM sN:Int) (sl:Tyt) (sm:List Tyw) (sj:List Tys) (so:List Tyw) (sY:List Tys) (sA:Tye) (se:Int) (sf:List Int) (sQ:Nat) ⦃s91:List Int⦄ ⦃s94 s95:Bool⦄ ⦃sF:Nat⦄ ⦃j117:V⦄,rt none (itX (xX (xS (k+62)) 17 0 (k+62) false) Ax (15) (aw (xX (xS (k+62)) 17 0 (k+62) false) (av (xS (k+62)).P Tryz.f17) B8) n ⟨[.agg [.lit (.int .i64 v0_0_0),.lit (.int .i64 v0_0_1),.lit (.int .i64 v0_0_2),.lit (.int .i64 v0_0_3),.ro (List.map ao v0_1),.ro (List.map (aG IntKind.u64) v0_2),.ro (List.map aM v0_3),.ro (List.map bD v0_4)],.ro (List.map fi v1),.ptr 0 0 0 0,uu,.ptr 5 0 0 0,.own 6 0 0,.ptr 13 0 0 0,.own 14 sF sA.length,uu,j117,.agg [.lit (.int .i64 v0_0_0),.lit (.int .i64 v0_0_1),.lit (.int .i64 v0_0_2),.lit (.int .i64 v0_0_3),.ro (List.map ao v0_1),.ro (List.map (aG IntKind.u64) v0_2),.ro (List.map aM v0_3),.ro (List.map bD v0_4)],.agg [.lit (.int .i64 sI),.lit (.int .i64 sJ),.lit (.int .i64 sM),.lit (.int .i64 sN),.ro (List.map ao sl),.ro (List.map (aG IntKind.u64) s91),.own 7 0 sm.length,.own 8 0 sj.length],.agg [.lit (.int .i64 v0_0_0),.lit (.int .i64 v0_0_1),.lit (.int .i64 v0_0_2),.lit (.int .i64 v0_0_3),.ro (List.map ao v0_1),.ro (List.map (aG IntKind.u64) v0_2),.ro (List.map aM v0_3),.ro (List.map bD v0_4)],.lit (.bool s94),.lit (.bool s95),uu,.ro (List.map fi v1),.lit (.int .i64 (↑v1.length:Int)),.lit (.int .i64 se),.junk,.junk,.junk,.junk,.junk,.junk,.junk,.junk,.junk,.junk,.junk,.junk,.junk,.junk,.junk,.junk,uu,uu],[.box [.lit (.int .i64 v0_0_0),.lit (.int .i64 v0_0_1),.lit (.int .i64 v0_0_2),.lit (.int .i64 v0_0_3),.ro (List.map ao v0_1),.ro (List.map (aG IntKind.u64) v0_2),.ro (List.map aM v0_3),.ro (List.map bD v0_4)],.rows 0 [] 0 true,.rows 0 [] 0 true,.rows 0 [] 0 true,.rows 0 [] 0 true,.box [.lit (.int .i64 (0:Int)),.lit (.int .i64 (0:Int)),.lit (.int .i64 (0:Int)),.lit (.int .i64 (0:Int)),.own 1 0 0,.own 2 0 0,.own 3 0 0,.own 4 0 0],.rows 0 [] 0 true,.rows 11 (List.map aM so) 0 true,.rows 9 (List.map bD sY) 0 true,.rows 0 [] 0 true,.rows 0 [] 0 true,.rows 0 [] 0 true,.rows 0 [] 0 true,.box [.lit (.int .i64 sI),.lit (.int .i64 sJ),.lit (.int .i64 sM),.lit (.int .i64 sN),.ro (List.map ao sl),.ro (List.map (aG IntKind.u64) sf),.own 7 0 sm.length,.own 8 0 sj.length],.rows sQ (List.map aX sA) sF true]⟩)=ob (bC k ((v0_0_0,v0_0_1,v0_0_2,v0_0_3),v0_1,v0_2,v0_3,v0_4) v1  n sI sJ sM sN sl sm sj so sY sA se sf sQ) fun r=>some ((.tup [.agg [.lit (.int .i64 r.1.1.1),.lit (.int .i64 r.1.1.2.1),.lit (.int .i64 r.1.1.2.2.1),.lit (.int .i64 r.1.1.2.2.2),.ro (List.map ao r.1.2.1),.ro (List.map (aG .u64) r.1.2.2.1),.ro (List.map aM r.1.2.2.2.1),.ro (List.map bD r.1.2.2.2.2)],.ro (List.map aX r.2)]),[]):=by
 intro n
 induction n with
 | zero=>intros;rfl
 | succ n ih=>
  intro sI sJ sM sN sl sm sj so sY sA se sf sQ s91 s94 s95 sF j117
  rw [bC]
  simp -implicitDefEqProofs only [S3,Rp,PS,pm,fC,TR,Ph,PF,pN,pp,fh,fw,aH (g:=41),S4,RO,pi,fe,Tn,RR,Tk,Pz,T3,QB,↓syP,syA,syD,simprocAttr,syE,ah,ag,ae,syW,xQ,dZ,mV,o7,AY,db,cy,wy,cw,H5,ih]
def gh (k:Nat) (v0:Typ) (v1:Tye):Option (Typ×Tye):=
 ob (dz (k+59) v0.2.1) fun xN=>
 ob (aO 8 v0.2.2.1) fun xH=>
 ob (aO 104 v0.2.2.2.1) fun xb=>
 ob (aO 88 v0.2.2.2.2) fun xi=>
 ob (bO k (k+61) v0.1.1 v0.1.2.1 v0.1.2.2.1 v0.1.2.2.2 xN xH xb xi (↑xb.length:Int) 0 xb) fun xB=>
 ck (decide (xB.2.2.2.2.2.2.1.length≤xB.2.2.2.2.2.2.2.2.1.length)) (
 ck (decide (xB.2.2.2.2.2.2.2.1.length≤xB.2.2.2.2.2.2.2.2.2.length)) (
 ob (du (k+27) v0) fun xj=>
 bif !xj then
 ck (decide (xB.2.2.2.2.2.2.1.length≤(List.take xB.2.2.2.2.2.2.1.length xB.2.2.2.2.2.2.2.2.1).length)) (
 ck (decide (xB.2.2.2.2.2.2.2.1.length≤(List.take xB.2.2.2.2.2.2.2.1.length xB.2.2.2.2.2.2.2.2.2).length)) (
 some (((xB.1,xB.2.1,xB.2.2.1,xB.2.2.2.1),xB.2.2.2.2.1,xB.2.2.2.2.2.1,(List.take xB.2.2.2.2.2.2.1.length (List.take xB.2.2.2.2.2.2.1.length xB.2.2.2.2.2.2.2.2.1)),(List.take xB.2.2.2.2.2.2.2.1.length (List.take xB.2.2.2.2.2.2.2.1.length xB.2.2.2.2.2.2.2.2.2))),[])))
 else
 bC k v0 v1 (k+62) xB.1 xB.2.1 xB.2.2.1 xB.2.2.2.1 xB.2.2.2.2.1 xB.2.2.2.2.2.2.1 xB.2.2.2.2.2.2.2.1 (List.take xB.2.2.2.2.2.2.1.length xB.2.2.2.2.2.2.2.2.1) (List.take xB.2.2.2.2.2.2.2.1.length xB.2.2.2.2.2.2.2.2.2) ([]) 0 xB.2.2.2.2.2.1 0))
theorem BS (k:Nat) (v0_0_0 v0_0_1 v0_0_2 v0_0_3:Int) (v0_1:Tyt) (v0_2:List Int) (v0_3:List Tyw) (v0_4:List Tys) (v1:Tye):xC (k+63) none 17 [.agg [.lit (.int .i64 v0_0_0),.lit (.int .i64 v0_0_1),.lit (.int .i64 v0_0_2),.lit (.int .i64 v0_0_3),.ro (List.map ao v0_1),.ro (List.map (aG .u64) v0_2),.ro (List.map aM v0_3),.ro (List.map bD v0_4)],.ro (List.map fi v1)]=ob (gh k ((v0_0_0,v0_0_1,v0_0_2,v0_0_3),v0_1,v0_2,v0_3,v0_4) v1) fun r=>some ((.tup [.agg [.lit (.int .i64 r.1.1.1),.lit (.int .i64 r.1.1.2.1),.lit (.int .i64 r.1.1.2.2.1),.lit (.int .i64 r.1.1.2.2.2),.ro (List.map ao r.1.2.1),.ro (List.map (aG .u64) r.1.2.2.1),.ro (List.map aM r.1.2.2.2.1),.ro (List.map bD r.1.2.2.2.2)],.ro (List.map aX r.2)]),[]):=by
 rw [aH]
 unfold gh
 have hl0:=fun (xK:Int×Int×Int×Int×Tyt×List Int×List Tyw×List Tys×List Tyw×List Tys)=>mG k v0_0_0 v0_0_1 v0_0_2 v0_0_3 v0_1 v0_2 v0_3 v0_4 v1 (k+62) (xK.fst) (xK.snd.fst) (xK.snd.snd.fst) (xK.snd.snd.snd.fst) (xK.snd.snd.snd.snd.fst) (xK.snd.snd.snd.snd.snd.snd.fst) (xK.snd.snd.snd.snd.snd.snd.snd.fst) (List.take xK.snd.snd.snd.snd.snd.snd.fst.length xK.snd.snd.snd.snd.snd.snd.snd.snd.fst) (List.take xK.snd.snd.snd.snd.snd.snd.snd.fst.length xK.snd.snd.snd.snd.snd.snd.snd.snd.snd) ([]) ((0:Int)) (xK.snd.snd.snd.snd.snd.fst) (0)
 try simp -implicitDefEqProofs only [List.map_nil,List.length_nil] at hl0
 simp -implicitDefEqProofs only [S3,Rp,PS,pm,fC,TR,Ph,PF,pN,pp,fh,fw,aH (g:=41),S4,RO,pi,fe,Tn,RR,Tk,Pz,T3,QB,↓syP,syA,syD,simprocAttr,syE,ah,ag,ae,syW,xQ,db,cy,cw,mG k v0_0_0 v0_0_1 v0_0_2 v0_0_3 v0_1 v0_2 v0_3 v0_4 v1,hl0]
 all_goals simp -implicitDefEqProofs only [List.map_nil]
end Go.Ab
set_option maxRecDepth 100000
set_option linter.unusedVariables false
set_option linter.unusedSimpArgs false
namespace Go.Ab
open Go.Proofs
def bB (k:Nat)   : Nat→Tyt→Int→Nat→List Int→Int→Nat→Option (Nat×List Int×Nat)
 | 0,_,_,_,_,_,_=>none
 | n+1,s7,sS,sX,sT,sE,sC=>
 bif decide (sE<sS) then
 ob (eV k s7 sE) fun x24=>
 bif x24==(-1:Int) then
 ck (sC==1||sC==0) (
 bif room (sT++[sE]).length 8 then
 bB k   n (s7) (sS) (sX+1) (sT++[sE]) (IntKind.i64.wrap (sE+(1:Int))) (1)
 else
 none)
 else
 bB k   n (s7) (sS) (sX) (sT) (IntKind.i64.wrap (sE+(1:Int))) (sC)
 else
 some (sX,sT,sC)
theorem di (k:Nat)  : ∀ (n:Nat) (s7:Tyt) (sS:Int) (sX:Nat) (sT:List Int) (sE:Int) (sC:Nat) ⦃s8 s9:Bool⦄ ⦃j14:V⦄,itX (xX (xS (k+20)) 57 0 (k+20) false) Ch (2) (aw (xX (xS (k+20)) 57 0 (k+20) false) (av (xS (k+20)).P Tryz.f57) EB) n ⟨[.ro (List.map ao s7),uu,.own 0 0 0,.own 1 sX sT.length,j14,.ro (List.map ao s7),.lit (.bool s8),.lit (.bool s9),.ro (List.map ao s7),.lit (.int .i64 sS),.lit (.int .i64 sE),.junk,.junk,.junk,.junk,.junk,.junk,.junk,.junk,.junk,.junk,.junk,uu],[.rows 0 [] 0 true,.rows sC (List.map (aG IntKind.i64) sT) sX true]⟩=ob (bB k   n s7 sS sX sT sE sC) fun r=>some ((.own 1 r.1 r.2.1.length,[.rows 0 [] 0 true,.rows r.2.2 (List.map (aG IntKind.i64) r.2.1) r.1 true])):=by
 intro n
 induction n with
 | zero=>intros;rfl
 | succ n ih=>
  intro s7 sS sX sT sE sC s8 s9 j14
  rw [bB]
  simp -implicitDefEqProofs only [ab7,Yi,Yl,Bq,Ca,BH,Cf,By,iZ,iS,iW,iV,acb,Yh,Yj,BM,iX,aH (g:=57),↓syP,syA,syD,simprocAttr,syE,ah,ag,ae,syW,xQ,wI,Tw,ih]
theorem fQ (k:Nat) (v1:Tyt):∀ ⦃s8 s9:Bool⦄ ⦃j14:V⦄,itX (xX (xS (k+20)) 57 0 (k+20) false) Ch 2 (aw (xX (xS (k+20)) 57 0 (k+20) false) (av (xS (k+20)).P Tryz.f57) EB) (k+20) (St.mk [.ro (List.map ao v1),uu,.own 0 0 0,.own 1 0 0,j14,.ro (List.map ao v1),.lit (.bool s8),.lit (.bool s9),.ro (List.map ao v1),.lit (.int .i64 (↑v1.length:Int)),.lit (.int .i64 (0:Int)),.junk,.junk,.junk,.junk,.junk,.junk,.junk,.junk,.junk,.junk,.junk,uu] [.rows 0 [] 0 true,.rows 0 [] 0 true])=ob (bB k (k+20) v1 (↑v1.length:Int) 0 [] (0:Int) 0) fun r ↦ some (.own 1 r.fst r.snd.fst.length,[.rows 0 [] 0 true,.rows r.snd.snd (List.map (aG IntKind.i64) r.snd.fst) r.fst true]):=by
 have h:=di k  (k+20) (v1) ((↑v1.length:Int)) (0) ([]) ((0:Int)) (0)
 simp -implicitDefEqProofs only [List.map_nil,List.length_nil] at h
 exact h
def cY (k:Nat) (v0:(Int×Int×Int×Int)) (v1:Tyt) (v2:(List (List Int))) (o0:Tyt→List Int→Nat→List Tyw→Int→List Tys→Nat→Nat→List Int→Option (Typ×Bool)):Nat→List Int→Tyt→List Int→Int→Nat→List Tyw→Nat→Int→List Int→Int→List Tys→Nat→Option (Typ×Bool)
 | 0,_,_,_,_,_,_,_,_,_,_,_,_=>none
 | n+1,s81,sI,sJ,sM,sN,s105,sZ,s110,sp,s130,sx,s134=>
 bif decide (s110<sM) then
 ob (idx s81 s110) fun xh=>
 ck (decide (sZ≤sp.length)) (
 ob (dE (k+20) (List.take sZ sp) xh) fun xN=>
 bif decide (xN<(0:Int)) then
 some (((((0:Int)),((0:Int)),((0:Int)),((0:Int))),[],[],[],[]),(false))
 else
 ck (sN==1) (
 ck (decide (sZ≤sp.length∧(0:Int)≤xN∧xN<IntKind.i64.wrap (xN+(1:Int))∧(IntKind.i64.wrap (xN+(1:Int))).toNat≤sZ∧sZ≤9223372036854775807)) (
 cY k v0 v1 v2 o0 n (s81) (sI) (sJ) (sM) (1) (s105) (sZ - ((IntKind.i64.wrap (xN+(1:Int))).toNat - xN.toNat)) (IntKind.i64.wrap (s110+(1:Int))) (D4 (List.take sZ sp) xN.toNat (IntKind.i64.wrap (xN+(1:Int))).toNat++List.drop sZ sp) (s130) (sx) (s134))))
 else
 ob (ij s81) fun xH=>
 ck (s134==9||s134==0) (
 bif room (sx++[(xH.1,xH.2.1,xH.2.2.1,xH.2.2.2.1,xH.2.2.2.2.1,xH.2.2.2.2.2.1,xH.2.2.2.2.2.2.1,xH.2.2.2.2.2.2.2.1,xH.2.2.2.2.2.2.2.2)]).length 88 then
 o0 (sI) (sJ) (sN) (s105) (IntKind.i64.wrap (s130+(1:Int))) (sx++[(xH.1,xH.2.1,xH.2.2.1,xH.2.2.2.1,xH.2.2.2.2.1,xH.2.2.2.2.2.1,xH.2.2.2.2.2.2.1,xH.2.2.2.2.2.2.2.1,xH.2.2.2.2.2.2.2.2)]) (9) (sZ) (sp)
 else
 none)
theorem uF (k:Nat) (v0_0 v0_1 v0_2 v0_3:Int) (v1:Tyt) (v2:List (List Int)) (n56:Nat) (o0:Tyt→List Int→Nat→List Tyw→Int→List Tys→Nat→Nat→List Int→Option (Typ×Bool)) (ho0:∀ (sd:Tyt) (sK:List Int) (sw:Nat) (sn:List Tyw) (sV:Int) (sF:List Tys) (sA sg:Nat) (sh:List Int) ⦃s57:List Int⦄ ⦃s58 s59 s60 s61:Bool⦄ ⦃s76 s78 s114:Nat⦄ ⦃j75 j112 j136 j137:V⦄,rt none (itX (xX (xS (k+21)) 23 0 (k+21) false) ug (14) (aw (xX (xS (k+21)) 23 0 (k+21) false) (av (xS (k+21)).P Tryz.f23) Bw) n56 ⟨(.agg [.lit (.int .i64 v0_0),.lit (.int .i64 v0_1),.lit (.int .i64 v0_2),.lit (.int .i64 v0_3)]::.ro (List.map ao v1)::.ro (List.map fT v2)::.ptr 0 0 0 0::uu::uu::.ptr 5 0 0 0::.lit (.bool false)::.own 6 0 sg::.ptr 11 0 0 0::j75::uu::j112::uu::j136::j137::.agg [.lit (.int .i64 v0_0),.lit (.int .i64 v0_1),.lit (.int .i64 v0_2),.lit (.int .i64 v0_3)]::.lit (.bool s58)::.lit (.bool s59)::.lit (.bool false)::.ro (List.map ao v1)::.lit (.bool s60)::.lit (.bool s61)::.lit (.bool s61)::.lit (.bool false)::.ro (List.map fT v2)::.lit (.int .i64 (↑v2.length:Int))::.lit (.bool (decide ((3:Int)<(↑v2.length:Int))))::.lit (.bool (decide ((3:Int)<(↑v2.length:Int))))::uu::.ro (List.map ao v1)::.own 6 0 s57.length::.agg [.lit (.int .i64 v0_0),.lit (.int .i64 v0_1),.lit (.int .i64 v0_2),.lit (.int .i64 v0_3)]::.ro (List.map ao v1)::.ro (List.map ao sd)::.agg [.lit (.int .i64 v0_0),.lit (.int .i64 v0_1),.lit (.int .i64 v0_2),.lit (.int .i64 v0_3)]::.ro (List.map (aG IntKind.u64) sK)::.agg [.lit (.int .i64 v0_0),.lit (.int .i64 v0_1),.lit (.int .i64 v0_2),.lit (.int .i64 v0_3),.ro (List.map ao sd),.ro (List.map (aG IntKind.u64) sK),.nil,.nil]::.ptr 0 0 0 0::.lit (.int .i64 v0_0)::.junk::.junk::.junk::.junk::.junk::.junk::.junk::.junk::.junk::.junk::.junk::.ro (List.map fT v2)::.lit (.int .i64 (↑v2.length:Int))::.lit (.int .i64 sV)::.junk::.junk::.junk::.junk::.junk::.junk::.junk::.junk::.junk::.junk::.junk::.junk::.junk::.junk::.junk::.junk::.junk::.junk::.junk::.junk::.junk::.junk::.junk::.junk::.junk::.junk::.junk::.junk::.junk::uu::[]),[.box [.lit (.int .i64 v0_0),.lit (.int .i64 v0_1),.lit (.int .i64 v0_2),.lit (.int .i64 v0_3)],.rows 0 [] 0 true,.rows 0 [] 0 true,.rows 0 [] 0 true,.rows 0 [] 0 true,.box [.lit (.int .i64 (0:Int)),.lit (.int .i64 (0:Int)),.lit (.int .i64 (0:Int)),.lit (.int .i64 (0:Int)),.own 1 0 0,.own 2 0 0,.own 3 0 0,.own 4 0 0],.rows sw (List.map (aG IntKind.i64) sh) 0 true,.rows 0 [] 0 true,.rows 0 [] 0 true,.rows 0 [] 0 true,.rows 0 [] 0 true,.box [.lit (.int .i64 v0_0),.lit (.int .i64 v0_1),.lit (.int .i64 v0_2),.lit (.int .i64 v0_3),.ro (List.map ao sd),.ro (List.map (aG IntKind.u64) sK),.own 12 s76 sn.length,.own 13 s114 sF.length],.rows s78 (List.map aM sn) s76 true,.rows sA (List.map bD sF) s114 true]⟩)=ob (o0 sd sK sw sn sV sF sA sg sh) fun r=>some ((.tup [.agg [.lit (.int .i64 r.1.1.1),.lit (.int .i64 r.1.1.2.1),.lit (.int .i64 r.1.1.2.2.1),.lit (.int .i64 r.1.1.2.2.2),.ro (List.map ao r.1.2.1),.ro (List.map (aG .u64) r.1.2.2.1),.ro (List.map aM r.1.2.2.2.1),.ro (List.map bD r.1.2.2.2.2)],.lit (.bool r.2)]),[])):∀ (n:Nat) (s81:List Int) (sI:Tyt) (sJ:List Int) (sM:Int) (sN:Nat) (s105:List Tyw) (sZ:Nat) (s110:Int) (sp:List Int) (s130:Int) (sx:List Tys) (s134:Nat) ⦃s80:List Int⦄ ⦃s82 s83 s84 s85:Bool⦄ ⦃s104 s106:Nat⦄ ⦃s131:Bool⦄ ⦃s132:Nat⦄ ⦃j103 j108 j109:V⦄,rt none (itX (xX (xS (k+21)) 23 0 (k+21) false) IM (14) (aw (xX (xS (k+21)) 23 0 (k+21) false) (eg (xX (xS (k+21)) 23 0 (k+21) false) ug 14 (aw (xX (xS (k+21)) 23 0 (k+21) false) (av (xS (k+21)).P Tryz.f23) Bw) n56) HU) n ⟨(.agg [.lit (.int .i64 v0_0),.lit (.int .i64 v0_1),.lit (.int .i64 v0_2),.lit (.int .i64 v0_3)]::.ro (List.map ao v1)::.ro (List.map fT v2)::.ptr 0 0 0 0::uu::uu::.ptr 5 0 0 0::.lit (.bool false)::.own 6 0 sZ::.ptr 11 0 0 0::j103::uu::.ro (List.map (aG IntKind.i64) s81)::uu::j108::j109::.agg [.lit (.int .i64 v0_0),.lit (.int .i64 v0_1),.lit (.int .i64 v0_2),.lit (.int .i64 v0_3)]::.lit (.bool s82)::.lit (.bool s83)::.lit (.bool false)::.ro (List.map ao v1)::.lit (.bool s84)::.lit (.bool s85)::.lit (.bool s85)::.lit (.bool false)::.ro (List.map fT v2)::.lit (.int .i64 (↑v2.length:Int))::.lit (.bool (decide ((3:Int)<(↑v2.length:Int))))::.lit (.bool (decide ((3:Int)<(↑v2.length:Int))))::uu::.ro (List.map ao v1)::.own 6 0 s80.length::.agg [.lit (.int .i64 v0_0),.lit (.int .i64 v0_1),.lit (.int .i64 v0_2),.lit (.int .i64 v0_3)]::.ro (List.map ao v1)::.ro (List.map ao sI)::.agg [.lit (.int .i64 v0_0),.lit (.int .i64 v0_1),.lit (.int .i64 v0_2),.lit (.int .i64 v0_3)]::.ro (List.map (aG IntKind.u64) sJ)::.agg [.lit (.int .i64 v0_0),.lit (.int .i64 v0_1),.lit (.int .i64 v0_2),.lit (.int .i64 v0_3),.ro (List.map ao sI),.ro (List.map (aG IntKind.u64) sJ),.nil,.nil]::.ptr 0 0 0 0::.lit (.int .i64 v0_0)::.junk::.junk::.junk::.junk::.junk::.junk::.junk::.junk::.junk::.junk::.junk::.ro (List.map fT v2)::.lit (.int .i64 (↑v2.length:Int))::.lit (.int .i64 s130)::.lit (.bool s131)::.rp [.ro (List.map (aG IntKind.i64) s81)]::.ro (List.map (aG IntKind.i64) s81)::.ro (List.map (aG IntKind.i64) s81)::.lit (.int .i64 sM)::.lit (.int .i64 s110)::.junk::.junk::.junk::.junk::.junk::.junk::.junk::.junk::.junk::.junk::.junk::.junk::.junk::.junk::.junk::.junk::.junk::.junk::.junk::.junk::.junk::.junk::.junk::uu::[]),[.box [.lit (.int .i64 v0_0),.lit (.int .i64 v0_1),.lit (.int .i64 v0_2),.lit (.int .i64 v0_3)],.rows 0 [] 0 true,.rows 0 [] 0 true,.rows 0 [] 0 true,.rows 0 [] 0 true,.box [.lit (.int .i64 (0:Int)),.lit (.int .i64 (0:Int)),.lit (.int .i64 (0:Int)),.lit (.int .i64 (0:Int)),.own 1 0 0,.own 2 0 0,.own 3 0 0,.own 4 0 0],.rows sN (List.map (aG IntKind.i64) sp) 0 true,.rows 0 [] 0 true,.rows 0 [] 0 true,.rows 0 [] 0 true,.rows 0 [] 0 true,.box [.lit (.int .i64 v0_0),.lit (.int .i64 v0_1),.lit (.int .i64 v0_2),.lit (.int .i64 v0_3),.ro (List.map ao sI),.ro (List.map (aG IntKind.u64) sJ),.own 12 s104 s105.length,.own 13 s132 sx.length],.rows s106 (List.map aM s105) s104 true,.rows s134 (List.map bD sx) s132 true]⟩)=ob (cY k (v0_0,v0_1,v0_2,v0_3) v1 v2 o0 n s81 sI sJ sM sN s105 sZ s110 sp s130 sx s134) fun r=>some ((.tup [.agg [.lit (.int .i64 r.1.1.1),.lit (.int .i64 r.1.1.2.1),.lit (.int .i64 r.1.1.2.2.1),.lit (.int .i64 r.1.1.2.2.2),.ro (List.map ao r.1.2.1),.ro (List.map (aG .u64) r.1.2.2.1),.ro (List.map aM r.1.2.2.2.1),.ro (List.map bD r.1.2.2.2.2)],.lit (.bool r.2)]),[]):=by
 intro n
 induction n with
 | zero=>intros;rfl
 | succ n ih=>
  intro s81 sI sJ sM sN s105 sZ s110 sp s130 sx s134 s80 s82 s83 s84 s85 s104 s106 s131 s132 j103 j108 j109
  rw [cY]
  simp -implicitDefEqProofs only [ab7,Yi,Yl,Bq,Ca,BH,Cf,By,iZ,iS,iW,iV,acb,Yh,Yj,BM,iX,aH (g:=57),↓syP,syA,syD,simprocAttr,syE,ah,ag,ae,syW,xQ,de,bT,o6,gE,rE,mS,db,di,fQ,SS,ih,ho0]
  all_goals simp -implicitDefEqProofs only [List.map_nil]
def b7 (k:Nat) (v0:(Int×Int×Int×Int)) (v1:Tyt) (v2:(List (List Int)))  : Nat→Tyt→List Int→Nat→List Tyw→Int→List Tys→Nat→Nat→List Int→Option (Typ×Bool)
 | 0,_,_,_,_,_,_,_,_,_=>none
 | n+1,sd,sK,sw,sn,sV,sF,sA,sg,sh=>
 bif decide (sV<(↑v2.length:Int)) then
 ob (idx v2 sV) fun xe=>
 cY k v0 v1 v2 (fun sd sK sw sn sV sF sA sg sh=>b7 k v0 v1 v2  n sd sK sw sn sV sF sA sg sh) (k+21) (xe) (sd) (sK) ((↑xe.length:Int)) (sw) (sn) (sg) ((0:Int)) (sh) (sV) (sF) (sA)
 else
 some ((((v0.1),(v0.2.1),(v0.2.2.1),(v0.2.2.2)),(sd),(sK),(sn),(sF)),(true))
theorem mL (k:Nat) (v0_0 v0_1 v0_2 v0_3:Int) (v1:Tyt) (v2:List (List Int)):∀ (n:Nat) (sd:Tyt) (sK:List Int) (sw:Nat) (sn:List Tyw) (sV:Int) (sF:List Tys) (sA sg:Nat) (sh:List Int) ⦃s57:List Int⦄ ⦃s58 s59 s60 s61:Bool⦄ ⦃s76 s78 s114:Nat⦄ ⦃j75 j112 j136 j137:V⦄,rt none (itX (xX (xS (k+21)) 23 0 (k+21) false) ug (14) (aw (xX (xS (k+21)) 23 0 (k+21) false) (av (xS (k+21)).P Tryz.f23) Bw) n ⟨(.agg [.lit (.int .i64 v0_0),.lit (.int .i64 v0_1),.lit (.int .i64 v0_2),.lit (.int .i64 v0_3)]::.ro (List.map ao v1)::.ro (List.map fT v2)::.ptr 0 0 0 0::uu::uu::.ptr 5 0 0 0::.lit (.bool false)::.own 6 0 sg::.ptr 11 0 0 0::j75::uu::j112::uu::j136::j137::.agg [.lit (.int .i64 v0_0),.lit (.int .i64 v0_1),.lit (.int .i64 v0_2),.lit (.int .i64 v0_3)]::.lit (.bool s58)::.lit (.bool s59)::.lit (.bool false)::.ro (List.map ao v1)::.lit (.bool s60)::.lit (.bool s61)::.lit (.bool s61)::.lit (.bool false)::.ro (List.map fT v2)::.lit (.int .i64 (↑v2.length:Int))::.lit (.bool (decide ((3:Int)<(↑v2.length:Int))))::.lit (.bool (decide ((3:Int)<(↑v2.length:Int))))::uu::.ro (List.map ao v1)::.own 6 0 s57.length::.agg [.lit (.int .i64 v0_0),.lit (.int .i64 v0_1),.lit (.int .i64 v0_2),.lit (.int .i64 v0_3)]::.ro (List.map ao v1)::.ro (List.map ao sd)::.agg [.lit (.int .i64 v0_0),.lit (.int .i64 v0_1),.lit (.int .i64 v0_2),.lit (.int .i64 v0_3)]::.ro (List.map (aG IntKind.u64) sK)::.agg [.lit (.int .i64 v0_0),.lit (.int .i64 v0_1),.lit (.int .i64 v0_2),.lit (.int .i64 v0_3),.ro (List.map ao sd),.ro (List.map (aG IntKind.u64) sK),.nil,.nil]::.ptr 0 0 0 0::.lit (.int .i64 v0_0)::.junk::.junk::.junk::.junk::.junk::.junk::.junk::.junk::.junk::.junk::.junk::.ro (List.map fT v2)::.lit (.int .i64 (↑v2.length:Int))::.lit (.int .i64 sV)::.junk::.junk::.junk::.junk::.junk::.junk::.junk::.junk::.junk::.junk::.junk::.junk::.junk::.junk::.junk::.junk::.junk::.junk::.junk::.junk::.junk::.junk::.junk::.junk::.junk::.junk::.junk::.junk::.junk::uu::[]),[.box [.lit (.int .i64 v0_0),.lit (.int .i64 v0_1),.lit (.int .i64 v0_2),.lit (.int .i64 v0_3)],.rows 0 [] 0 true,.rows 0 [] 0 true,.rows 0 [] 0 true,.rows 0 [] 0 true,.box [.lit (.int .i64 (0:Int)),.lit (.int .i64 (0:Int)),.lit (.int .i64 (0:Int)),.lit (.int .i64 (0:Int)),.own 1 0 0,.own 2 0 0,.own 3 0 0,.own 4 0 0],.rows sw (List.map (aG IntKind.i64) sh) 0 true,.rows 0 [] 0 true,.rows 0 [] 0 true,.rows 0 [] 0 true,.rows 0 [] 0 true,.box [.lit (.int .i64 v0_0),.lit (.int .i64 v0_1),.lit (.int .i64 v0_2),.lit (.int .i64 v0_3),.ro (List.map ao sd),.ro (List.map (aG IntKind.u64) sK),.own 12 s76 sn.length,.own 13 s114 sF.length],.rows s78 (List.map aM sn) s76 true,.rows sA (List.map bD sF) s114 true]⟩)=ob (b7 k (v0_0,v0_1,v0_2,v0_3) v1 v2  n sd sK sw sn sV sF sA sg sh) fun r=>some ((.tup [.agg [.lit (.int .i64 r.1.1.1),.lit (.int .i64 r.1.1.2.1),.lit (.int .i64 r.1.1.2.2.1),.lit (.int .i64 r.1.1.2.2.2),.ro (List.map ao r.1.2.1),.ro (List.map (aG .u64) r.1.2.2.1),.ro (List.map aM r.1.2.2.2.1),.ro (List.map bD r.1.2.2.2.2)],.lit (.bool r.2)]),[]):=by
 intro n
 induction n with
 | zero=>intros;rfl
 | succ n ih=>
  intro sd sK sw sn sV sF sA sg sh s57 s58 s59 s60 s61 s76 s78 s114 j75 j112 j136 j137
  rw [b7]
  simp -implicitDefEqProofs only [ab7,Yi,Yl,Bq,Ca,BH,Cf,By,iZ,iS,iW,iV,acb,Yh,Yj,BM,iX,aH (g:=57),↓syP,syA,syD,simprocAttr,syE,ah,ag,ae,syW,xQ,de,bT,o6,gE,rE,mS,db,di,fQ,T9,ih,uF k v0_0 v0_1 v0_2 v0_3 v1 v2 _ (fun sd sK sw sn sV sF sA sg sh=>b7 k (v0_0,v0_1,v0_2,v0_3) v1 v2  n sd sK sw sn sV sF sA sg sh) ih]
def cW (k:Nat) (v0:(Int×Int×Int×Int)) (v1:Tyt) (v2:(List (List Int)))  : Nat→Tyt→List Int→List Int→Nat→Int→List Tyw→Nat→Option (Typ×Bool)
 | 0,_,_,_,_,_,_,_=>none
 | n+1,sk,sU,sG,s41,s52,s54,s55=>
 bif decide (s52<v0.1) then
 ob (nI s52) fun xE=>
 ck (s55==11||s55==0) (
 bif room (s54++[(xE.1,xE.2.1,(xE.2.2.1.1,xE.2.2.1.2.1,xE.2.2.1.2.2.1,xE.2.2.1.2.2.2.1,xE.2.2.1.2.2.2.2.1,xE.2.2.1.2.2.2.2.2.1,xE.2.2.1.2.2.2.2.2.2),xE.2.2.2.1,xE.2.2.2.2)]).length 104 then
 cW k v0 v1 v2  n (sk) (sU) (sG) (s41) (IntKind.i64.wrap (s52+(1:Int))) (s54++[(xE.1,xE.2.1,(xE.2.2.1.1,xE.2.2.1.2.1,xE.2.2.1.2.2.1,xE.2.2.1.2.2.2.1,xE.2.2.1.2.2.2.2.1,xE.2.2.1.2.2.2.2.2.1,xE.2.2.1.2.2.2.2.2.2),xE.2.2.2.1,xE.2.2.2.2)]) (11)
 else
 none)
 else
 b7 k v0 v1 v2 (k+21) (sk) (sU) (s41) (s54) ((0:Int)) ([]) (0) (sG.length) (sG)
theorem ix (k:Nat) (v0_0 v0_1 v0_2 v0_3:Int) (v1:Tyt) (v2:List (List Int)):∀ (n:Nat) (sk:Tyt) (sU sG:List Int) (s41:Nat) (s52:Int) (s54:List Tyw) (s55:Nat) ⦃sb sc sR sP:Bool⦄ ⦃sy:Nat⦄ ⦃j51:V⦄,rt none (itX (xX (xS (k+21)) 23 0 (k+21) false) Ja (14) (aw (xX (xS (k+21)) 23 0 (k+21) false) (av (xS (k+21)).P Tryz.f23) H9) n ⟨(.agg [.lit (.int .i64 v0_0),.lit (.int .i64 v0_1),.lit (.int .i64 v0_2),.lit (.int .i64 v0_3)]::.ro (List.map ao v1)::.ro (List.map fT v2)::.ptr 0 0 0 0::uu::uu::.ptr 5 0 0 0::.lit (.bool false)::.own 6 0 sG.length::.ptr 11 0 0 0::j51::uu::uu::uu::uu::uu::.agg [.lit (.int .i64 v0_0),.lit (.int .i64 v0_1),.lit (.int .i64 v0_2),.lit (.int .i64 v0_3)]::.lit (.bool sb)::.lit (.bool sc)::.lit (.bool false)::.ro (List.map ao v1)::.lit (.bool sR)::.lit (.bool sP)::.lit (.bool sP)::.lit (.bool false)::.ro (List.map fT v2)::.lit (.int .i64 (↑v2.length:Int))::.lit (.bool (decide ((3:Int)<(↑v2.length:Int))))::.lit (.bool (decide ((3:Int)<(↑v2.length:Int))))::uu::.ro (List.map ao v1)::.own 6 0 sG.length::.agg [.lit (.int .i64 v0_0),.lit (.int .i64 v0_1),.lit (.int .i64 v0_2),.lit (.int .i64 v0_3)]::.ro (List.map ao v1)::.ro (List.map ao sk)::.agg [.lit (.int .i64 v0_0),.lit (.int .i64 v0_1),.lit (.int .i64 v0_2),.lit (.int .i64 v0_3)]::.ro (List.map (aG IntKind.u64) sU)::.agg [.lit (.int .i64 v0_0),.lit (.int .i64 v0_1),.lit (.int .i64 v0_2),.lit (.int .i64 v0_3),.ro (List.map ao sk),.ro (List.map (aG IntKind.u64) sU),.nil,.nil]::.ptr 0 0 0 0::.lit (.int .i64 v0_0)::.lit (.int .i64 s52)::.junk::.junk::.junk::.junk::.junk::.junk::.junk::.junk::.junk::.junk::uu::uu::uu::uu::uu::uu::uu::uu::uu::uu::uu::uu::uu::uu::uu::uu::uu::uu::uu::uu::uu::uu::uu::uu::uu::uu::uu::uu::uu::uu::uu::uu::uu::[]),[.box [.lit (.int .i64 v0_0),.lit (.int .i64 v0_1),.lit (.int .i64 v0_2),.lit (.int .i64 v0_3)],.rows 0 [] 0 true,.rows 0 [] 0 true,.rows 0 [] 0 true,.rows 0 [] 0 true,.box [.lit (.int .i64 (0:Int)),.lit (.int .i64 (0:Int)),.lit (.int .i64 (0:Int)),.lit (.int .i64 (0:Int)),.own 1 0 0,.own 2 0 0,.own 3 0 0,.own 4 0 0],.rows s41 (List.map (aG IntKind.i64) sG) 0 true,.rows 0 [] 0 true,.rows 0 [] 0 true,.rows 0 [] 0 true,.rows 0 [] 0 true,.box [.lit (.int .i64 v0_0),.lit (.int .i64 v0_1),.lit (.int .i64 v0_2),.lit (.int .i64 v0_3),.ro (List.map ao sk),.ro (List.map (aG IntKind.u64) sU),.own 12 sy s54.length,.own 13 0 0],.rows s55 (List.map aM s54) sy true,.rows 0 [] 0 true]⟩)=ob (cW k (v0_0,v0_1,v0_2,v0_3) v1 v2  n sk sU sG s41 s52 s54 s55) fun r=>some ((.tup [.agg [.lit (.int .i64 r.1.1.1),.lit (.int .i64 r.1.1.2.1),.lit (.int .i64 r.1.1.2.2.1),.lit (.int .i64 r.1.1.2.2.2),.ro (List.map ao r.1.2.1),.ro (List.map (aG .u64) r.1.2.2.1),.ro (List.map aM r.1.2.2.2.1),.ro (List.map bD r.1.2.2.2.2)],.lit (.bool r.2)]),[]):=by
 intro n
 induction n with
 | zero=>intros;rfl
 | succ n ih=>
  intro sk sU sG s41 s52 s54 s55 sb sc sR sP sy j51
  rw [cW]
  have hu2:=mL k v0_0 v0_1 v0_2 v0_3 v1 v2 (k+21) (sk) (sU) (s41) (s54) ((0:Int)) ([]) (0) (sG.length) (sG)
  try simp -implicitDefEqProofs only [List.map_nil,List.length_nil] at hu2
  simp -implicitDefEqProofs only [ab7,Yi,Yl,Bq,Ca,BH,Cf,By,iZ,iS,iW,iV,acb,Yh,Yj,BM,iX,aH (g:=57),↓syP,syA,syD,simprocAttr,syE,ah,ag,ae,syW,xQ,de,bT,o6,gE,rE,mS,db,di,fQ,Uc,ih,mL k v0_0 v0_1 v0_2 v0_3 v1 v2,hu2]
def f8 (k:Nat) (v0:(Int×Int×Int×Int)) (v1:Tyt) (v2:(List (List Int))):Option (Typ×Bool):=
 ob (bU v0) fun xb=>
 bif !xb then
 some (((0,0,0,0),[],[],[],[]),false)
 else
 ob (da (k+2) v1) fun xi=>
 bif !xi then
 some (((0,0,0,0),[],[],[],[]),false)
 else
 bif decide (3<(↑v2.length:Int)) then
 some (((0,0,0,0),[],[],[],[]),false)
 else
 ob (da (k+1) v1) fun xB=>
 bif !xB then
 ob (dz (k+19) v1) fun xj=>
 ob (ly (k+17) v0) fun xs=>
 cW k v0 v1 v2 (k+21) xj xs ([]) 0 0 ([]) 0
 else
 ob (bB k (k+20) v1 (↑v1.length:Int) 0 [] 0 0) fun xn=>
 ob (dz (k+19) v1) fun xt=>
 ob (ly (k+17) v0) fun xu=>
 cW k v0 v1 v2 (k+21) xt xu xn.2.1 xn.2.2 0 ([]) 0
theorem KD (k:Nat) (v0_0 v0_1 v0_2 v0_3:Int) (v1:Tyt) (v2:List (List Int)):xC (k+22) none 23 [.agg [.lit (.int .i64 v0_0),.lit (.int .i64 v0_1),.lit (.int .i64 v0_2),.lit (.int .i64 v0_3)],.ro (List.map ao v1),.ro (List.map fT v2)]=ob (f8 k (v0_0,v0_1,v0_2,v0_3) v1 v2) fun r=>some ((.tup [.agg [.lit (.int .i64 r.1.1.1),.lit (.int .i64 r.1.1.2.1),.lit (.int .i64 r.1.1.2.2.1),.lit (.int .i64 r.1.1.2.2.2),.ro (List.map ao r.1.2.1),.ro (List.map (aG .u64) r.1.2.2.1),.ro (List.map aM r.1.2.2.2.1),.ro (List.map bD r.1.2.2.2.2)],.lit (.bool r.2)]),[]):=by
 rw [aH]
 unfold f8
 have hl0:=fun (xv:Tyt) (xw:List Int)=>ix k v0_0 v0_1 v0_2 v0_3 v1 v2 (k+21) (xv) (xw) ([]) (0) ((0:Int)) ([]) (0)
 try simp -implicitDefEqProofs only [List.map_nil,List.length_nil] at hl0
 have hl1:=fun (xx:Tyt) (xy:List Int) (xo:Nat×List Int×Nat)=>ix k v0_0 v0_1 v0_2 v0_3 v1 v2 (k+21) (xx) (xy) (xo.snd.fst) (xo.snd.snd) ((0:Int)) ([]) (0)
 try simp -implicitDefEqProofs only [List.map_nil,List.length_nil] at hl1
 simp -implicitDefEqProofs only [ab7,Yi,Yl,Bq,Ca,BH,Cf,By,iZ,iS,iW,iV,acb,Yh,Yj,BM,iX,aH (g:=57),↓syP,syA,syD,simprocAttr,syE,ah,ag,ae,syW,xQ,de,bT,o6,db,di,fQ,ix k v0_0 v0_1 v0_2 v0_3 v1 v2,hl0,hl1]
 all_goals simp -implicitDefEqProofs only [List.map_nil]
end Go.Ab
set_option maxRecDepth 100000
set_option linter.unusedVariables false
set_option linter.unusedSimpArgs false
namespace Go.Ab
open Go.Proofs
def fU (k:Nat) (v0:Typ) (v1:(Int×Int×Int)):Option (Typ×Tye):=
 ob (gh k v0 [v1]) fun x2=>
 some (((x2.1.1.1,x2.1.1.2.1,x2.1.1.2.2.1,x2.1.1.2.2.2),x2.1.2),x2.2)
theorem Gu (k:Nat) (v0_0_0 v0_0_1 v0_0_2 v0_0_3:Int) (v0_1:Tyt) (v0_2:List Int) (v0_3:List Tyw) (v0_4:List Tys) (v1_0 v1_1 v1_2:Int):xC (k+64) none 24 [.agg [.lit (.int .i64 v0_0_0),.lit (.int .i64 v0_0_1),.lit (.int .i64 v0_0_2),.lit (.int .i64 v0_0_3),.ro (List.map ao v0_1),.ro (List.map (aG .u64) v0_2),.ro (List.map aM v0_3),.ro (List.map bD v0_4)],.agg [.lit (.int .i64 v1_0),.lit (.int .i64 v1_1),.lit (.int .u64 v1_2)]]=ob (fU k ((v0_0_0,v0_0_1,v0_0_2,v0_0_3),v0_1,v0_2,v0_3,v0_4) (v1_0,v1_1,v1_2)) fun r=>some ((.tup [.agg [.lit (.int .i64 r.1.1.1),.lit (.int .i64 r.1.1.2.1),.lit (.int .i64 r.1.1.2.2.1),.lit (.int .i64 r.1.1.2.2.2),.ro (List.map ao r.1.2.1),.ro (List.map (aG .u64) r.1.2.2.1),.ro (List.map aM r.1.2.2.2.1),.ro (List.map bD r.1.2.2.2.2)],.ro (List.map aX r.2)]),[]):=by
 rw [aH]
 unfold fU
 simp -implicitDefEqProofs only [aif,ahv,↓syP,syA,syD,simprocAttr,syE,ah,ag,ae,syW,xQ,BS]
end Go.Ab
set_option maxRecDepth 100000
set_option linter.unusedVariables false
set_option linter.unusedSimpArgs false
namespace Go.Ab
open Go.Proofs
def a8 (k:Nat) (v0:(List (List Int)))  : Nat→Int→Option Bool
 | 0,_=>none
 | n+1,s3=>
 bif decide (s3<(↑v0.length:Int)) then
 bif decide (s3≤(10:Int)) then
 ob (idx v0 s3) fun x6=>
 bif decide ((60:Int)<(↑x6.length:Int)) then
 some (false)
 else
 a8 k v0  n (IntKind.i64.wrap (s3+(1:Int)))
 else
 some (decide ((↑v0.length:Int)≤(10:Int)))
 else
 some (decide ((↑v0.length:Int)≤(10:Int)))
theorem iz (k:Nat) (v0:List (List Int)):∀ (n:Nat) (s3:Int),rt none (itX (xX (xS k) 22 0 k false) ui (0) (aw (xX (xS k) 22 0 k false) (av (xS k).P Tryz.f22) HT) n ⟨[.ro (List.map fT v0),uu,.lit (.bool false),.lit (.int .i64 s3),.junk,.junk,.junk,.junk,.junk,.junk,.junk,.junk,.junk,.junk,.junk,.junk,.junk,.junk,.junk,.junk,uu,uu,uu],[]⟩)=ob (a8 k v0  n s3) fun r=>some ((.lit (.bool r)),[]):=by
 intro n
 induction n with
 | zero=>intros;rfl
 | succ n ih=>
  intro s3
  rw [a8]
  simp -implicitDefEqProofs only [ahS,agi,aen,NL,M0,rA,rQ,↓syP,syA,syD,simprocAttr,syE,ah,ag,ae,syW,xQ,SI,ih]
def cg (k:Nat) (v0:(List (List Int))):Option Bool:=
 a8 k v0 k 0
theorem mm (k:Nat) (v0:List (List Int)):xC (k+1) none 22 [.ro (List.map fT v0)]=ob (cg k v0) fun r=>some ((.lit (.bool r)),[]):=by
 rw [aH]
 unfold cg
 simp -implicitDefEqProofs only [ahS,agi,aen,NL,M0,rA,rQ,↓syP,syA,syD,simprocAttr,syE,ah,ag,ae,syW,xQ,iz k v0]
end Go.Ab
set_option maxRecDepth 100000
set_option linter.unusedVariables false
set_option linter.unusedSimpArgs false
namespace Go.Ab
open Go.Proofs
def iu (v0:(Int×Int×Int×Int)) (v1:(List Int)):Option Int:=
 ob (iO v0 v1) fun x6=>
 bif !x6 then
 some ((-1))
 else
 ob (aE v1 5) fun x7=>
 ob (aE v1 4) fun x8=>
 ob (dS x7 x8) fun x9=>
 some x9
theorem uf (k:Nat) (v0_0 v0_1 v0_2 v0_3:Int) (v1:List Int):xC (k+5) none 64 [.agg [.lit (.int .i64 v0_0),.lit (.int .i64 v0_1),.lit (.int .i64 v0_2),.lit (.int .i64 v0_3)],.ro (List.map (aG .u64) v1)]=ob (iu (v0_0,v0_1,v0_2,v0_3) v1) fun r=>some ((.lit (.int .i64 r)),[]):=by
 rw [aH]
 unfold iu
 simp -implicitDefEqProofs only [aih,aho,↓syP,syA,syD,simprocAttr,syE,ah,ag,ae,syW,xQ,b9,f7,B3]
def dH (k:Nat) (v0:(Int×Int×Int×Int)) (v1:(List Int)) (v2:Int)  : Nat→Int→Int→List Int→Int→Nat→Option ((List Int)×Bool)
 | 0,_,_,_,_,_=>none
 | n+1,sB,sW,s51,sy,sK=>
 bif decide (sy<sW) then
 ob (fy (v0.1,v0.2.1,v0.2.2.1,v0.2.2.2) v2 (IntKind.u64.wrap (sB+IntKind.u64.wrap sy))) fun xP=>
 ob (aE v1 xP) fun xd=>
 ck (sK==1||sK==0) (
 bif room (s51++[xd]).length 8 then
 dH k v0 v1 v2  n (sB) (sW) (s51++[xd]) (IntKind.i64.wrap (sy+(1:Int))) (1)
 else
 none)
 else
 some ((s51),(true))
theorem lx (k:Nat) (v0_0 v0_1 v0_2 v0_3:Int) (v1:List Int) (v2:Int):∀ (n:Nat) (sB sW:Int) (s51:List Int) (sy:Int) (sK:Nat) ⦃sL:Int⦄ ⦃s33 sb:Bool⦄ ⦃sc:Int⦄ ⦃sR:Bool⦄ ⦃sP sk:Int⦄ ⦃sU sG:Bool⦄ ⦃sH:Nat⦄ ⦃j52:V⦄,rt none (itX (xX (xS (k+12)) 65 0 (k+12) false) Jh (3) (aw (xX (xS (k+12)) 65 0 (k+12) false) (av (xS (k+12)).P Tryz.f65) JC) n ⟨(.agg [.lit (.int .i64 v0_0),.lit (.int .i64 v0_1),.lit (.int .i64 v0_2),.lit (.int .i64 v0_3)]::.ro (List.map (aG IntKind.u64) v1)::.lit (.int .i64 v2)::.ptr 0 0 0 0::uu::uu::.own 1 0 0::.lit (.bool false)::.lit (.int .u64 sB)::.lit (.int .u64 sL)::.lit (.int .i64 sW)::.own 2 sH s51.length::j52::.agg [.lit (.int .i64 v0_0),.lit (.int .i64 v0_1),.lit (.int .i64 v0_2),.lit (.int .i64 v0_3)]::.lit (.bool s33)::.lit (.bool sb)::.lit (.bool false)::.ro (List.map (aG IntKind.u64) v1)::.lit (.int .i64 (↑v1.length:Int))::.agg [.lit (.int .i64 v0_0),.lit (.int .i64 v0_1),.lit (.int .i64 v0_2),.lit (.int .i64 v0_3)]::.lit (.int .i64 sc)::.lit (.bool sR)::.lit (.bool sR)::.lit (.bool false)::.lit (.int .i64 v2)::.lit (.bool (decide (v2<(0:Int))))::.lit (.bool (decide (v2<(0:Int))))::.lit (.bool false)::.lit (.int .i64 v2)::.ptr 0 0 0 0::.lit (.int .i64 v0_0)::.lit (.bool (decide (v0_0≤v2)))::.lit (.bool (decide (v0_0≤v2)))::.ro (List.map (aG IntKind.u64) v1)::.agg [.lit (.int .i64 v0_0),.lit (.int .i64 v0_1),.lit (.int .i64 v0_2),.lit (.int .i64 v0_3)]::.lit (.int .i64 v2)::.lit (.int .i64 sP)::.lit (.int .u64 sB)::.ro (List.map (aG IntKind.u64) v1)::.agg [.lit (.int .i64 v0_0),.lit (.int .i64 v0_1),.lit (.int .i64 v0_2),.lit (.int .i64 v0_3)]::.lit (.int .i64 v2)::.lit (.int .i64 sk)::.lit (.int .u64 sL)::.lit (.int .u64 sL)::.lit (.int .u64 sB)::.lit (.int .i64 sW)::.lit (.int .i64 sW)::.lit (.bool sU)::.lit (.bool false)::.lit (.int .i64 sW)::.ptr 0 0 0 1::.lit (.int .i64 v0_1)::.lit (.bool sG)::.lit (.bool sG)::.lit (.int .i64 sW)::.lit (.int .i64 sy)::.junk::.junk::.junk::.junk::.junk::.junk::.junk::.junk::.junk::.junk::.junk::.junk::.junk::.junk::.junk::uu::[]),[.box [.lit (.int .i64 v0_0),.lit (.int .i64 v0_1),.lit (.int .i64 v0_2),.lit (.int .i64 v0_3)],.rows 0 [] 0 true,.rows sK (List.map (aG IntKind.u64) s51) sH true]⟩)=ob (dH k (v0_0,v0_1,v0_2,v0_3) v1 v2  n sB sW s51 sy sK) fun r=>some ((.tup [.ro (List.map (aG .u64) r.1),.lit (.bool r.2)]),[]):=by
 intro n
 induction n with
 | zero=>intros;rfl
 | succ n ih=>
  intro sB sW s51 sy sK sL s33 sb sc sR sP sk sU sG sH j52
  rw [dH]
  simp -implicitDefEqProofs only [ahO,af8,afK,Lf,K7,LA,MP,LW,rv,rB,rO,↓syP,syA,syD,simprocAttr,syE,ah,ag,ae,syW,xQ,bT,fl,b9,kw,eS,nz,f7,TX,ih]
def kE (k:Nat) (v0:(Int×Int×Int×Int)) (v1:(List Int)) (v2:Int):Option ((List Int)×Bool):=
 ob (bU v0) fun xg=>
 bif !xg then
 some ([],false)
 else
 ob (dx v0) fun xV=>
 bif (↑v1.length:Int)!=xV then
 some ([],false)
 else
 bif decide (v2<0) then
 some ([],false)
 else
 bif decide (v0.1≤v2) then
 some ([],false)
 else
 ob (gp v0 v2) fun x79=>
 ob (aE v1 x79) fun xq=>
 ob (dc v0 v2) fun x81=>
 ob (aE v1 x81) fun x82=>
 ob (dS x82 xq) fun xp=>
 bif decide (xp<0) then
 some ([],false)
 else
 bif decide (v0.2.1<xp) then
 some ([],false)
 else
 dH k v0 v1 v2 (k+12) xq xp ([]) 0 0
theorem GM (k:Nat) (v0_0 v0_1 v0_2 v0_3:Int) (v1:List Int) (v2:Int):xC (k+13) none 65 [.agg [.lit (.int .i64 v0_0),.lit (.int .i64 v0_1),.lit (.int .i64 v0_2),.lit (.int .i64 v0_3)],.ro (List.map (aG .u64) v1),.lit (.int .i64 v2)]=ob (kE k (v0_0,v0_1,v0_2,v0_3) v1 v2) fun r=>some ((.tup [.ro (List.map (aG .u64) r.1),.lit (.bool r.2)]),[]):=by
 rw [aH]
 unfold kE
 have hl0:=fun (x87:Int) (x90:Int)=>lx k v0_0 v0_1 v0_2 v0_3 v1 v2 (k+12) (x87) (x90) ([]) ((0:Int)) (0)
 try simp -implicitDefEqProofs only [List.map_nil,List.length_nil] at hl0
 simp -implicitDefEqProofs only [ahO,af8,afK,Lf,K7,LA,MP,LW,rv,rB,rO,↓syP,syA,syD,simprocAttr,syE,ah,ag,ae,syW,xQ,bT,fl,b9,kw,eS,f7,lx k v0_0 v0_1 v0_2 v0_3 v1 v2,hl0]
 all_goals simp -implicitDefEqProofs only [List.map_nil]
def cN (k:Nat) (v0:Typ)  : Nat→Int→Int→Option Int
 | 0,_,_=>none
 | n+1,sC,s98=>
 bif decide (s98<v0.1.1) then
 ob (kE (k+22) (v0.1.1,v0.1.2.1,v0.1.2.2.1,v0.1.2.2.2) v0.2.2.1 s98) fun xz=>
 cN k v0  n (IntKind.i64.wrap (sC+(↑xz.1.length:Int))) (IntKind.i64.wrap (s98+(1:Int)))
 else
 some (sC)
theorem oK (k:Nat) (v0_0_0 v0_0_1 v0_0_2 v0_0_3:Int) (v0_1:Tyt) (v0_2:List Int) (v0_3:List Tyw) (v0_4:List Tys):∀ (n:Nat) (sC s98:Int) ⦃s18 s19:Bool⦄ ⦃sY:Int⦄ ⦃j94 j95 j96:V⦄,rt none (itX (xX (xS (k+35)) 26 0 (k+35) false) Je (1) (aw (xX (xS (k+35)) 26 0 (k+35) false) (av (xS (k+35)).P Tryz.f26) Io) n ⟨[.agg [.lit (.int .i64 v0_0_0),.lit (.int .i64 v0_0_1),.lit (.int .i64 v0_0_2),.lit (.int .i64 v0_0_3),.ro (List.map ao v0_1),.ro (List.map (aG IntKind.u64) v0_2),.ro (List.map aM v0_3),.ro (List.map bD v0_4)],.ptr 0 0 0 0,.lit (.int .i64 (0:Int)),.lit (.int .i64 sC),j94,j95,j96,.agg [.lit (.int .i64 v0_0_0),.lit (.int .i64 v0_0_1),.lit (.int .i64 v0_0_2),.lit (.int .i64 v0_0_3),.ro (List.map ao v0_1),.ro (List.map (aG IntKind.u64) v0_2),.ro (List.map aM v0_3),.ro (List.map bD v0_4)],.lit (.bool s18),.lit (.bool s19),.ptr 0 0 0 0,.agg [.lit (.int .i64 v0_0_0),.lit (.int .i64 v0_0_1),.lit (.int .i64 v0_0_2),.lit (.int .i64 v0_0_3)],.ptr 0 0 0 5,.ro (List.map (aG IntKind.u64) v0_2),.lit (.int .i64 sY),.ptr 0 0 0 0,.ptr 0 0 0 0,.lit (.int .i64 v0_0_0),.lit (.int .i64 s98),.junk,.junk,.junk,.junk,.junk,.junk,.junk,.junk,.junk,.junk,.junk,.junk,.junk,.junk,.junk,.junk,uu],[.box [.lit (.int .i64 v0_0_0),.lit (.int .i64 v0_0_1),.lit (.int .i64 v0_0_2),.lit (.int .i64 v0_0_3),.ro (List.map ao v0_1),.ro (List.map (aG IntKind.u64) v0_2),.ro (List.map aM v0_3),.ro (List.map bD v0_4)]]⟩)=ob (cN k ((v0_0_0,v0_0_1,v0_0_2,v0_0_3),v0_1,v0_2,v0_3,v0_4)  n sC s98) fun r=>some ((.lit (.int .i64 r)),[]):=by
 intro n
 induction n with
 | zero=>intros;rfl
 | succ n ih=>
  intro sC s98 s18 s19 sY j94 j95 j96
  rw [cN]
  simp -implicitDefEqProofs only [ahJ,aft,adD,NJ,rj,↓syP,syA,syD,simprocAttr,syE,ah,ag,ae,syW,xQ,cy,uf,GM,TZ,ih]
def fm (k:Nat) (v0:Typ):Option Int:=
 ob (du k v0) fun x104=>
 bif !x104 then
 some 0
 else
 ob (iu v0.1 v0.2.2.1) fun x105=>
 cN k v0 (k+35) x105 0
theorem Dd (k:Nat) (v0_0_0 v0_0_1 v0_0_2 v0_0_3:Int) (v0_1:Tyt) (v0_2:List Int) (v0_3:List Tyw) (v0_4:List Tys):xC (k+36) none 26 [.agg [.lit (.int .i64 v0_0_0),.lit (.int .i64 v0_0_1),.lit (.int .i64 v0_0_2),.lit (.int .i64 v0_0_3),.ro (List.map ao v0_1),.ro (List.map (aG .u64) v0_2),.ro (List.map aM v0_3),.ro (List.map bD v0_4)]]=ob (fm k ((v0_0_0,v0_0_1,v0_0_2,v0_0_3),v0_1,v0_2,v0_3,v0_4)) fun r=>some ((.lit (.int .i64 r)),[]):=by
 rw [aH]
 unfold fm
 simp -implicitDefEqProofs only [ahJ,aft,adD,NJ,rj,↓syP,syA,syD,simprocAttr,syE,ah,ag,ae,syW,xQ,cy,uf,oK k v0_0_0 v0_0_1 v0_0_2 v0_0_3 v0_1 v0_2 v0_3 v0_4]
end Go.Ab
set_option maxRecDepth 100000
set_option linter.unusedVariables false
set_option linter.unusedSimpArgs false
namespace Go.Ab
open Go.Proofs
def aB (k:Nat) (v0:(List Tys))  : Nat→Int→Option Int
 | 0,_=>none
 | n+1,s6=>
 bif decide (s6<(↑v0.length:Int)) then
 ob (idx v0 s6) fun xZ=>
 ob (gw (xZ.1,xZ.2.1,xZ.2.2.1,xZ.2.2.2.1,xZ.2.2.2.2.1,xZ.2.2.2.2.2.1,xZ.2.2.2.2.2.2.1,xZ.2.2.2.2.2.2.2.1,xZ.2.2.2.2.2.2.2.2)) fun x12=>
 bif x12 then
 some (s6)
 else
 aB k v0  n (IntKind.i64.wrap (s6+(1:Int)))
 else
 some ((-1:Int))
theorem ea (k:Nat) (v0:List Tys):∀ (n:Nat) (s6:Int) ⦃j5:V⦄,rt none (itX (xX (xS (k+8)) 96 0 (k+8) false) Cc (0) (aw (xX (xS (k+8)) 96 0 (k+8) false) (av (xS (k+8)).P Tryz.f96) BQ) n ⟨[.ro (List.map bD v0),.fn (Fn.func (28:FuncId)) [] [],uu,uu,.lit (.int .i64 (0:Int)),j5,.ro (List.map bD v0),.lit (.int .i64 (↑v0.length:Int)),.lit (.int .i64 s6),.junk,.junk,.junk,.junk,.junk,.junk,.junk,.junk,.junk,.junk],[]⟩)=ob (aB k v0  n s6) fun r=>some ((.lit (.int .i64 r)),[]):=by
 intro n
 induction n with
 | zero=>intros;rfl
 | succ n ih=>
  intro s6 j5
  rw [aB]
  simp -implicitDefEqProofs only [J2,Iu,Jw,li,cL,↓syP,syA,syD,simprocAttr,syE,ah,ag,ae,syW,xQ,Dh,Iq,ih]
def bf (k:Nat) (v0:(List Tys)):Option Int:=
 aB k v0 (k+8) 0
theorem fG (k:Nat) (v0:List Tys):xC (k+9) none 96 [.ro (List.map bD v0),.fn (Fn.func (28:FuncId)) [] []]=ob (bf k v0) fun r=>some ((.lit (.int .i64 r)),[]):=by
 rw [aH]
 unfold bf
 simp -implicitDefEqProofs only [J2,Iu,Jw,li,cL,↓syP,syA,syD,simprocAttr,syE,ah,ag,ae,syW,xQ,ea k v0]
def aT (k:Nat) (v0:(List Tys)):Option Bool:=
 ob (bf (k+8) v0) fun x14=>
 some (decide (0≤x14))
theorem cA (k:Nat) (v0:List Tys):xC (k+18) none 52 [.ro (List.map bD v0),.fn (Fn.func (28:FuncId)) [] []]=ob (aT k v0) fun r=>some ((.lit (.bool r)),[]):=by
 rw [aH]
 unfold aT
 simp -implicitDefEqProofs only [P5,OT,J2,Iu,Jw,li,cL,↓syP,syA,syD,simprocAttr,syE,ah,ag,ae,syW,xQ,fG]
def cS (k : Nat) (v0 : ((Int × Int × Int × Int) × List (Int × List Int) × List Int × List (Int × List (Int × Int × Int) × (Int × Int × Int × Int × Int × Int × Int) × Int × Int) × List (Int × List Int × Int × Int × Int × Int × Int × Int × Int)))  : Nat → Int → Option Bool
 | 0,_ => none
 | n + 1,sB =>
 bif decide (sB < (↑v0.2.2.2.1.length : Int)) then
 ob (idx v0.2.2.2.1 sB) fun xO =>
 ob (gC (xO.1,xO.2.1,(xO.2.2.1.1,xO.2.2.1.2.1,xO.2.2.1.2.2.1,xO.2.2.1.2.2.2.1,xO.2.2.1.2.2.2.2.1,xO.2.2.1.2.2.2.2.2.1,xO.2.2.1.2.2.2.2.2.2),xO.2.2.2.1,xO.2.2.2.2)) fun xf =>
 bif !xf then
 some (false)
 else
 ob (fB (v0.1.1,v0.1.2.1,v0.1.2.2.1,v0.1.2.2.2) sB) fun x43 =>
 ob (aE v0.2.2.1 x43) fun x44 =>
 bif x44 != (0 : Int) then
 some (false)
 else
 cS k v0  n (IntKind.i64.wrap (sB + (1 : Int)))
 else
 some (true)
theorem oe (k:Nat) (v0_0_0 v0_0_1 v0_0_2 v0_0_3:Int) (v0_1:Tyt) (v0_2:List Int) (v0_3:List Tyw) (v0_4:List Tys):∀ (n:Nat) (sB:Int) ⦃s19 sv sz:Bool⦄ ⦃j28 j29:V⦄,rt none (itX (xX (xS (k+35)) 25 0 (k+35) false) un (1) (aw (xX (xS (k+35)) 25 0 (k+35) false) (av (xS (k+35)).P Tryz.f25) Iw) n ⟨[.agg [.lit (.int .i64 v0_0_0),.lit (.int .i64 v0_0_1),.lit (.int .i64 v0_0_2),.lit (.int .i64 v0_0_3),.ro (List.map ao v0_1),.ro (List.map (aG IntKind.u64) v0_2),.ro (List.map aM v0_3),.ro (List.map bD v0_4)],.ptr 0 0 0 0,.lit (.bool false),j28,j29,.agg [.lit (.int .i64 v0_0_0),.lit (.int .i64 v0_0_1),.lit (.int .i64 v0_0_2),.lit (.int .i64 v0_0_3),.ro (List.map ao v0_1),.ro (List.map (aG IntKind.u64) v0_2),.ro (List.map aM v0_3),.ro (List.map bD v0_4)],.lit (.bool s19),.lit (.bool sv),.lit (.bool false),.ptr 0 0 0 7,.ro (List.map bD v0_4),.lit (.bool sz),.lit (.bool sz),.ptr 0 0 0 6,.ro (List.map aM v0_3),.lit (.int .i64 (↑v0_3.length:Int)),.lit (.int .i64 sB),.junk,.junk,.junk,.junk,.junk,.junk,.junk,.junk,.junk,.junk,.junk,.junk,.junk,.junk,.junk,.junk,.junk,.junk],[.box [.lit (.int .i64 v0_0_0),.lit (.int .i64 v0_0_1),.lit (.int .i64 v0_0_2),.lit (.int .i64 v0_0_3),.ro (List.map ao v0_1),.ro (List.map (aG IntKind.u64) v0_2),.ro (List.map aM v0_3),.ro (List.map bD v0_4)]]⟩)=ob (cS k ((v0_0_0,v0_0_1,v0_0_2,v0_0_3),v0_1,v0_2,v0_3,v0_4)  n sB) fun r=>some ((.lit (.bool r)),[]):=by
 intro n
 induction n with
 | zero=>intros;rfl
 | succ n ih=>
  intro sB s19 sv sz j28 j29
  rw [cS]
  simp -implicitDefEqProofs only [ahM,afY,adk,Mi,L8,Li,ru,r9,r6,P5,OT,J2,Iu,Jw,li,cL,↓syP,syA,syD,simprocAttr,syE,ah,ag,ae,syW,xQ,b9,rC,DW,cy,cA,TM,ih]
def ft (k:Nat) (v0:Typ):Option Bool:=
 ob (du k v0) fun x45=>
 bif !x45 then
 some false
 else
 ob (aT (k+17) v0.2.2.2.2) fun xk=>
 bif xk then
 some false
 else
 cS k v0 (k+35) 0
theorem pQ (k:Nat) (v0_0_0 v0_0_1 v0_0_2 v0_0_3:Int) (v0_1:Tyt) (v0_2:List Int) (v0_3:List Tyw) (v0_4:List Tys):xC (k+36) none 25 [.agg [.lit (.int .i64 v0_0_0),.lit (.int .i64 v0_0_1),.lit (.int .i64 v0_0_2),.lit (.int .i64 v0_0_3),.ro (List.map ao v0_1),.ro (List.map (aG .u64) v0_2),.ro (List.map aM v0_3),.ro (List.map bD v0_4)]]=ob (ft k ((v0_0_0,v0_0_1,v0_0_2,v0_0_3),v0_1,v0_2,v0_3,v0_4)) fun r=>some ((.lit (.bool r)),[]):=by
 rw [aH]
 unfold ft
 simp -implicitDefEqProofs only [ahM,afY,adk,Mi,L8,Li,ru,r9,r6,P5,OT,J2,Iu,Jw,li,cL,↓syP,syA,syD,simprocAttr,syE,ah,ag,ae,syW,xQ,cy,cA,oe k v0_0_0 v0_0_1 v0_0_2 v0_0_3 v0_1 v0_2 v0_3 v0_4]
def i5 (v0:Tys):Option Bool:=
 some (decide (0<(↑v0.2.1.length:Int)))
theorem u9 (k:Nat) (v0_0:Int) (v0_1:List Int) (v0_2_0 v0_2_1 v0_2_2 v0_2_3 v0_2_4 v0_2_5 v0_2_6:Int):xC (k+1) none 67 [.agg [.lit (.int .i64 v0_0),.ro (List.map (aG .i64) v0_1),.lit (.int .i64 v0_2_0),.lit (.int .i64 v0_2_1),.lit (.int .i64 v0_2_2),.lit (.int .u64 v0_2_3),.lit (.int .u64 v0_2_4),.lit (.int .u64 v0_2_5),.lit (.int .i64 v0_2_6)]]=ob (i5 (v0_0,v0_1,(v0_2_0,v0_2_1,v0_2_2,v0_2_3,v0_2_4,v0_2_5,v0_2_6))) fun r=>some ((.lit (.bool r)),[]):=by
 rw [aH]
 unfold i5
 simp -implicitDefEqProofs only [ahk,af6,↓syP,syA,syD,simprocAttr,syE,ah,ag,ae,syW,xQ]
def aY (k:Nat) (v0:(List Tys))  : Nat→Int→Option Int
 | 0,_=>none
 | n+1,s56=>
 bif decide (s56<(↑v0.length:Int)) then
 ob (idx v0 s56) fun xa=>
 ob (i5 (xa.1,xa.2.1,xa.2.2.1,xa.2.2.2.1,xa.2.2.2.2.1,xa.2.2.2.2.2.1,xa.2.2.2.2.2.2.1,xa.2.2.2.2.2.2.2.1,xa.2.2.2.2.2.2.2.2)) fun x62=>
 bif x62 then
 some (s56)
 else
 aY k v0  n (IntKind.i64.wrap (s56+(1:Int)))
 else
 some ((-1:Int))
theorem dQ (k:Nat) (v0:List Tys):∀ (n:Nat) (s56:Int) ⦃j55:V⦄,rt none (itX (xX (xS (k+8)) 96 0 (k+8) false) Cc (0) (aw (xX (xS (k+8)) 96 0 (k+8) false) (av (xS (k+8)).P Tryz.f96) BQ) n ⟨[.ro (List.map bD v0),.fn (Fn.func (67:FuncId)) [] [],uu,uu,.lit (.int .i64 (0:Int)),j55,.ro (List.map bD v0),.lit (.int .i64 (↑v0.length:Int)),.lit (.int .i64 s56),.junk,.junk,.junk,.junk,.junk,.junk,.junk,.junk,.junk,.junk],[]⟩)=ob (aY k v0  n s56) fun r=>some ((.lit (.int .i64 r)),[]):=by
 intro n
 induction n with
 | zero=>intros;rfl
 | succ n ih=>
  intro s56 j55
  rw [aY]
  simp -implicitDefEqProofs only [J2,Iu,Jw,li,cL,↓syP,syA,syD,simprocAttr,syE,ah,ag,ae,syW,xQ,u9,Iq,ih]
def bu (k:Nat) (v0:(List Tys)):Option Int:=
 aY k v0 (k+8) 0
theorem fc (k:Nat) (v0:List Tys):xC (k+9) none 96 [.ro (List.map bD v0),.fn (Fn.func (67:FuncId)) [] []]=ob (bu k v0) fun r=>some ((.lit (.int .i64 r)),[]):=by
 rw [aH]
 unfold bu
 simp -implicitDefEqProofs only [J2,Iu,Jw,li,cL,↓syP,syA,syD,simprocAttr,syE,ah,ag,ae,syW,xQ,dQ k v0]
def bl (k:Nat) (v0:(List Tys)):Option Bool:=
 ob (bu (k+8) v0) fun x64=>
 some (decide (0≤x64))
theorem eC (k:Nat) (v0:List Tys):xC (k+18) none 52 [.ro (List.map bD v0),.fn (Fn.func (67:FuncId)) [] []]=ob (bl k v0) fun r=>some ((.lit (.bool r)),[]):=by
 rw [aH]
 unfold bl
 simp -implicitDefEqProofs only [P5,OT,J2,Iu,Jw,li,cL,↓syP,syA,syD,simprocAttr,syE,ah,ag,ae,syW,xQ,fc]
def mn (k:Nat) (v0:Typ):Option Bool:=
 ob (ft k v0) fun x69=>
 bif x69 then
 ob (aE v0.2.2.1 0) fun xl=>
 bif xl==0 then
 ob (bl (k+18) v0.2.2.2.2) fun xm=>
 some (!xm)
 else
 some false
 else
 some false
theorem pg (k:Nat) (v0_0_0 v0_0_1 v0_0_2 v0_0_3:Int) (v0_1:Tyt) (v0_2:List Int) (v0_3:List Tyw) (v0_4:List Tys):xC (k+37) none 29 [.agg [.lit (.int .i64 v0_0_0),.lit (.int .i64 v0_0_1),.lit (.int .i64 v0_0_2),.lit (.int .i64 v0_0_3),.ro (List.map ao v0_1),.ro (List.map (aG .u64) v0_2),.ro (List.map aM v0_3),.ro (List.map bD v0_4)]]=ob (mn k ((v0_0_0,v0_0_1,v0_0_2,v0_0_3),v0_1,v0_2,v0_3,v0_4)) fun r=>some ((.lit (.bool r)),[]):=by
 rw [aH]
 unfold mn
 simp -implicitDefEqProofs only [aiA,ahh,TA,TL,Ce,P5,OT,ahk,af6,J2,Iu,Jw,li,cL,↓syP,syA,syD,simprocAttr,syE,ah,ag,ae,syW,xQ,b9,pQ,eC]
end Go.Ab
