import Derived.Test.YtblpbpnilkfjhaaGreatR6GY
import Derived.Test.YtblpbpnilkfjhaaGreatR6BPl
set_option linter.unusedVariables false
set_option linter.unusedSimpArgs false
set_option maxRecDepth 100000
set_option linter.unusedVariables false
set_option linter.unusedSimpArgs false
namespace Go.Ab
open Go.Proofs
def gN (k:Nat) (v0:Typ)  : Nat→Int→Int→Option Int
 | 0,_,_=>none
 | n+1,s4,s6=>
 bif decide (s6<(↑v0.2.2.2.2.length:Int)) then
 ob (idx v0.2.2.2.2 s6) fun x11=>
 gN k v0  n (IntKind.i64.wrap (s4+(↑x11.2.1.length:Int))) (IntKind.i64.wrap (s6+(1:Int)))
 else
 ob (eq k ((v0.1.1,v0.1.2.1,v0.1.2.2.1,v0.1.2.2.2),v0.2.1,v0.2.2.1,v0.2.2.2.1,v0.2.2.2.2)) fun x12=>
 bif !x12 then
 some ((0:Int))
 else
 some (s4)
theorem ra (k:Nat) (v0_0_0:Int) (v0_0_1:Int) (v0_0_2:Int) (v0_0_3:Int) (v0_1:Tyt) (v0_2:(List Int)) (v0_3:(List Tyw)) (v0_4:(List Tys)):∀ (n:Nat) (s4:Int) (s6:Int) ⦃j5:V⦄,rt none (itX (xX (xS (k+35)) 39 0 (k+35) false) Gz (1) (au (xX (xS (k+35)) 39 0 (k+35) false) (ao (xS (k+35)).P Tryz.f39) HQ) n ⟨[.agg [.lit (.int .i64 v0_0_0),.lit (.int .i64 v0_0_1),.lit (.int .i64 v0_0_2),.lit (.int .i64 v0_0_3),.ro (List.map an v0_1),.ro (List.map (aF IntKind.u64) v0_2),.ro (List.map aG v0_3),.ro (List.map bn v0_4)],.ptr 0 0 0 0,.lit (.int .i64 (0:Int)),.lit (.int .i64 s4),uu,j5,.ptr 0 0 0 7,.ro (List.map bn v0_4),.lit (.int .i64 (↑v0_4.length:Int)),.lit (.int .i64 s6),.junk,.junk,.junk,.junk,.junk,.junk,.junk,.junk,.junk,uu,uu,uu,uu],[.box [.lit (.int .i64 v0_0_0),.lit (.int .i64 v0_0_1),.lit (.int .i64 v0_0_2),.lit (.int .i64 v0_0_3),.ro (List.map an v0_1),.ro (List.map (aF IntKind.u64) v0_2),.ro (List.map aG v0_3),.ro (List.map bn v0_4)]]⟩)=ob (gN k ((v0_0_0,v0_0_1,v0_0_2,v0_0_3),v0_1,v0_2,v0_3,v0_4)  n s4 s6) fun r=>some ((.lit (.int .i64 r)),[]):=by
 intro n
 induction n with
 | zero=>intros;rfl
 | succ n ih=>
  intro s4 s6 j5
  rw [gN]
  simp (maxSteps:=2000000) -implicitDefEqProofs only [agI,agb,ae0,Lg,pW,↓syP,syA,rtN,a7,V.pure,nsh,xy,V.kill,eE,spl,V.shift,di,V.scal,kF,aF,fA,aD,simprocAttr,syQ,lA,dK,cA,bn,aG,fm,dC,ah,ag,ae,syW,xFP,nc,yI,xF,iA,iE,ip,iy,En,dD,iH,nn,xR,xA,m9,iG,m8,io,nk,iw,ni,iq,m7,ix,iu,fw,iB,dG,ng,iD,nh,iF,na,iJ,nj,ir,nf,iK,ij,ft,dI,SG,ih]
  all_goals simp -implicitDefEqProofs only [List.map_nil]
def wZ (k:Nat) (v0:Typ):Option Int:=
 gN k v0 (k+35) ((0:Int)) ((0:Int))
theorem FQ (k:Nat) (v0_0_0:Int) (v0_0_1:Int) (v0_0_2:Int) (v0_0_3:Int) (v0_1:Tyt) (v0_2:(List Int)) (v0_3:(List Tyw)) (v0_4:(List Tys)):xC (k+36) none 39 [(.agg [(.lit (.int .i64 v0_0_0)),(.lit (.int .i64 v0_0_1)),(.lit (.int .i64 v0_0_2)),(.lit (.int .i64 v0_0_3)),(.ro (List.map an v0_1)),(.ro (List.map (aF .u64) v0_2)),(.ro (List.map aG v0_3)),(.ro (List.map bn v0_4))])]=ob (wZ k ((v0_0_0,v0_0_1,v0_0_2,v0_0_3),v0_1,v0_2,v0_3,v0_4)) fun r=>some ((.lit (.int .i64 r)),[]):=by
 rw [aH]
 unfold wZ
 simp (maxSteps:=2000000) -implicitDefEqProofs only [agI,agb,ae0,Lg,pW,↓syP,syA,rtN,a7,V.pure,nsh,xy,V.kill,eE,spl,V.shift,di,V.scal,kF,aF,fA,aD,simprocAttr,syQ,lA,dK,cA,bn,aG,fm,dC,ah,ag,ae,syW,xFP,nc,yI,xF,iA,iE,ip,iy,En,dD,iH,nn,xR,xA,m9,iG,m8,io,nk,iw,ni,iq,m7,ix,iu,fw,iB,dG,ng,iD,nh,iF,na,iJ,nj,ir,nf,iK,ij,ft,ra k v0_0_0 v0_0_1 v0_0_2 v0_0_3 v0_1 v0_2 v0_3 v0_4]
 all_goals simp -implicitDefEqProofs only [List.map_nil]
end Go.Ab
