import Derived.Test.YtblpbpnilkfjhaaGreatR6GRk
import Derived.Test.YtblpbpnilkfjhaaGreatR6FacP
import Derived.Test.YtblpbpnilkfjhaaGreatR6BPl
set_option linter.unusedVariables false
set_option linter.unusedSimpArgs false
set_option maxRecDepth 100000
set_option linter.unusedVariables false
set_option linter.unusedSimpArgs false
namespace Go.Ab
open Go.Proofs
def eA (k:Nat) (v0:Typ)  : Nat→Int→Int→Int→Int→Tyt→List Int→List Tyw→List Tys→List Tyw→List Tys→Option (Typ×Tye)
 | 0,_,_,_,_,_,_,_,_,_,_=>none
 | n+1,s8,s9,s10,s11,s12,s13,s14,s15,s18,s19=>
 ck (decide (s14.length≤s18.length)) (
 ck (decide (s15.length≤s19.length)) (
 some ((((s8),(s9),(s10),(s11)),(s12),(s13),(List.take s14.length s18),(List.take s15.length s19)),[])))
def eM (k:Nat) (v0:Typ):Option (Typ×Tye):=
 ob (dn (k+59) v0.2.1) fun x26=>
 ob (aL 8 v0.2.2.1) fun x27=>
 ob (aL 104 v0.2.2.2.1) fun x28=>
 ob (aL 88 v0.2.2.2.2) fun x29=>
 ob (bN k (k+61) v0.1.1 v0.1.2.1 v0.1.2.2.1 v0.1.2.2.2 x26 x27 x28 x29 (↑x28.length:Int) (0:Int) x28) fun x30=>
 ck (decide (x30.2.2.2.2.2.2.1.length≤x30.2.2.2.2.2.2.2.2.1.length)) (
 ck (decide (x30.2.2.2.2.2.2.2.1.length≤x30.2.2.2.2.2.2.2.2.2.length)) (
 ob (eq (k+27) ((v0.1.1,v0.1.2.1,v0.1.2.2.1,v0.1.2.2.2),v0.2.1,v0.2.2.1,v0.2.2.2.1,v0.2.2.2.2)) fun x31=>
 bif !x31 then
 ck (decide (x30.2.2.2.2.2.2.1.length≤(List.take x30.2.2.2.2.2.2.1.length x30.2.2.2.2.2.2.2.2.1).length)) (
 ck (decide (x30.2.2.2.2.2.2.2.1.length≤(List.take x30.2.2.2.2.2.2.2.1.length x30.2.2.2.2.2.2.2.2.2).length)) (
 some ((((x30.1),(x30.2.1),(x30.2.2.1),(x30.2.2.2.1)),(x30.2.2.2.2.1),(x30.2.2.2.2.2.1),(List.take x30.2.2.2.2.2.2.1.length (List.take x30.2.2.2.2.2.2.1.length x30.2.2.2.2.2.2.2.2.1)),(List.take x30.2.2.2.2.2.2.2.1.length (List.take x30.2.2.2.2.2.2.2.1.length x30.2.2.2.2.2.2.2.2.2))),[])))
 else
 eA k v0 (k+62) (x30.1) (x30.2.1) (x30.2.2.1) (x30.2.2.2.1) (x30.2.2.2.2.1) (x30.2.2.2.2.2.1) (x30.2.2.2.2.2.2.1) (x30.2.2.2.2.2.2.2.1) (List.take x30.2.2.2.2.2.2.1.length x30.2.2.2.2.2.2.2.2.1) (List.take x30.2.2.2.2.2.2.2.1.length x30.2.2.2.2.2.2.2.2.2)))
theorem oN (k:Nat) (v0_0_0:Int) (v0_0_1:Int) (v0_0_2:Int) (v0_0_3:Int) (v0_1:Tyt) (v0_2:(List Int)) (v0_3:(List Tyw)) (v0_4:(List Tys)):∀ (n:Nat) (s8:Int) (s9:Int) (s10:Int) (s11:Int) (s12:Tyt) (s13:List Int) (s14:List Tyw) (s15:List Tys) (s18:List Tyw) (s19:List Tys) ⦃s16:Bool⦄ ⦃s17:Bool⦄,rt (some fun i=>i==1) (itX (xX (xS (k+62)) 17 0 (k+62) false) uM (15) (au (xX (xS (k+62)) 17 0 (k+62) false) (ao (xS (k+62)).P Tryz.f17) Aa) n ⟨[.agg [.lit (.int .i64 v0_0_0),.lit (.int .i64 v0_0_1),.lit (.int .i64 v0_0_2),.lit (.int .i64 v0_0_3),.ro (List.map an v0_1),.ro (List.map (aF IntKind.u64) v0_2),.ro (List.map aG v0_3),.ro (List.map bn v0_4)],.nil,.ptr 0 0 0 0,uu,.ptr 5 0 0 0,.own 6 0 0,.ptr 13 0 0 0,.own 14 0 0,uu,uu,.agg [.lit (.int .i64 v0_0_0),.lit (.int .i64 v0_0_1),.lit (.int .i64 v0_0_2),.lit (.int .i64 v0_0_3),.ro (List.map an v0_1),.ro (List.map (aF IntKind.u64) v0_2),.ro (List.map aG v0_3),.ro (List.map bn v0_4)],.agg [.lit (.int .i64 s8),.lit (.int .i64 s9),.lit (.int .i64 s10),.lit (.int .i64 s11),.ro (List.map an s12),.ro (List.map (aF IntKind.u64) s13),.own 7 0 s14.length,.own 8 0 s15.length],.agg [.lit (.int .i64 v0_0_0),.lit (.int .i64 v0_0_1),.lit (.int .i64 v0_0_2),.lit (.int .i64 v0_0_3),.ro (List.map an v0_1),.ro (List.map (aF IntKind.u64) v0_2),.ro (List.map aG v0_3),.ro (List.map bn v0_4)],.lit (.bool s16),.lit (.bool s17),uu,.nil,.lit (.int .i64 (0:Int)),.lit (.int .i64 (0:Int)),.junk,.junk,.junk,.junk,.junk,.junk,.junk,.junk,.junk,.junk,.junk,.junk,.junk,.junk,.junk,.junk,uu,uu],[.box [.lit (.int .i64 v0_0_0),.lit (.int .i64 v0_0_1),.lit (.int .i64 v0_0_2),.lit (.int .i64 v0_0_3),.ro (List.map an v0_1),.ro (List.map (aF IntKind.u64) v0_2),.ro (List.map aG v0_3),.ro (List.map bn v0_4)],.rows 0 [] 0 true,.rows 0 [] 0 true,.rows 0 [] 0 true,.rows 0 [] 0 true,.box [.lit (.int .i64 (0:Int)),.lit (.int .i64 (0:Int)),.lit (.int .i64 (0:Int)),.lit (.int .i64 (0:Int)),.own 1 0 0,.own 2 0 0,.own 3 0 0,.own 4 0 0],.rows 0 [] 0 true,.rows 11 (List.map aG s18) 0 true,.rows 9 (List.map bn s19) 0 true,.rows 0 [] 0 true,.rows 0 [] 0 true,.rows 0 [] 0 true,.rows 0 [] 0 true,.box [.lit (.int .i64 s8),.lit (.int .i64 s9),.lit (.int .i64 s10),.lit (.int .i64 s11),.ro (List.map an s12),.ro (List.map (aF IntKind.u64) s13),.own 7 0 s14.length,.own 8 0 s15.length],.rows 0 [] 0 true]⟩)=ob (eA k ((v0_0_0,v0_0_1,v0_0_2,v0_0_3),v0_1,v0_2,v0_3,v0_4)  n s8 s9 s10 s11 s12 s13 s14 s15 s18 s19) fun r=>some ((.tup [(.agg [(.lit (.int .i64 r.1.1.1)),(.lit (.int .i64 r.1.1.2.1)),(.lit (.int .i64 r.1.1.2.2.1)),(.lit (.int .i64 r.1.1.2.2.2)),(.ro (List.map an r.1.2.1)),(.ro (List.map (aF .u64) r.1.2.2.1)),(.ro (List.map aG r.1.2.2.2.1)),(.ro (List.map bn r.1.2.2.2.2))]),.own 0 0 0]),[.rows 0 [] 0 true]):=by
 intro n
 induction n with
 | zero=>intros;rfl
 | succ n ih=>
  intro s8 s9 s10 s11 s12 s13 s14 s15 s18 s19 s16 s17
  rw [eA]
  simp (maxSteps:=2000000) -implicitDefEqProofs only [RF,Or,Q0,oO,fd,RM,NY,QQ,pd,pi,eZ,eY,aH (g:=41),Rb,PZ,oV,fi,RZ,Nh,RH,Ng,RB,OQ,↓syP,syA,rtN,a7,V.pure,nsh,xy,V.kill,eE,spl,V.shift,di,V.scal,kF,aF,fA,aD,simprocAttr,syQ,lA,dK,cA,bn,aG,fm,dC,ah,ag,ae,syW,r7,r8,oL,xFP,nc,yI,xF,iA,iE,ip,iy,En,dD,iH,nn,xR,xA,m9,iG,m8,io,nk,iw,ni,iq,m7,ix,iu,fw,iB,dG,ng,iD,nh,iF,na,iJ,nj,ir,nf,iK,ij,ft,cU,dI,cu,Hq,ih]
  all_goals try simp -implicitDefEqProofs only [List.map_nil]
theorem dr (k:Nat) (v0_0_0:Int) (v0_0_1:Int) (v0_0_2:Int) (v0_0_3:Int) (v0_1:Tyt) (v0_2:(List Int)) (v0_3:(List Tyw)) (v0_4:(List Tys)):xC (k+63) (some fun i=>i==1) 17 [(.agg [(.lit (.int .i64 v0_0_0)),(.lit (.int .i64 v0_0_1)),(.lit (.int .i64 v0_0_2)),(.lit (.int .i64 v0_0_3)),(.ro (List.map an v0_1)),(.ro (List.map (aF .u64) v0_2)),(.ro (List.map aG v0_3)),(.ro (List.map bn v0_4))]),.nil]=ob (eM k ((v0_0_0,v0_0_1,v0_0_2,v0_0_3),v0_1,v0_2,v0_3,v0_4)) fun r=>some ((.tup [(.agg [(.lit (.int .i64 r.1.1.1)),(.lit (.int .i64 r.1.1.2.1)),(.lit (.int .i64 r.1.1.2.2.1)),(.lit (.int .i64 r.1.1.2.2.2)),(.ro (List.map an r.1.2.1)),(.ro (List.map (aF .u64) r.1.2.2.1)),(.ro (List.map aG r.1.2.2.2.1)),(.ro (List.map bn r.1.2.2.2.2))]),.own 0 0 0]),[.rows 0 [] 0 true]):=by
 rw [aH]
 unfold eM
 simp (maxSteps:=2000000) -implicitDefEqProofs only [RF,Or,Q0,oO,fd,RM,NY,QQ,pd,pi,eZ,eY,aH (g:=41),Rb,PZ,oV,fi,RZ,Nh,RH,Ng,RB,OQ,↓syP,syA,rtN,a7,V.pure,nsh,xy,V.kill,eE,spl,V.shift,di,V.scal,kF,aF,fA,aD,simprocAttr,syQ,lA,dK,cA,bn,aG,fm,dC,ah,ag,ae,syW,r7,r8,oL,xFP,nc,yI,xF,iA,iE,ip,iy,En,dD,iH,nn,xR,xA,m9,iG,m8,io,nk,iw,ni,iq,m7,ix,iu,fw,iB,dG,ng,iD,nh,iF,na,iJ,nj,ir,nf,iK,ij,ft,cU,dI,cu,oN k v0_0_0 v0_0_1 v0_0_2 v0_0_3 v0_1 v0_2 v0_3 v0_4]
 all_goals try simp -implicitDefEqProofs only [List.map_nil]
end Go.Ab
