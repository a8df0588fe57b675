import Derived.Test.YtblpbpnilkfjhaaGreatR6GY
import Derived.Test.YtblpbpnilkfjhaaGreatR6BPl
import Derived.Test.YtblpbpnilkfjhaaGreatR6GRk
import Derived.Test.YtblpbpnilkfjhaaGreatR6GRn
set_option linter.unusedVariables false
set_option linter.unusedSimpArgs false
set_option maxRecDepth 100000
set_option linter.unusedVariables false
set_option linter.unusedSimpArgs false
namespace Go.Ab
open Go.Proofs
def cW (k:Nat) (v0:Int) (v1:Int) (v2:Int)  : Nat→Tye→Nat→Int→Option Tye
 | 0,_,_,_=>none
 | n+1,s38,s40,s42=>
 bif decide (s42<v1) then
 ck (s40==3||s40==0) (
 bif room (s38++[((1:Int),s42,v2)]).length 24 then
 cW k v0 v1 v2  n (s38++[((1:Int),s42,v2)]) (3) (IntKind.i64.wrap (s42+(1:Int)))
 else
 none)
 else
 some (s38)
theorem oU (k:Nat) (v0:Int) (v1:Int) (v2:Int):∀ (n:Nat) (s38:Tye) (s40:Nat) (s42:Int) ⦃s31:Bool⦄ ⦃s32:Bool⦄ ⦃s33:Bool⦄ ⦃s34:Bool⦄ ⦃s37:Nat⦄ ⦃j39 j41:V⦄,rt none (itX (xX (xS (k+1)) 113 0 (k+1) false) Ce (2) (au (xX (xS (k+1)) 113 0 (k+1) false) (ao (xS (k+1)).P Tryz.f113) B6) n ⟨[.lit (.int .i64 v0),.lit (.int .i64 v1),.lit (.int .u64 v2),uu,uu,uu,.own 0 0 0,.own 1 s37 s38.length,j39,j41,.lit (.int .i64 v0),.lit (.bool s31),.lit (.bool s32),.lit (.bool false),.lit (.int .i64 v1),.lit (.bool s33),.lit (.bool s34),.lit (.bool s34),.lit (.int .i64 v0),.junk,.junk,.junk,.junk,.junk,.junk,.junk,.junk,.junk,.junk,.lit (.int .i64 v1),.lit (.int .i64 s42),.junk,.junk,.junk,.junk,.junk,.junk,.junk,.junk,.junk,uu],[.rows 0 [] 0 true,.rows s40 (List.map fX s38) s37 true]⟩)=ob (cW k v0 v1 v2  n s38 s40 s42) fun r=>some ((.ro (List.map fX r)),[]):=by
 intro n
 induction n with
 | zero=>intros;rfl
 | succ n ih=>
  intro s38 s40 s42 s31 s32 s33 s34 s37 j39 j41
  rw [cW]
  simp (maxSteps:=2000000) -implicitDefEqProofs only [Wh,Pq,O0,Bv,BQ,A3,mf,lU,l9,↓syP,syA,rtN,a7,V.pure,nsh,xy,V.kill,eE,spl,V.shift,di,V.scal,kF,aF,fA,aD,simprocAttr,syQ,lA,dK,cA,bn,aG,fm,dC,ah,ag,ae,syW,xFP,nc,yI,xF,iA,iE,ip,iy,En,dD,iH,nn,xR,xA,m9,iG,m8,io,nk,iw,ni,iq,m7,ix,iu,fw,iB,dG,ng,iD,nh,iF,na,iJ,nj,ir,nf,iK,ij,ft,d8,dr,gW,K2,ih]
  all_goals simp -implicitDefEqProofs only [List.map_nil]
def dc (k:Nat) (v0:Int) (v1:Int) (v2:Int)  : Nat→Tye→Int→Nat→Option Tye
 | 0,_,_,_=>none
 | n+1,s26,s28,s29=>
 bif decide (s28<v0) then
 ck (s29==3||s29==0) (
 bif room (s26++[((0:Int),s28,v2)]).length 24 then
 dc k v0 v1 v2  n (s26++[((0:Int),s28,v2)]) (IntKind.i64.wrap (s28+(1:Int))) (3)
 else
 none)
 else
 cW k v0 v1 v2 (k+1) (s26) (s29) ((0:Int))
theorem kO (k:Nat) (v0:Int) (v1:Int) (v2:Int):∀ (n:Nat) (s26:Tye) (s28:Int) (s29:Nat) ⦃s19:Bool⦄ ⦃s20:Bool⦄ ⦃s21:Bool⦄ ⦃s22:Bool⦄ ⦃s25:Nat⦄ ⦃j27:V⦄,rt none (itX (xX (xS (k+1)) 113 0 (k+1) false) Bj (2) (au (xX (xS (k+1)) 113 0 (k+1) false) (ao (xS (k+1)).P Tryz.f113) AS) n ⟨[.lit (.int .i64 v0),.lit (.int .i64 v1),.lit (.int .u64 v2),uu,uu,uu,.own 0 0 0,.own 1 s25 s26.length,j27,uu,.lit (.int .i64 v0),.lit (.bool s19),.lit (.bool s20),.lit (.bool false),.lit (.int .i64 v1),.lit (.bool s21),.lit (.bool s22),.lit (.bool s22),.lit (.int .i64 v0),.lit (.int .i64 s28),.junk,.junk,.junk,.junk,.junk,.junk,.junk,.junk,.junk,uu,uu,uu,uu,uu,uu,uu,uu,uu,uu,uu,uu],[.rows 0 [] 0 true,.rows s29 (List.map fX s26) s25 true]⟩)=ob (dc k v0 v1 v2  n s26 s28 s29) fun r=>some ((.ro (List.map fX r)),[]):=by
 intro n
 induction n with
 | zero=>intros;rfl
 | succ n ih=>
  intro s26 s28 s29 s19 s20 s21 s22 s25 j27
  rw [dc]
  simp (maxSteps:=2000000) -implicitDefEqProofs only [Wh,Pq,O0,Bv,BQ,A3,mf,lU,l9,↓syP,syA,rtN,a7,V.pure,nsh,xy,V.kill,eE,spl,V.shift,di,V.scal,kF,aF,fA,aD,simprocAttr,syQ,lA,dK,cA,bn,aG,fm,dC,ah,ag,ae,syW,xFP,nc,yI,xF,iA,iE,ip,iy,En,dD,iH,nn,xR,xA,m9,iG,m8,io,nk,iw,ni,iq,m7,ix,iu,fw,iB,dG,ng,iD,nh,iF,na,iJ,nj,ir,nf,iK,ij,ft,d8,dr,gW,L9,ih,oU k v0 v1 v2]
  all_goals simp -implicitDefEqProofs only [List.map_nil]
def fT (k:Nat) (v0:Int) (v1:Int) (v2:Int):Option Tye:=
 ob (cC v0 (21:Int)) fun x45=>
 bif !x45 then
 some []
 else
 ob (cC v1 (21:Int)) fun x46=>
 bif !x46 then
 some []
 else
 dc k v0 v1 v2 (k+1) ([]) ((0:Int)) (0)
theorem Ct (k:Nat) (v0:Int) (v1:Int) (v2:Int):xC (k+2) none 113 [(.lit (.int .i64 v0)),(.lit (.int .i64 v1)),(.lit (.int .u64 v2))]=ob (fT k v0 v1 v2) fun r=>some ((.ro (List.map fX r)),[]):=by
 rw [aH]
 unfold fT
 have hl0:=kO k v0 v1 v2 (k+1) ([]) ((0:Int)) (0)
 try simp -implicitDefEqProofs only [List.map_nil,List.length_nil] at hl0
 simp (maxSteps:=2000000) -implicitDefEqProofs only [Wh,Pq,O0,Bv,BQ,A3,mf,lU,l9,↓syP,syA,rtN,a7,V.pure,nsh,xy,V.kill,eE,spl,V.shift,di,V.scal,kF,aF,fA,aD,simprocAttr,syQ,lA,dK,cA,bn,aG,fm,dC,ah,ag,ae,syW,xFP,nc,yI,xF,iA,iE,ip,iy,En,dD,iH,nn,xR,xA,m9,iG,m8,io,nk,iw,ni,iq,m7,ix,iu,fw,iB,dG,ng,iD,nh,iF,na,iJ,nj,ir,nf,iK,ij,ft,d8,dr,gW,kO k v0 v1 v2,hl0]
 all_goals simp -implicitDefEqProofs only [List.map_nil]
def cZ (k:Nat) (v0:Typ) (v1:Int)  : Nat→Int→Int→Int→Int→Tyt→List Int→List Tyw→List Tys→Int→Nat→Tye→Option (Typ×Tye×Int)
 | 0,_,_,_,_,_,_,_,_,_,_,_=>none
 | n+1,s4,s5,s6,s7,s8,s9,s10,s11,s54,s55,s56=>
 bif decide (s54<bif decide ((5000:Int)<v1) then (5000:Int) else v1) then
 ob (fT (k+86) v0.1.1 (↑v0.2.2.2.2.length:Int) (IntKind.u64.wrap s54)) fun x74=>
 ob (gb (k+50) ((s4,s5,s6,s7),s8,s9,s10,s11)) fun x75=>
 bif x75 then
 some ((((s4),(s5),(s6),(s7)),(s8),(s9),(s10),(s11)),(s56),(s54))
 else
 ob (gF (k+24) ((s4,s5,s6,s7),s8,s9,s10,s11) x74) fun x76=>
 ck (s55==3||s55==0) (
 bif room (s56++x76.2.1).length 24 then
 cZ k v0 v1  n (x76.1.1.1) (x76.1.1.2.1) (x76.1.1.2.2.1) (x76.1.1.2.2.2) (x76.1.2.1) (x76.1.2.2.1) (x76.1.2.2.2.1) (x76.1.2.2.2.2) (IntKind.i64.wrap (s54+(1:Int))) (3) (s56++x76.2.1)
 else
 none)
 else
 some ((((s4),(s5),(s6),(s7)),(s8),(s9),(s10),(s11)),(s56),(s54))
theorem kS (k:Nat) (v0_0_0:Int) (v0_0_1:Int) (v0_0_2:Int) (v0_0_3:Int) (v0_1:Tyt) (v0_2:(List Int)) (v0_3:(List Tyw)) (v0_4:(List Tys)) (v1:Int):∀ (n:Nat) (s4:Int) (s5:Int) (s6:Int) (s7:Int) (s8:Tyt) (s9:List Int) (s10:List Tyw) (s11:List Tys) (s54:Int) (s55:Nat) (s56:Tye) ⦃s12:Bool⦄ ⦃s13:Bool⦄ ⦃s57:Nat⦄ ⦃s58:Int⦄ ⦃s59:Int⦄ ⦃s60:Int⦄ ⦃s61:Int⦄ ⦃s62:Tyt⦄ ⦃s63:List Int⦄ ⦃s64:List Tyw⦄ ⦃s65:List Tys⦄,rt none (bq (itX (xX (xS (k+88)) 112 0 (k+88) false) AZ (19) (au (xX (xS (k+88)) 112 0 (k+88) false) (ao (xS (k+88)).P Tryz.f112) BB) n ⟨[.yld 18,.ptr 17 0 0 0,.ptr 16 0 0 0,uu,.lit (.int .i64 s54),.junk,.junk,.junk,.junk,.junk,.junk,.junk,.junk,.junk,.junk,.junk,.junk,.junk,.junk,.junk,.junk,.junk,.junk,.junk],[.box [.lit (.int .i64 v0_0_0),.lit (.int .i64 v0_0_1),.lit (.int .i64 v0_0_2),.lit (.int .i64 v0_0_3),.ro (List.map an v0_1),.ro (List.map (aF IntKind.u64) v0_2),.ro (List.map aG v0_3),.ro (List.map bn v0_4)],.rows 0 [] 0 true,.rows 0 [] 0 true,.rows 0 [] 0 true,.rows 0 [] 0 true,.box [.lit (.int .i64 (0:Int)),.lit (.int .i64 (0:Int)),.lit (.int .i64 (0:Int)),.lit (.int .i64 (0:Int)),.own 1 0 0,.own 2 0 0,.own 3 0 0,.own 4 0 0],.rows 0 [] 0 true,.rows s55 (List.map aD s56) s57 true,.rows 0 [] 0 true,.rows 0 [] 0 true,.rows 0 [] 0 true,.rows 0 [] 0 true,.box [.lit (.int .i64 s4),.lit (.int .i64 s5),.lit (.int .i64 s6),.lit (.int .i64 s7),.ro (List.map an s8),.ro (List.map (aF IntKind.u64) s9),.ro (List.map aG s10),.ro (List.map bn s11)],.rows 0 [] 0 true,.box [.own 7 s57 s56.length],.box [.lit (.int .i64 s54)],.box [.lit (.int .i64 v0_0_0),.lit (.int .i64 v0_0_1),.lit (.int .i64 v0_0_2),.lit (.int .i64 v0_0_3),.ro (List.map an v0_1),.ro (List.map (aF IntKind.u64) v0_2),.ro (List.map aG v0_3),.ro (List.map bn v0_4)],.box [.lit (.int .i64 v1)],(.loop ⟨LoopState.ready,none,36,[.agg [.lit (.int .i64 v0_0_0),.lit (.int .i64 v0_0_1),.lit (.int .i64 v0_0_2),.lit (.int .i64 v0_0_3),.ro (List.map an v0_1),.ro (List.map (aF IntKind.u64) v0_2),.ro (List.map aG v0_3),.ro (List.map bn v0_4)],.lit (.int .i64 v1),.ptr 0 0 0 0,uu,.ptr 5 0 0 0,.own 6 0 0,.lit (.int .i64 (0:Int)),.ptr 12 0 0 0,.ptr 14 0 0 0,.ptr 15 0 0 0,uu,uu,uu,uu,.tup [.agg [.lit (.int .i64 s58),.lit (.int .i64 s59),.lit (.int .i64 s60),.lit (.int .i64 s61),.ro (List.map an s62),.ro (List.map (aF IntKind.u64) s63),.ro (List.map aG s64),.ro (List.map bn s65)],.own 7 0 0],.agg [.lit (.int .i64 v0_0_0),.lit (.int .i64 v0_0_1),.lit (.int .i64 v0_0_2),.lit (.int .i64 v0_0_3),.ro (List.map an v0_1),.ro (List.map (aF IntKind.u64) v0_2),.ro (List.map aG v0_3),.ro (List.map bn v0_4)],.tup [.agg [.lit (.int .i64 s58),.lit (.int .i64 s59),.lit (.int .i64 s60),.lit (.int .i64 s61),.ro (List.map an s62),.ro (List.map (aF IntKind.u64) s63),.ro (List.map aG s64),.ro (List.map bn s65)],.own 7 0 0],.agg [.lit (.int .i64 s58),.lit (.int .i64 s59),.lit (.int .i64 s60),.lit (.int .i64 s61),.ro (List.map an s62),.ro (List.map (aF IntKind.u64) s63),.ro (List.map aG s64),.ro (List.map bn s65)],.own 7 0 0,.agg [.lit (.int .i64 v0_0_0),.lit (.int .i64 v0_0_1),.lit (.int .i64 v0_0_2),.lit (.int .i64 v0_0_3),.ro (List.map an v0_1),.ro (List.map (aF IntKind.u64) v0_2),.ro (List.map aG v0_3),.ro (List.map bn v0_4)],.lit (.bool s12),.lit (.bool s13),uu,.agg [.lit (.int .i64 v0_0_0),.lit (.int .i64 v0_0_1),.lit (.int .i64 v0_0_2),.lit (.int .i64 v0_0_3),.ro (List.map an v0_1),.ro (List.map (aF IntKind.u64) v0_2),.ro (List.map aG v0_3),.ro (List.map bn v0_4)],.lit (.int .i64 v1),.fn (Fn.func (112:FuncId)) [] [.ptr 17 0 0 0,.ptr 16 0 0 0],uu,uu,uu,uu,uu,uu,uu,uu,uu,uu,uu,uu,uu,uu,uu,uu,uu,uu,uu],[(26:Tmp),(27:Tmp)],LV,Mt⟩)]⟩) (rfK (au (xX (xS (k+89)) 36 0 (k+89) false) (ao (xS (k+89)).P Tryz.f36) Dd) [.agg [.lit (.int .i64 v0_0_0),.lit (.int .i64 v0_0_1),.lit (.int .i64 v0_0_2),.lit (.int .i64 v0_0_3),.ro (List.map an v0_1),.ro (List.map (aF IntKind.u64) v0_2),.ro (List.map aG v0_3),.ro (List.map bn v0_4)],.lit (.int .i64 v1),.ptr 0 0 0 0,uu,.ptr 5 0 0 0,.own 6 0 0,.lit (.int .i64 (0:Int)),.ptr 12 0 0 0,.ptr 14 0 0 0,.ptr 15 0 0 0,uu,uu,uu,uu,.tup [.agg [.lit (.int .i64 s58),.lit (.int .i64 s59),.lit (.int .i64 s60),.lit (.int .i64 s61),.ro (List.map an s62),.ro (List.map (aF IntKind.u64) s63),.ro (List.map aG s64),.ro (List.map bn s65)],.own 7 0 0],.agg [.lit (.int .i64 v0_0_0),.lit (.int .i64 v0_0_1),.lit (.int .i64 v0_0_2),.lit (.int .i64 v0_0_3),.ro (List.map an v0_1),.ro (List.map (aF IntKind.u64) v0_2),.ro (List.map aG v0_3),.ro (List.map bn v0_4)],.tup [.agg [.lit (.int .i64 s58),.lit (.int .i64 s59),.lit (.int .i64 s60),.lit (.int .i64 s61),.ro (List.map an s62),.ro (List.map (aF IntKind.u64) s63),.ro (List.map aG s64),.ro (List.map bn s65)],.own 7 0 0],.agg [.lit (.int .i64 s58),.lit (.int .i64 s59),.lit (.int .i64 s60),.lit (.int .i64 s61),.ro (List.map an s62),.ro (List.map (aF IntKind.u64) s63),.ro (List.map aG s64),.ro (List.map bn s65)],.own 7 0 0,.agg [.lit (.int .i64 v0_0_0),.lit (.int .i64 v0_0_1),.lit (.int .i64 v0_0_2),.lit (.int .i64 v0_0_3),.ro (List.map an v0_1),.ro (List.map (aF IntKind.u64) v0_2),.ro (List.map aG v0_3),.ro (List.map bn v0_4)],.lit (.bool s12),.lit (.bool s13),uu,.agg [.lit (.int .i64 v0_0_0),.lit (.int .i64 v0_0_1),.lit (.int .i64 v0_0_2),.lit (.int .i64 v0_0_3),.ro (List.map an v0_1),.ro (List.map (aF IntKind.u64) v0_2),.ro (List.map aG v0_3),.ro (List.map bn v0_4)],.lit (.int .i64 v1),.fn (Fn.func (112:FuncId)) [] [.ptr 17 0 0 0,.ptr 16 0 0 0],uu,uu,uu,uu,uu,uu,uu,uu,uu,uu,uu,uu,uu,uu,uu,uu,uu,uu,uu] (18)))=ob (cZ k ((v0_0_0,v0_0_1,v0_0_2,v0_0_3),v0_1,v0_2,v0_3,v0_4) v1  n s4 s5 s6 s7 s8 s9 s10 s11 s54 s55 s56) fun r=>some ((.tup [(.agg [(.lit (.int .i64 r.1.1.1)),(.lit (.int .i64 r.1.1.2.1)),(.lit (.int .i64 r.1.1.2.2.1)),(.lit (.int .i64 r.1.1.2.2.2)),(.ro (List.map an r.1.2.1)),(.ro (List.map (aF .u64) r.1.2.2.1)),(.ro (List.map aG r.1.2.2.2.1)),(.ro (List.map bn r.1.2.2.2.2))]),(.ro (List.map aD r.2.1)),(.lit (.int .i64 r.2.2))]),[]):=by
 intro n
 induction n with
 | zero=>intros;rfl
 | succ n ih=>
  intro s4 s5 s6 s7 s8 s9 s10 s11 s54 s55 s56 s12 s13 s57 s58 s59 s60 s61 s62 s63 s64 s65
  rw [cZ]
  simp (maxSteps:=2000000) -implicitDefEqProofs only [agU,ade,afw,L5,Kv,fl,fu,pZ,CK,ag7,afQ,aH (g:=74),Zq,Tm,Vs,Gh,nX,↓syP,syA,rtN,a7,V.pure,nsh,xy,V.kill,eE,spl,V.shift,di,V.scal,kF,aF,fA,aD,simprocAttr,syQ,lA,dK,cA,bn,aG,fm,dC,ah,ag,ae,syW,xFP,nc,yI,xF,iA,iE,ip,iy,En,dD,iH,nn,xR,xA,m9,iG,m8,io,nk,iw,ni,iq,m7,ix,iu,fw,iB,dG,ng,iD,nh,iF,na,iJ,nj,ir,nf,iK,ij,ft,d8,dr,dI,pf,Ct,LI,ih]
  all_goals simp -implicitDefEqProofs only [List.map_nil]
def dR (k:Nat) (v0:Typ) (v1:Int):Option (Typ×Tye×Int):=
 ob (eM (k+26) ((v0.1.1,v0.1.2.1,v0.1.2.2.1,v0.1.2.2.2),v0.2.1,v0.2.2.1,v0.2.2.2.1,v0.2.2.2.2)) fun x77=>
 ob (eq (k+54) ((v0.1.1,v0.1.2.1,v0.1.2.2.1,v0.1.2.2.2),v0.2.1,v0.2.2.1,v0.2.2.2.1,v0.2.2.2.2)) fun x78=>
 bif !x78 then
 some ((((x77.1.1.1),(x77.1.1.2.1),(x77.1.1.2.2.1),(x77.1.1.2.2.2)),(x77.1.2.1),(x77.1.2.2.1),(x77.1.2.2.2.1),(x77.1.2.2.2.2)),[],((0:Int)))
 else
 cZ k v0 v1 (k+88) (x77.1.1.1) (x77.1.1.2.1) (x77.1.1.2.2.1) (x77.1.1.2.2.2) (x77.1.2.1) (x77.1.2.2.1) (x77.1.2.2.2.1) (x77.1.2.2.2.2) ((0:Int)) (0) ([])
theorem rO (k:Nat) (v0_0_0:Int) (v0_0_1:Int) (v0_0_2:Int) (v0_0_3:Int) (v0_1:Tyt) (v0_2:(List Int)) (v0_3:(List Tyw)) (v0_4:(List Tys)) (v1:Int):xC (k+90) none 36 [(.agg [(.lit (.int .i64 v0_0_0)),(.lit (.int .i64 v0_0_1)),(.lit (.int .i64 v0_0_2)),(.lit (.int .i64 v0_0_3)),(.ro (List.map an v0_1)),(.ro (List.map (aF .u64) v0_2)),(.ro (List.map aG v0_3)),(.ro (List.map bn v0_4))]),(.lit (.int .i64 v1))]=ob (dR k ((v0_0_0,v0_0_1,v0_0_2,v0_0_3),v0_1,v0_2,v0_3,v0_4) v1) fun r=>some ((.tup [(.agg [(.lit (.int .i64 r.1.1.1)),(.lit (.int .i64 r.1.1.2.1)),(.lit (.int .i64 r.1.1.2.2.1)),(.lit (.int .i64 r.1.1.2.2.2)),(.ro (List.map an r.1.2.1)),(.ro (List.map (aF .u64) r.1.2.2.1)),(.ro (List.map aG r.1.2.2.2.1)),(.ro (List.map bn r.1.2.2.2.2))]),(.ro (List.map aD r.2.1)),(.lit (.int .i64 r.2.2))]),[]):=by
 rw [aH]
 unfold dR
 have hl0:=fun (x79:Typ×Tye)=>kS k v0_0_0 v0_0_1 v0_0_2 v0_0_3 v0_1 v0_2 v0_3 v0_4 v1 (k+88) (x79.fst.fst.fst) (x79.fst.fst.snd.fst) (x79.fst.fst.snd.snd.fst) (x79.fst.fst.snd.snd.snd) (x79.fst.snd.fst) (x79.fst.snd.snd.fst) (x79.fst.snd.snd.snd.fst) (x79.fst.snd.snd.snd.snd) ((0:Int)) (0) ([])
 try simp -implicitDefEqProofs only [List.map_nil,List.length_nil] at hl0
 simp (maxSteps:=2000000) -implicitDefEqProofs only [agU,ade,afw,L5,Kv,fl,fu,pZ,CK,ag7,afQ,aH (g:=74),Zq,Tm,Vs,Gh,nX,↓syP,syA,rtN,a7,V.pure,nsh,xy,V.kill,eE,spl,V.shift,di,V.scal,kF,aF,fA,aD,simprocAttr,syQ,lA,dK,cA,bn,aG,fm,dC,ah,ag,ae,syW,xFP,nc,yI,xF,iA,iE,ip,iy,En,dD,iH,nn,xR,xA,m9,iG,m8,io,nk,iw,ni,iq,m7,ix,iu,fw,iB,dG,ng,iD,nh,iF,na,iJ,nj,ir,nf,iK,ij,ft,d8,dr,dI,kS k v0_0_0 v0_0_1 v0_0_2 v0_0_3 v0_1 v0_2 v0_3 v0_4 v1,hl0]
 all_goals simp -implicitDefEqProofs only [List.map_nil]
end Go.Ab
