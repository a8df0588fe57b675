import Derived.Test.YtblpbpnilkfjhaaGreatR6GYa
import Derived.Test.YtblpbpnilkfjhaaGreatR6GYb
set_option linter.unusedVariables false
set_option linter.unusedSimpArgs false
set_option maxRecDepth 100000
set_option linter.unusedVariables false
set_option linter.unusedSimpArgs false
namespace Go.Ab
open Go.Proofs
def fL (k:Nat) (v0:(Int×Int×Int×Int)) (v1:Tyt) (v2:(List (List Int))) (v3:(List Int)):Option (Typ×Tye×Bool):=
 ob (iX (k+41) (v0.1,v0.2.1,v0.2.2.1,v0.2.2.2) v1 v2) fun x4=>
 bif !x4.2 then
 some (((((0:Int)),((0:Int)),((0:Int)),((0:Int))),[],[],[],[]),[],(false))
 else
 ob (f4 (k+39) v3) fun x5=>
 ob (gB k ((x4.1.1.1,x4.1.1.2.1,x4.1.1.2.2.1,x4.1.1.2.2.2),x4.1.2.1,x4.1.2.2.1,x4.1.2.2.2.1,x4.1.2.2.2.2) x5) fun x6=>
 some ((((x6.1.1.1),(x6.1.1.2.1),(x6.1.1.2.2.1),(x6.1.1.2.2.2)),(x6.1.2.1),(x6.1.2.2.1),(x6.1.2.2.2.1),(x6.1.2.2.2.2)),(x6.2),(true))
theorem FS (k:Nat) (v0_0:Int) (v0_1:Int) (v0_2:Int) (v0_3:Int) (v1:Tyt) (v2:(List (List Int))) (v3:(List Int)):xC (k+64) none 34 [(.agg [(.lit (.int .i64 v0_0)),(.lit (.int .i64 v0_1)),(.lit (.int .i64 v0_2)),(.lit (.int .i64 v0_3))]),(.ro (List.map an v1)),(.ro (List.map cA v2)),(.ro (List.map (aF .u8) v3))]=ob (fL k (v0_0,v0_1,v0_2,v0_3) v1 v2 v3) fun r=>some ((.tup [(.agg [(.lit (.int .i64 r.1.1.1)),(.lit (.int .i64 r.1.1.2.1)),(.lit (.int .i64 r.1.1.2.2.1)),(.lit (.int .i64 r.1.1.2.2.2)),(.ro (List.map an r.1.2.1)),(.ro (List.map (aF .u64) r.1.2.2.1)),(.ro (List.map aG r.1.2.2.2.1)),(.ro (List.map bn r.1.2.2.2.2))]),(.ro (List.map aD r.2.1)),(.lit (.bool r.2.2))]),[]):=by
 rw [aH]
 unfold fL
 simp (maxSteps:=2000000) -implicitDefEqProofs only [ahl,agQ,↓syP,syA,rtN,a7,V.pure,nsh,xy,V.kill,eE,spl,V.shift,di,V.scal,kF,aF,fA,aD,simprocAttr,syQ,lA,dK,cA,bn,aG,fm,dC,ah,ag,ae,syW,xFP,nc,yI,xF,iA,iE,ip,iy,En,dD,iH,nn,xR,xA,m9,iG,m8,io,nk,iw,ni,iq,m7,ix,iu,fw,iB,dG,ng,iD,nh,iF,na,iJ,nj,ir,nf,iK,ij,ft,d8,dr,I3,HW,AV]
 all_goals simp -implicitDefEqProofs only [List.map_nil]
def ap (k:Nat) (v0:Tyt) (v1:Tye)  : Nat→Int→Int→Int→Int→Int→Int→Int→Option (Int×Int×Int)
 | 0,_,_,_,_,_,_,_=>none
 | n+1,s13,s14,s15,s16,s17,s18,s19=>
 bif decide (s13<(↑v1.length:Int)) then
 ob (idx v1 s13) fun x22=>
 bif decide (x22.1<(0:Int)) then
 ap k v0 v1  n (IntKind.i64.wrap (s13+(1:Int))) (s14) (s15) (s16) (s17) (s18) (s19)
 else
 bif decide ((6:Int)≤x22.1) then
 ap k v0 v1  n (IntKind.i64.wrap (s13+(1:Int))) (s14) (s15) (s16) (s17) (s18) (s19)
 else
 bif x22.1==(0:Int) then
 bif x22.1==(0:Int) then
 ap k v0 v1  n (IntKind.i64.wrap (s13+(1:Int))) (IntKind.i64.wrap (s14+(1:Int))) (s15) (s16) (s17) (s18) (s19)
 else
 bif x22.1==(1:Int) then
 ap k v0 v1  n (IntKind.i64.wrap (s13+(1:Int))) (s14) (IntKind.i64.wrap (s14+(1:Int))) (s16) (s17) (s18) (s19)
 else
 bif x22.1==(2:Int) then
 ap k v0 v1  n (IntKind.i64.wrap (s13+(1:Int))) (s14) (s15) (IntKind.i64.wrap (s14+(1:Int))) (s17) (s18) (s19)
 else
 bif x22.1==(3:Int) then
 ap k v0 v1  n (IntKind.i64.wrap (s13+(1:Int))) (s14) (s15) (s16) (IntKind.i64.wrap (s14+(1:Int))) (s18) (s19)
 else
 bif x22.1==(4:Int) then
 ap k v0 v1  n (IntKind.i64.wrap (s13+(1:Int))) (s14) (s15) (s16) (s17) (IntKind.i64.wrap (s14+(1:Int))) (s19)
 else
 bif x22.1==(5:Int) then
 ap k v0 v1  n (IntKind.i64.wrap (s13+(1:Int))) (s14) (s15) (s16) (s17) (s18) (IntKind.i64.wrap (s14+(1:Int)))
 else
 none
 else
 bif x22.1==(1:Int) then
 bif x22.1==(0:Int) then
 ap k v0 v1  n (IntKind.i64.wrap (s13+(1:Int))) (IntKind.i64.wrap (s15+(1:Int))) (s15) (s16) (s17) (s18) (s19)
 else
 bif x22.1==(1:Int) then
 ap k v0 v1  n (IntKind.i64.wrap (s13+(1:Int))) (s14) (IntKind.i64.wrap (s15+(1:Int))) (s16) (s17) (s18) (s19)
 else
 bif x22.1==(2:Int) then
 ap k v0 v1  n (IntKind.i64.wrap (s13+(1:Int))) (s14) (s15) (IntKind.i64.wrap (s15+(1:Int))) (s17) (s18) (s19)
 else
 bif x22.1==(3:Int) then
 ap k v0 v1  n (IntKind.i64.wrap (s13+(1:Int))) (s14) (s15) (s16) (IntKind.i64.wrap (s15+(1:Int))) (s18) (s19)
 else
 bif x22.1==(4:Int) then
 ap k v0 v1  n (IntKind.i64.wrap (s13+(1:Int))) (s14) (s15) (s16) (s17) (IntKind.i64.wrap (s15+(1:Int))) (s19)
 else
 bif x22.1==(5:Int) then
 ap k v0 v1  n (IntKind.i64.wrap (s13+(1:Int))) (s14) (s15) (s16) (s17) (s18) (IntKind.i64.wrap (s15+(1:Int)))
 else
 none
 else
 bif x22.1==(2:Int) then
 bif x22.1==(0:Int) then
 ap k v0 v1  n (IntKind.i64.wrap (s13+(1:Int))) (IntKind.i64.wrap (s16+(1:Int))) (s15) (s16) (s17) (s18) (s19)
 else
 bif x22.1==(1:Int) then
 ap k v0 v1  n (IntKind.i64.wrap (s13+(1:Int))) (s14) (IntKind.i64.wrap (s16+(1:Int))) (s16) (s17) (s18) (s19)
 else
 bif x22.1==(2:Int) then
 ap k v0 v1  n (IntKind.i64.wrap (s13+(1:Int))) (s14) (s15) (IntKind.i64.wrap (s16+(1:Int))) (s17) (s18) (s19)
 else
 bif x22.1==(3:Int) then
 ap k v0 v1  n (IntKind.i64.wrap (s13+(1:Int))) (s14) (s15) (s16) (IntKind.i64.wrap (s16+(1:Int))) (s18) (s19)
 else
 bif x22.1==(4:Int) then
 ap k v0 v1  n (IntKind.i64.wrap (s13+(1:Int))) (s14) (s15) (s16) (s17) (IntKind.i64.wrap (s16+(1:Int))) (s19)
 else
 bif x22.1==(5:Int) then
 ap k v0 v1  n (IntKind.i64.wrap (s13+(1:Int))) (s14) (s15) (s16) (s17) (s18) (IntKind.i64.wrap (s16+(1:Int)))
 else
 none
 else
 bif x22.1==(3:Int) then
 bif x22.1==(0:Int) then
 ap k v0 v1  n (IntKind.i64.wrap (s13+(1:Int))) (IntKind.i64.wrap (s17+(1:Int))) (s15) (s16) (s17) (s18) (s19)
 else
 bif x22.1==(1:Int) then
 ap k v0 v1  n (IntKind.i64.wrap (s13+(1:Int))) (s14) (IntKind.i64.wrap (s17+(1:Int))) (s16) (s17) (s18) (s19)
 else
 bif x22.1==(2:Int) then
 ap k v0 v1  n (IntKind.i64.wrap (s13+(1:Int))) (s14) (s15) (IntKind.i64.wrap (s17+(1:Int))) (s17) (s18) (s19)
 else
 bif x22.1==(3:Int) then
 ap k v0 v1  n (IntKind.i64.wrap (s13+(1:Int))) (s14) (s15) (s16) (IntKind.i64.wrap (s17+(1:Int))) (s18) (s19)
 else
 bif x22.1==(4:Int) then
 ap k v0 v1  n (IntKind.i64.wrap (s13+(1:Int))) (s14) (s15) (s16) (s17) (IntKind.i64.wrap (s17+(1:Int))) (s19)
 else
 bif x22.1==(5:Int) then
 ap k v0 v1  n (IntKind.i64.wrap (s13+(1:Int))) (s14) (s15) (s16) (s17) (s18) (IntKind.i64.wrap (s17+(1:Int)))
 else
 none
 else
 bif x22.1==(4:Int) then
 bif x22.1==(0:Int) then
 ap k v0 v1  n (IntKind.i64.wrap (s13+(1:Int))) (IntKind.i64.wrap (s18+(1:Int))) (s15) (s16) (s17) (s18) (s19)
 else
 bif x22.1==(1:Int) then
 ap k v0 v1  n (IntKind.i64.wrap (s13+(1:Int))) (s14) (IntKind.i64.wrap (s18+(1:Int))) (s16) (s17) (s18) (s19)
 else
 bif x22.1==(2:Int) then
 ap k v0 v1  n (IntKind.i64.wrap (s13+(1:Int))) (s14) (s15) (IntKind.i64.wrap (s18+(1:Int))) (s17) (s18) (s19)
 else
 bif x22.1==(3:Int) then
 ap k v0 v1  n (IntKind.i64.wrap (s13+(1:Int))) (s14) (s15) (s16) (IntKind.i64.wrap (s18+(1:Int))) (s18) (s19)
 else
 bif x22.1==(4:Int) then
 ap k v0 v1  n (IntKind.i64.wrap (s13+(1:Int))) (s14) (s15) (s16) (s17) (IntKind.i64.wrap (s18+(1:Int))) (s19)
 else
 bif x22.1==(5:Int) then
 ap k v0 v1  n (IntKind.i64.wrap (s13+(1:Int))) (s14) (s15) (s16) (s17) (s18) (IntKind.i64.wrap (s18+(1:Int)))
 else
 none
 else
 bif x22.1==(5:Int) then
 bif x22.1==(0:Int) then
 ap k v0 v1  n (IntKind.i64.wrap (s13+(1:Int))) (IntKind.i64.wrap (s19+(1:Int))) (s15) (s16) (s17) (s18) (s19)
 else
 bif x22.1==(1:Int) then
 ap k v0 v1  n (IntKind.i64.wrap (s13+(1:Int))) (s14) (IntKind.i64.wrap (s19+(1:Int))) (s16) (s17) (s18) (s19)
 else
 bif x22.1==(2:Int) then
 ap k v0 v1  n (IntKind.i64.wrap (s13+(1:Int))) (s14) (s15) (IntKind.i64.wrap (s19+(1:Int))) (s17) (s18) (s19)
 else
 bif x22.1==(3:Int) then
 ap k v0 v1  n (IntKind.i64.wrap (s13+(1:Int))) (s14) (s15) (s16) (IntKind.i64.wrap (s19+(1:Int))) (s18) (s19)
 else
 bif x22.1==(4:Int) then
 ap k v0 v1  n (IntKind.i64.wrap (s13+(1:Int))) (s14) (s15) (s16) (s17) (IntKind.i64.wrap (s19+(1:Int))) (s19)
 else
 bif x22.1==(5:Int) then
 ap k v0 v1  n (IntKind.i64.wrap (s13+(1:Int))) (s14) (s15) (s16) (s17) (s18) (IntKind.i64.wrap (s19+(1:Int)))
 else
 none
 else
 none
 else
 some ((s14),(s15),(s18))
theorem oF (k:Nat) (v0:Tyt) (v1:Tye):∀ (n:Nat) (s13:Int) (s14:Int) (s15:Int) (s16:Int) (s17:Int) (s18:Int) (s19:Int) ⦃j12:V⦄,rt none (itX (xX (xS k) 37 0 k false) oB (1) (au (xX (xS k) 37 0 k false) (ao (xS k).P Tryz.f37) HD) n ⟨[.ro (List.map an v0),.ro (List.map aD v1),uu,uu,.lit (.int .i64 (0:Int)),.lit (.int .i64 (0:Int)),.lit (.int .i64 (0:Int)),.ptr 0 0 0 0,uu,j12,.ro (List.map aD v1),.lit (.int .i64 (↑v1.length:Int)),.lit (.int .i64 s13),.junk,.junk,.junk,.junk,.junk,.junk,.junk,.junk,.junk,.junk,.junk,.junk,.junk,.junk,.junk,.junk,.junk,.junk,uu,uu,uu,uu,uu,uu],[.box [.lit (.int .i64 s14),.lit (.int .i64 s15),.lit (.int .i64 s16),.lit (.int .i64 s17),.lit (.int .i64 s18),.lit (.int .i64 s19)]]⟩)=ob (ap k v0 v1  n s13 s14 s15 s16 s17 s18 s19) fun r=>some ((.tup [(.lit (.int .i64 r.1)),(.lit (.int .i64 r.2.1)),(.lit (.int .i64 r.2.2))]),[]):=by
 intro n
 induction n with
 | zero=>intros;rfl
 | succ n ih=>
  intro s13 s14 s15 s16 s17 s18 s19 j12
  rw [ap]
  simp (maxSteps:=2000000) -implicitDefEqProofs only [agC,aeh,aeT,Mg,LP,pw,pM,↓syP,syA,rtN,a7,V.pure,nsh,xy,V.kill,eE,spl,V.shift,di,V.scal,kF,aF,fA,aD,simprocAttr,syQ,lA,dK,cA,bn,aG,fm,dC,ah,ag,ae,syW,xFP,nc,yI,xF,iA,iE,ip,iy,En,dD,iH,nn,xR,xA,m9,iG,m8,io,nk,iw,ni,iq,m7,ix,iu,fw,iB,dG,ng,iD,nh,iF,na,iJ,nj,ir,nf,iK,ij,ft,d8,dr,RI,ih]
  all_goals simp -implicitDefEqProofs only [List.map_nil]
def rM (k:Nat) (v0:Tyt) (v1:Tye):Option (Int×Int×Int):=
 ap k v0 v1 (k) ((0:Int)) ((0:Int)) ((0:Int)) ((0:Int)) ((0:Int)) ((0:Int)) ((0:Int))
theorem Eh (k:Nat) (v0:Tyt) (v1:Tye):xC (k+1) none 37 [(.ro (List.map an v0)),(.ro (List.map aD v1))]=ob (rM k v0 v1) fun r=>some ((.tup [(.lit (.int .i64 r.1)),(.lit (.int .i64 r.2.1)),(.lit (.int .i64 r.2.2))]),[]):=by
 rw [aH]
 unfold rM
 simp (maxSteps:=2000000) -implicitDefEqProofs only [agC,aeh,aeT,Mg,LP,pw,pM,↓syP,syA,rtN,a7,V.pure,nsh,xy,V.kill,eE,spl,V.shift,di,V.scal,kF,aF,fA,aD,simprocAttr,syQ,lA,dK,cA,bn,aG,fm,dC,ah,ag,ae,syW,xFP,nc,yI,xF,iA,iE,ip,iy,En,dD,iH,nn,xR,xA,m9,iG,m8,io,nk,iw,ni,iq,m7,ix,iu,fw,iB,dG,ng,iD,nh,iF,na,iJ,nj,ir,nf,iK,ij,ft,d8,dr,oF k v0 v1]
 all_goals simp -implicitDefEqProofs only [List.map_nil]
end Go.Ab
