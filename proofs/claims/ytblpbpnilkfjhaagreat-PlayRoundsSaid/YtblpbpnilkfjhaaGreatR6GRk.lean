import Derived.Test.YtblpbpnilkfjhaaGreatR6GY
import Derived.Test.YtblpbpnilkfjhaaGreatAbLibC
set_option linter.unusedVariables false
set_option linter.unusedSimpArgs false
set_option maxRecDepth 100000
set_option linter.unusedVariables false
set_option linter.unusedSimpArgs false
namespace Go.Ab
open Go.Proofs
def bK (k:Nat) (v0:Typ) (v1:Tye)  : Nat→Int→Int→Int→Int→Tyt→List Tyw→List Tys→List Tyw→List Tys→Tye→Int→List Int→Nat→Option (Typ×Tye×Nat)
 | 0,_,_,_,_,_,_,_,_,_,_,_,_,_=>none
 | n+1,s86,s87,s88,s89,s90,s92,s93,s96,s97,s116,s118,s119,s120=>
 bif decide (s118<(↑v1.length:Int)) then
 ob (idx v1 s118) fun x149=>
 ob (gI (x149.1,x149.2.1,x149.2.2) v0.1.1 (↑v0.2.2.2.2.length:Int)) fun x150=>
 bif x150 then
 bif x149.1==(0:Int) then
 bif decide ((0:Int)≤x149.2.1∧x149.2.1.toNat<s92.length) then
 ob (s96[x149.2.1.toNat]?) fun x151=>
 ob (gA k (s86,s87,s88,s89) s90 s119 x149.2.1 (x151.1,x151.2.1,(x151.2.2.1.1,x151.2.2.1.2.1,x151.2.2.1.2.2.1,x151.2.2.1.2.2.2.1,x151.2.2.1.2.2.2.2.1,x151.2.2.1.2.2.2.2.2.1,x151.2.2.1.2.2.2.2.2.2),x151.2.2.2.1,x151.2.2.2.2) x149.2.2) fun x152=>
 bif decide ((0:Int)≤x149.2.1∧x149.2.1.toNat<s92.length) then
 ob (s96[x149.2.1.toNat]?) fun x153=>
 ck (s120==3||s120==0) (
 bif room (s116++x152.2.2).length 24 then
 bK k v0 v1  n (s86) (s87) (s88) (s89) (s90) (s92) (s93) (s96.set x149.2.1.toNat (x152.2.1.1,x152.2.1.2.1,(x152.2.1.2.2.1.1,x152.2.1.2.2.1.2.1,x152.2.1.2.2.1.2.2.1,x152.2.1.2.2.1.2.2.2.1,x152.2.1.2.2.1.2.2.2.2.1,x152.2.1.2.2.1.2.2.2.2.2.1,x152.2.1.2.2.1.2.2.2.2.2.2),x152.2.1.2.2.2.1,x152.2.1.2.2.2.2)) (s97) (s116++x152.2.2) (IntKind.i64.wrap (s118+(1:Int))) (x152.1) (3)
 else
 none)
 else
 none
 else
 none
 else
 bif x149.1==(1:Int) then
 bif decide ((0:Int)≤x149.2.1∧x149.2.1.toNat<s93.length) then
 ob (s97[x149.2.1.toNat]?) fun x154=>
 ob (eU (k+36) (s86,s87,s88,s89) s90 s119 (x154.1,x154.2.1,x154.2.2.1,x154.2.2.2.1,x154.2.2.2.2.1,x154.2.2.2.2.2.1,x154.2.2.2.2.2.2.1,x154.2.2.2.2.2.2.2.1,x154.2.2.2.2.2.2.2.2)) fun x155=>
 bif x155 then
 bif decide ((0:Int)≤x149.2.1∧x149.2.1.toNat<s93.length) then
 ob (s97[x149.2.1.toNat]?) fun x156=>
 ob (fb (k+20) (s86,s87,s88,s89) s90 s119 x149.2.1 (x156.1,x156.2.1,x156.2.2.1,x156.2.2.2.1,x156.2.2.2.2.1,x156.2.2.2.2.2.1,x156.2.2.2.2.2.2.1,x156.2.2.2.2.2.2.2.1,x156.2.2.2.2.2.2.2.2)) fun x157=>
 bif decide ((0:Int)≤x149.2.1∧x149.2.1.toNat<s93.length) then
 ob (s97[x149.2.1.toNat]?) fun x158=>
 ck (s120==3||s120==0) (
 bif room (s116++x157.2.2).length 24 then
 bK k v0 v1  n (s86) (s87) (s88) (s89) (s90) (s92) (s93) (s96) (s97.set x149.2.1.toNat (x157.2.1.1,x157.2.1.2.1,x157.2.1.2.2.1,x157.2.1.2.2.2.1,x157.2.1.2.2.2.2.1,x157.2.1.2.2.2.2.2.1,x157.2.1.2.2.2.2.2.2.1,x157.2.1.2.2.2.2.2.2.2.1,x157.2.1.2.2.2.2.2.2.2.2)) (s116++x157.2.2) (IntKind.i64.wrap (s118+(1:Int))) (x157.1) (3)
 else
 none)
 else
 none
 else
 none
 else
 ck (s120==3||s120==0) (
 bif room s116.length 24 then
 bK k v0 v1  n (s86) (s87) (s88) (s89) (s90) (s92) (s93) (s96) (s97) (s116) (IntKind.i64.wrap (s118+(1:Int))) (s119) (3)
 else
 none)
 else
 none
 else
 bif x149.1==(2:Int) then
 ob (bo s119 (3:Int) (1:Int)) fun x159=>
 ck (s120==3||s120==0) (
 bif room s116.length 24 then
 bK k v0 v1  n (s86) (s87) (s88) (s89) (s90) (s92) (s93) (s96) (s97) (s116) (IntKind.i64.wrap (s118+(1:Int))) (x159) (3)
 else
 none)
 else
 ck (s120==3||s120==0) (
 bif room s116.length 24 then
 bK k v0 v1  n (s86) (s87) (s88) (s89) (s90) (s92) (s93) (s96) (s97) (s116) (IntKind.i64.wrap (s118+(1:Int))) (s119) (3)
 else
 none)
 else
 bK k v0 v1  n (s86) (s87) (s88) (s89) (s90) (s92) (s93) (s96) (s97) (s116) (IntKind.i64.wrap (s118+(1:Int))) (s119) (s120)
 else
 ck (decide (s92.length≤s96.length)) (
 ck (decide (s93.length≤s97.length)) (
 some ((((s86),(s87),(s88),(s89)),(s90),(s119),(List.take s92.length s96),(List.take s93.length s97)),(s116),s120)))
theorem lc (k:Nat) (v0_0_0 v0_0_1 v0_0_2 v0_0_3:Int) (v0_1:Tyt) (v0_2:List Int) (v0_3:List Tyw) (v0_4:List Tys) (v1:Tye):∀ (n:Nat) (s86:Int) (s87:Int) (s88:Int) (s89:Int) (s90:Tyt) (s92:List Tyw) (s93:List Tys) (s96:List Tyw) (s97:List Tys) (s116:Tye) (s118:Int) (s119:List Int) (s120:Nat) ⦃s91:List Int⦄ ⦃s94:Bool⦄ ⦃s95:Bool⦄ ⦃s115:Nat⦄ ⦃j117:V⦄,rt (some fun i=>i==1) (itX (xX (xS (k+62)) 17 0 (k+62) false) uM (15) (au (xX (xS (k+62)) 17 0 (k+62) false) (ao (xS (k+62)).P Tryz.f17) Aa) n ⟨[.agg [.lit (.int .i64 v0_0_0),.lit (.int .i64 v0_0_1),.lit (.int .i64 v0_0_2),.lit (.int .i64 v0_0_3),.ro (List.map an v0_1),.ro (List.map (aF IntKind.u64) v0_2),.ro (List.map aG v0_3),.ro (List.map bn v0_4)],.ro (List.map fX v1),.ptr 0 0 0 0,uu,.ptr 5 0 0 0,.own 6 0 0,.ptr 13 0 0 0,.own 14 s115 s116.length,uu,j117,.agg [.lit (.int .i64 v0_0_0),.lit (.int .i64 v0_0_1),.lit (.int .i64 v0_0_2),.lit (.int .i64 v0_0_3),.ro (List.map an v0_1),.ro (List.map (aF IntKind.u64) v0_2),.ro (List.map aG v0_3),.ro (List.map bn v0_4)],.agg [.lit (.int .i64 s86),.lit (.int .i64 s87),.lit (.int .i64 s88),.lit (.int .i64 s89),.ro (List.map an s90),.ro (List.map (aF IntKind.u64) s91),.own 7 0 s92.length,.own 8 0 s93.length],.agg [.lit (.int .i64 v0_0_0),.lit (.int .i64 v0_0_1),.lit (.int .i64 v0_0_2),.lit (.int .i64 v0_0_3),.ro (List.map an v0_1),.ro (List.map (aF IntKind.u64) v0_2),.ro (List.map aG v0_3),.ro (List.map bn v0_4)],.lit (.bool s94),.lit (.bool s95),uu,.ro (List.map fX v1),.lit (.int .i64 (↑v1.length:Int)),.lit (.int .i64 s118),.junk,.junk,.junk,.junk,.junk,.junk,.junk,.junk,.junk,.junk,.junk,.junk,.junk,.junk,.junk,.junk,uu,uu],[.box [.lit (.int .i64 v0_0_0),.lit (.int .i64 v0_0_1),.lit (.int .i64 v0_0_2),.lit (.int .i64 v0_0_3),.ro (List.map an v0_1),.ro (List.map (aF IntKind.u64) v0_2),.ro (List.map aG v0_3),.ro (List.map bn v0_4)],.rows 0 [] 0 true,.rows 0 [] 0 true,.rows 0 [] 0 true,.rows 0 [] 0 true,.box [.lit (.int .i64 (0:Int)),.lit (.int .i64 (0:Int)),.lit (.int .i64 (0:Int)),.lit (.int .i64 (0:Int)),.own 1 0 0,.own 2 0 0,.own 3 0 0,.own 4 0 0],.rows 0 [] 0 true,.rows 11 (List.map aG s96) 0 true,.rows 9 (List.map bn s97) 0 true,.rows 0 [] 0 true,.rows 0 [] 0 true,.rows 0 [] 0 true,.rows 0 [] 0 true,.box [.lit (.int .i64 s86),.lit (.int .i64 s87),.lit (.int .i64 s88),.lit (.int .i64 s89),.ro (List.map an s90),.ro (List.map (aF IntKind.u64) s119),.own 7 0 s92.length,.own 8 0 s93.length],.rows s120 (List.map aD s116) s115 true]⟩)=ob (bK k ((v0_0_0,v0_0_1,v0_0_2,v0_0_3),v0_1,v0_2,v0_3,v0_4) v1  n s86 s87 s88 s89 s90 s92 s93 s96 s97 s116 s118 s119 s120) fun r=>some ((.tup [.agg [.lit (.int .i64 r.1.1.1),.lit (.int .i64 r.1.1.2.1),.lit (.int .i64 r.1.1.2.2.1),.lit (.int .i64 r.1.1.2.2.2),.ro (List.map an r.1.2.1),.ro (List.map (aF .u64) r.1.2.2.1),.ro (List.map aG r.1.2.2.2.1),.ro (List.map bn r.1.2.2.2.2)],.own 0 0 r.2.1.length]),[.rows r.2.2 (List.map aD r.2.1) 0 true]):=by
 intro n
 induction n with
 | zero=>intros;rfl
 | succ n ih=>
  intro s86 s87 s88 s89 s90 s92 s93 s96 s97 s116 s118 s119 s120 s91 s94 s95 s115 j117
  rw [bK]
  simp (maxSteps:=2000000) -implicitDefEqProofs only [RF,Or,Q0,oO,fd,RM,NY,QQ,pd,pi,eZ,eY,aH (g:=41),Rb,PZ,oV,fi,RZ,Nh,RH,Ng,RB,OQ,↓syP,syA,syD,simprocAttr,syE,ah,ag,ae,syW,r7,r8,oL,xQ,dS,mv,ow,uE,cU,dI,u4,cu,Hq,ih]
  all_goals try simp -implicitDefEqProofs only [List.map_nil,List.length_nil]
def gF (k:Nat) (v0:Typ) (v1:Tye):Option (Typ×Tye×Nat):=
 ob (dn (k+59) v0.2.1) fun x160=>
 ob (aL 8 v0.2.2.1) fun x161=>
 ob (aL 104 v0.2.2.2.1) fun x162=>
 ob (aL 88 v0.2.2.2.2) fun x163=>
 ob (bN k (k+61) v0.1.1 v0.1.2.1 v0.1.2.2.1 v0.1.2.2.2 x160 x161 x162 x163 (↑x162.length:Int) 0 x162) fun x164=>
 ck (decide (x164.2.2.2.2.2.2.1.length≤x164.2.2.2.2.2.2.2.2.1.length)) (
 ck (decide (x164.2.2.2.2.2.2.2.1.length≤x164.2.2.2.2.2.2.2.2.2.length)) (
 ob (eq (k+27) v0) fun x165=>
 bif !x165 then
 ck (decide (x164.2.2.2.2.2.2.1.length≤(List.take x164.2.2.2.2.2.2.1.length x164.2.2.2.2.2.2.2.2.1).length)) (
 ck (decide (x164.2.2.2.2.2.2.2.1.length≤(List.take x164.2.2.2.2.2.2.2.1.length x164.2.2.2.2.2.2.2.2.2).length)) (
 some (((x164.1,x164.2.1,x164.2.2.1,x164.2.2.2.1),x164.2.2.2.2.1,x164.2.2.2.2.2.1,(List.take x164.2.2.2.2.2.2.1.length (List.take x164.2.2.2.2.2.2.1.length x164.2.2.2.2.2.2.2.2.1)),(List.take x164.2.2.2.2.2.2.2.1.length (List.take x164.2.2.2.2.2.2.2.1.length x164.2.2.2.2.2.2.2.2.2))),[],0)))
 else
 bK k v0 v1 (k+62) x164.1 x164.2.1 x164.2.2.1 x164.2.2.2.1 x164.2.2.2.2.1 x164.2.2.2.2.2.2.1 x164.2.2.2.2.2.2.2.1 (List.take x164.2.2.2.2.2.2.1.length x164.2.2.2.2.2.2.2.2.1) (List.take x164.2.2.2.2.2.2.2.1.length x164.2.2.2.2.2.2.2.2.2) ([]) 0 x164.2.2.2.2.2.1 0))
theorem d8 (k:Nat) (v0_0_0 v0_0_1 v0_0_2 v0_0_3:Int) (v0_1:Tyt) (v0_2:List Int) (v0_3:List Tyw) (v0_4:List Tys) (v1:Tye):xC (k+63) (some fun i=>i==1) 17 [.agg [.lit (.int .i64 v0_0_0),.lit (.int .i64 v0_0_1),.lit (.int .i64 v0_0_2),.lit (.int .i64 v0_0_3),.ro (List.map an v0_1),.ro (List.map (aF .u64) v0_2),.ro (List.map aG v0_3),.ro (List.map bn v0_4)],.ro (List.map fX v1)]=ob (gF k ((v0_0_0,v0_0_1,v0_0_2,v0_0_3),v0_1,v0_2,v0_3,v0_4) v1) fun r=>some ((.tup [.agg [.lit (.int .i64 r.1.1.1),.lit (.int .i64 r.1.1.2.1),.lit (.int .i64 r.1.1.2.2.1),.lit (.int .i64 r.1.1.2.2.2),.ro (List.map an r.1.2.1),.ro (List.map (aF .u64) r.1.2.2.1),.ro (List.map aG r.1.2.2.2.1),.ro (List.map bn r.1.2.2.2.2)],.own 0 0 r.2.1.length]),[.rows r.2.2 (List.map aD r.2.1) 0 true]):=by
 rw [aH]
 unfold gF
 have hl0:=fun (x170:Int×Int×Int×Int×Tyt×List Int×List Tyw×List Tys×List Tyw×List Tys)=>lc k v0_0_0 v0_0_1 v0_0_2 v0_0_3 v0_1 v0_2 v0_3 v0_4 v1 (k+62) (x170.fst) (x170.snd.fst) (x170.snd.snd.fst) (x170.snd.snd.snd.fst) (x170.snd.snd.snd.snd.fst) (x170.snd.snd.snd.snd.snd.snd.fst) (x170.snd.snd.snd.snd.snd.snd.snd.fst) (List.take x170.snd.snd.snd.snd.snd.snd.fst.length x170.snd.snd.snd.snd.snd.snd.snd.snd.fst) (List.take x170.snd.snd.snd.snd.snd.snd.snd.fst.length x170.snd.snd.snd.snd.snd.snd.snd.snd.snd) ([]) ((0:Int)) (x170.snd.snd.snd.snd.snd.fst) (0)
 try simp -implicitDefEqProofs only [List.map_nil,List.length_nil] at hl0
 simp (maxSteps:=2000000) -implicitDefEqProofs only [RF,Or,Q0,oO,fd,RM,NY,QQ,pd,pi,eZ,eY,aH (g:=41),Rb,PZ,oV,fi,RZ,Nh,RH,Ng,RB,OQ,↓syP,syA,syD,simprocAttr,syE,ah,ag,ae,syW,r7,r8,oL,xQ,cU,dI,cu,lc k v0_0_0 v0_0_1 v0_0_2 v0_0_3 v0_1 v0_2 v0_3 v0_4 v1,hl0]
 all_goals try simp -implicitDefEqProofs only [List.map_nil,List.length_nil]
end Go.Ab
