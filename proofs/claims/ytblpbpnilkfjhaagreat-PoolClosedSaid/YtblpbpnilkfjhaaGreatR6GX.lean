import Derived.Test.YtblpbpnilkfjhaaGreatR6Run
import Derived.Test.YtblpbpnilkfjhaaGreatR6Facts
import Derived.Test.YtblpbpnilkfjhaaGreatR6Man
import Derived.Test.YtblpbpnilkfjhaaGreatR6BY
import Derived.Test.YtblpbpnilkfjhaaGreatR6BX
import Derived.Test.YtblpbpnilkfjhaaGreatR6B3
import Derived.Test.YtblpbpnilkfjhaaGreatR6B4
import Derived.Test.YtblpbpnilkfjhaaGreatR6B5
import Derived.Test.YtblpbpnilkfjhaaGreatR6BW
set_option linter.unusedVariables false
set_option linter.unusedSimpArgs false
set_option maxRecDepth 100000
set_option linter.unusedVariables false
set_option linter.unusedSimpArgs false
namespace Go.Ab
open Go.Proofs
def bg (k:Nat) (v0:(List (Int×List Int)))  : Nat→Int→Option Bool
 | 0,_=>none
 | n+1,s3=>
 bif decide (s3<(↑v0.length:Int)) then
 bif decide (s3≤(40:Int)) then
 ob (idx v0 s3) fun x6=>
 bif decide ((40:Int)<(↑x6.2.length:Int)) then
 some (false)
 else
 bg k v0  n (IntKind.i64.wrap (s3+(1:Int)))
 else
 some (decide ((↑v0.length:Int)≤(40:Int)))
 else
 some (decide ((↑v0.length:Int)≤(40:Int)))
theorem iW (k:Nat) (v0:List (Int×List Int)):∀ (n:Nat) (s3:Int),rt none (itX (xX (xS k) (21:Nat) (0:Nat) k false) n8 ((0:Nat)) (au (xX (xS k) (21:Nat) (0:Nat) k false) (aA (xS k).P Tryz.f21) E7) n ⟨[V.ro (List.map an v0),uu,V.lit (Value.bool false),V.lit (Value.int IntKind.i64 s3),V.junk,V.junk,V.junk,V.junk,V.junk,V.junk,V.junk,V.junk,V.junk,V.junk,V.junk,V.junk,V.junk,V.junk,V.junk,V.junk,V.junk,uu,uu,uu],[]⟩)=ob (bg k v0  n s3) fun r=>some ((.lit (.bool r)),[]):=by
 intro n
 induction n with
 | zero=>intros;rfl
 | succ n ih=>
  intro s3
  rw [bg]
  simp (maxSteps:=2000000) -implicitDefEqProofs only [adh,ZB,acf,Ik,Jv,nR,nd,↓syP,syA,syD,Nat.reduceAdd,Nat.reduceSub,Nat.reduceMul,Nat.reduceLT,Nat.reduceLeDiff,Nat.reduceEqDiff,Nat.reduceBEq,Nat.reduceBNe,Int.reduceBEq,Int.reduceBNe,Int.reduceLT,Int.reduceLE,Int.reduceAdd,Int.reduceSub,Int.reduceNeg,syE,ai,ag,af,syW,xQ,Ox,ih]
  all_goals simp -implicitDefEqProofs only [List.map_nil]
def cK (k:Nat) (v0:(List (Int×List Int))):Option Bool:=
 bg k v0 k 0
theorem eW (k:Nat) (v0:List (Int×List Int)):xC (k+1) none 21 [.ro (List.map an v0)]=ob (cK k v0) fun r=>some ((.lit (.bool r)),[]):=by
 rw [aM]
 unfold cK
 simp (maxSteps:=2000000) -implicitDefEqProofs only [adh,ZB,acf,Ik,Jv,nR,nd,↓syP,syA,syD,Nat.reduceAdd,Nat.reduceSub,Nat.reduceMul,Nat.reduceLT,Nat.reduceLeDiff,Nat.reduceEqDiff,Nat.reduceBEq,Nat.reduceBNe,Int.reduceBEq,Int.reduceBNe,Int.reduceLT,Int.reduceLE,Int.reduceAdd,Int.reduceSub,Int.reduceNeg,syE,ai,ag,af,syW,xQ,iW k v0]
 all_goals simp -implicitDefEqProofs only [List.map_nil]
def ej (v0:(Int×List Int)):Option Bool:=
 bif decide (v0.1<0) then
 some true
 else
 some (decide (20<v0.1))
theorem r7 (k:Nat) (v0_0:Int) (v0_1:List Int):xC (k+1) none 99 [.agg [.lit (.int .i64 v0_0),.ro (List.map (aG .i64) v0_1)]]=ob (ej (v0_0,v0_1)) fun r=>some ((.lit (.bool r)),[]):=by
 rw [aM]
 unfold ej
 simp (maxSteps:=2000000) -implicitDefEqProofs only [Y9,VH,Bp,iN,↓syP,syA,syD,Nat.reduceAdd,Nat.reduceSub,Nat.reduceMul,Nat.reduceLT,Nat.reduceLeDiff,Nat.reduceEqDiff,Nat.reduceBEq,Nat.reduceBNe,Int.reduceBEq,Int.reduceBNe,Int.reduceLT,Int.reduceLE,Int.reduceAdd,Int.reduceSub,Int.reduceNeg,syE,ai,ag,af,syW,xQ]
 all_goals simp -implicitDefEqProofs only [List.map_nil]
def av (k:Nat) (v0:(List (Int×List Int)))  : Nat→Int→Option Int
 | 0,_=>none
 | n+1,s12=>
 bif decide (s12<(↑v0.length:Int)) then
 ob (idx v0 s12) fun x17=>
 ob (ej (x17.1,x17.2)) fun x18=>
 bif x18 then
 some (s12)
 else
 av k v0  n (IntKind.i64.wrap (s12+(1:Int)))
 else
 some ((-1:Int))
theorem de (k:Nat) (v0:List (Int×List Int)):∀ (n:Nat) (s12:Int) ⦃j11:V⦄,rt none (itX (xX (xS (k+(8:Nat))) (147:Nat) (0:Nat) (k+(8:Nat)) false) xp ((0:Nat)) (au (xX (xS (k+(8:Nat))) (147:Nat) (0:Nat) (k+(8:Nat)) false) (aA (xS (k+(8:Nat))).P Tryz.f147) wF) n ⟨[V.ro (List.map an v0),V.fn (Fn.func (99:FuncId)) [] [],uu,uu,V.lit (Value.int IntKind.i64 (0:Int)),j11,V.ro (List.map an v0),V.lit (Value.int IntKind.i64 (↑v0.length:Int)),V.lit (Value.int IntKind.i64 s12),V.junk,V.junk,V.junk,V.junk,V.junk,V.junk,V.junk,V.junk,V.junk,V.junk],[]⟩)=ob (av k v0  n s12) fun r=>some ((.lit (.int .i64 r)),[]):=by
 intro n
 induction n with
 | zero=>intros;rfl
 | succ n ih=>
  intro s12 j11
  rw [av]
  simp (maxSteps:=2000000) -implicitDefEqProofs only [Gj,B9,Cw,lX,eC,↓syP,syA,syD,Nat.reduceAdd,Nat.reduceSub,Nat.reduceMul,Nat.reduceLT,Nat.reduceLeDiff,Nat.reduceEqDiff,Nat.reduceBEq,Nat.reduceBNe,Int.reduceBEq,Int.reduceBNe,Int.reduceLT,Int.reduceLE,Int.reduceAdd,Int.reduceSub,Int.reduceNeg,syE,ai,ag,af,syW,xQ,r7,I3,ih]
  all_goals simp -implicitDefEqProofs only [List.map_nil]
def aV (k:Nat) (v0:(List (Int×List Int))):Option Int:=
 av k v0 (k+8) 0
theorem dX (k:Nat) (v0:List (Int×List Int)):xC (k+9) none 147 [.ro (List.map an v0),V.fn (Fn.func (99:FuncId)) [] []]=ob (aV k v0) fun r=>some ((.lit (.int .i64 r)),[]):=by
 rw [aM]
 unfold aV
 simp (maxSteps:=2000000) -implicitDefEqProofs only [Gj,B9,Cw,lX,eC,↓syP,syA,syD,Nat.reduceAdd,Nat.reduceSub,Nat.reduceMul,Nat.reduceLT,Nat.reduceLeDiff,Nat.reduceEqDiff,Nat.reduceBEq,Nat.reduceBNe,Int.reduceBEq,Int.reduceBNe,Int.reduceLT,Int.reduceLE,Int.reduceAdd,Int.reduceSub,Int.reduceNeg,syE,ai,ag,af,syW,xQ,de k v0]
 all_goals simp -implicitDefEqProofs only [List.map_nil]
def aI (k:Nat) (v0:(List (Int×List Int))):Option Bool:=
 ob (aV (k+8) v0) fun x20=>
 some (decide (0≤x20))
theorem a9 (k:Nat) (v0:List (Int×List Int)):xC (k+18) none 98 [.ro (List.map an v0),V.fn (Fn.func (99:FuncId)) [] []]=ob (aI k v0) fun r=>some ((.lit (.bool r)),[]):=by
 rw [aM]
 unfold aI
 simp (maxSteps:=2000000) -implicitDefEqProofs only [Zg,U1,Gj,B9,Cw,lX,eC,↓syP,syA,syD,Nat.reduceAdd,Nat.reduceSub,Nat.reduceMul,Nat.reduceLT,Nat.reduceLeDiff,Nat.reduceEqDiff,Nat.reduceBEq,Nat.reduceBNe,Int.reduceBEq,Int.reduceBNe,Int.reduceLT,Int.reduceLE,Int.reduceAdd,Int.reduceSub,Int.reduceNeg,syE,ai,ag,af,syW,xQ,dX]
 all_goals simp -implicitDefEqProofs only [List.map_nil]
def cy (k:Nat) (v0:(List (Int×List Int))) (o0:Int→List Bool→Option Bool):Nat→List Int→Int→Int→List Bool→Int→Option Bool
 | 0,_,_,_,_,_=>none
 | n+1,s29,s30,s38,s39,s48=>
 bif decide (s38<s30) then
 ob (idx s29 s38) fun x62=>
 bif decide (x62≤s48) then
 some (false)
 else
 bif decide ((↑v0.length:Int)≤x62) then
 some (false)
 else
 bif decide ((0:Int)≤x62∧x62.toNat<v0.length) then
 ob (s39[x62.toNat]?) fun x63=>
 bif x63 then
 some (false)
 else
 bif decide ((0:Int)≤x62∧x62.toNat<v0.length) then
 ob (s39[x62.toNat]?) fun x64=>
 cy k v0 o0 n (s29) (s30) (IntKind.i64.wrap (s38+(1:Int))) (s39.set x62.toNat true) (s48)
 else
 none
 else
 none
 else
 o0 (IntKind.i64.wrap (s48+(1:Int))) (s39)
theorem mU (k:Nat) (v0:List (Int×List Int)) (n23:Nat) (o0:Int→List Bool→Option Bool) (ho0:∀ (s42:Int) (s51:List Bool) ⦃s24:Bool⦄ ⦃j40 j41 j50:V⦄,rt none (bq (itX (xX (xS (k+(17:Nat))) (148:Nat) (0:Nat) (k+(17:Nat)) false) gR ((7:Nat)) (au (xX (xS (k+(17:Nat))) (148:Nat) (0:Nat) (k+(17:Nat)) false) (aA (xS (k+(17:Nat))).P Tryz.f148) kj) n23 ⟨[V.yld (6:Nat),V.ptr (5:Nat) (0:Nat) (0:Nat) (0:Nat),uu,j40,j41,uu,j50,V.ro (List.map an v0),V.lit (Value.int IntKind.i64 (↑v0.length:Int)),V.lit (Value.int IntKind.i64 s42),V.junk,V.junk,V.junk,V.junk,V.junk,V.junk,V.junk,V.junk,V.junk,V.junk,V.junk,V.junk,V.junk,V.junk,V.junk,V.junk,V.junk,V.junk],[B.box [V.ro (List.map an v0)],B.box [V.lit (Value.bool false)],B.rows (1:Nat) (List.map k7 s51) (0:Nat) true,B.rows (0:Nat) [] (0:Nat) true,B.box [V.own (2:Nat) (0:Nat) v0.length],B.box [V.ro (List.map an v0)],(B.loop ⟨LoopState.ready,none,(56:Nat),[V.ro (List.map an v0),V.ptr (0:Nat) (0:Nat) (0:Nat) (0:Nat),V.ptr (1:Nat) (0:Nat) (0:Nat) (0:Nat),V.ptr (4:Nat) (0:Nat) (0:Nat) (0:Nat),uu,uu,V.ro (List.map an v0),V.lit (Value.int IntKind.i64 (↑v0.length:Int)),V.lit (Value.bool (decide ((30:Int)<(↑v0.length:Int)))),V.lit (Value.bool false),V.ro (List.map an v0),V.lit (Value.bool s24),V.lit (Value.bool s24),V.ro (List.map an v0),V.lit (Value.int IntKind.i64 (↑v0.length:Int)),V.own (2:Nat) (0:Nat) v0.length,V.ro (List.map an v0),V.fn (Fn.func (148:FuncId)) [] [V.ptr (5:Nat) (0:Nat) (0:Nat) (0:Nat)],uu,uu,uu,uu,uu,uu,uu,uu,uu,uu,uu,uu,uu,uu,uu,uu,uu,uu,uu,uu],[(18:Tmp),(19:Tmp)],Bh,xV⟩)]⟩) (rfK (au (xX (xS (k+(18:Nat))) (56:Nat) (0:Nat) (k+(18:Nat)) false) (aA (xS (k+(18:Nat))).P Tryz.f56) uS) [V.ro (List.map an v0),V.ptr (0:Nat) (0:Nat) (0:Nat) (0:Nat),V.ptr (1:Nat) (0:Nat) (0:Nat) (0:Nat),V.ptr (4:Nat) (0:Nat) (0:Nat) (0:Nat),uu,uu,V.ro (List.map an v0),V.lit (Value.int IntKind.i64 (↑v0.length:Int)),V.lit (Value.bool (decide ((30:Int)<(↑v0.length:Int)))),V.lit (Value.bool false),V.ro (List.map an v0),V.lit (Value.bool s24),V.lit (Value.bool s24),V.ro (List.map an v0),V.lit (Value.int IntKind.i64 (↑v0.length:Int)),V.own (2:Nat) (0:Nat) v0.length,V.ro (List.map an v0),V.fn (Fn.func (148:FuncId)) [] [V.ptr (5:Nat) (0:Nat) (0:Nat) (0:Nat)],uu,uu,uu,uu,uu,uu,uu,uu,uu,uu,uu,uu,uu,uu,uu,uu,uu,uu,uu,uu] ((6:Nat))))=ob (o0 s42 s51) fun r=>some ((.lit (.bool r)),[])):∀ (n:Nat) (s29:List Int) (s30:Int) (s38:Int) (s39:List Bool) (s48:Int) ⦃s28:Int⦄ ⦃s31:Bool⦄ ⦃s49:Bool⦄ ⦃j37:V⦄,rt none (bq (itX (xX (xS (k+(17:Nat))) (148:Nat) (0:Nat) (k+(17:Nat)) false) oZ ((9:Nat)) (au (xX (xS (k+(17:Nat))) (148:Nat) (0:Nat) (k+(17:Nat)) false) (eg (xX (xS (k+(17:Nat))) (148:Nat) (0:Nat) (k+(17:Nat)) false) gR (7:Nat) (au (xX (xS (k+(17:Nat))) (148:Nat) (0:Nat) (k+(17:Nat)) false) (aA (xS (k+(17:Nat))).P Tryz.f148) kj) n23) pw) n ⟨[V.yld (6:Nat),V.ptr (5:Nat) (0:Nat) (0:Nat) (0:Nat),uu,V.lit (Value.int IntKind.i64 s48),V.ptr (8:Nat) (0:Nat) (0:Nat) (0:Nat),uu,j37,V.ro (List.map an v0),V.lit (Value.int IntKind.i64 (↑v0.length:Int)),V.lit (Value.int IntKind.i64 s48),V.lit (Value.bool s49),V.lit (Value.int IntKind.i64 s48),V.rp [V.lit (Value.int IntKind.i64 s28),V.ro (List.map (aG IntKind.i64) s29)],V.agg [V.lit (Value.int IntKind.i64 s28),V.ro (List.map (aG IntKind.i64) s29)],V.ptr (8:Nat) (0:Nat) (0:Nat) (1:Nat),V.ro (List.map (aG IntKind.i64) s29),V.lit (Value.int IntKind.i64 s30),V.lit (Value.int IntKind.i64 s38),V.junk,V.junk,V.junk,V.junk,V.junk,V.junk,V.junk,V.junk,V.junk,V.junk],[B.box [V.ro (List.map an v0)],B.box [V.lit (Value.bool false)],B.rows (1:Nat) (List.map k7 s39) (0:Nat) true,B.rows (0:Nat) [] (0:Nat) true,B.box [V.own (2:Nat) (0:Nat) v0.length],B.box [V.ro (List.map an v0)],(B.loop ⟨LoopState.ready,none,(56:Nat),[V.ro (List.map an v0),V.ptr (0:Nat) (0:Nat) (0:Nat) (0:Nat),V.ptr (1:Nat) (0:Nat) (0:Nat) (0:Nat),V.ptr (4:Nat) (0:Nat) (0:Nat) (0:Nat),uu,uu,V.ro (List.map an v0),V.lit (Value.int IntKind.i64 (↑v0.length:Int)),V.lit (Value.bool (decide ((30:Int)<(↑v0.length:Int)))),V.lit (Value.bool false),V.ro (List.map an v0),V.lit (Value.bool s31),V.lit (Value.bool s31),V.ro (List.map an v0),V.lit (Value.int IntKind.i64 (↑v0.length:Int)),V.own (2:Nat) (0:Nat) v0.length,V.ro (List.map an v0),V.fn (Fn.func (148:FuncId)) [] [V.ptr (5:Nat) (0:Nat) (0:Nat) (0:Nat)],uu,uu,uu,uu,uu,uu,uu,uu,uu,uu,uu,uu,uu,uu,uu,uu,uu,uu,uu,uu],[(18:Tmp),(19:Tmp)],Bh,xV⟩),B.rows (0:Nat) [] (0:Nat) true,B.box [V.lit (Value.int IntKind.i64 s28),V.ro (List.map (aG IntKind.i64) s29)]]⟩) (rfK (au (xX (xS (k+(18:Nat))) (56:Nat) (0:Nat) (k+(18:Nat)) false) (aA (xS (k+(18:Nat))).P Tryz.f56) uS) [V.ro (List.map an v0),V.ptr (0:Nat) (0:Nat) (0:Nat) (0:Nat),V.ptr (1:Nat) (0:Nat) (0:Nat) (0:Nat),V.ptr (4:Nat) (0:Nat) (0:Nat) (0:Nat),uu,uu,V.ro (List.map an v0),V.lit (Value.int IntKind.i64 (↑v0.length:Int)),V.lit (Value.bool (decide ((30:Int)<(↑v0.length:Int)))),V.lit (Value.bool false),V.ro (List.map an v0),V.lit (Value.bool s31),V.lit (Value.bool s31),V.ro (List.map an v0),V.lit (Value.int IntKind.i64 (↑v0.length:Int)),V.own (2:Nat) (0:Nat) v0.length,V.ro (List.map an v0),V.fn (Fn.func (148:FuncId)) [] [V.ptr (5:Nat) (0:Nat) (0:Nat) (0:Nat)],uu,uu,uu,uu,uu,uu,uu,uu,uu,uu,uu,uu,uu,uu,uu,uu,uu,uu,uu,uu] ((6:Nat))))=ob (cy k v0 o0 n s29 s30 s38 s39 s48) fun r=>some ((.lit (.bool r)),[]):=by
 intro n
 induction n with
 | zero=>intros;rfl
 | succ n ih=>
  intro s29 s30 s38 s39 s48 s28 s31 s49 j37
  rw [cy]
  simp (maxSteps:=2000000) -implicitDefEqProofs only [ZH,Zk,Y6,D4,EP,dI,dG,DL,DX,lC,lk,lB,rM,Zg,U1,Y9,VH,Bp,iN,F0,Dc,aM (g:=100),Gj,B9,Cw,lX,eC,Fe,B2,Du,lS,mh,eD,eB,↓syP,syA,syD,Nat.reduceAdd,Nat.reduceSub,Nat.reduceMul,Nat.reduceLT,Nat.reduceLeDiff,Nat.reduceEqDiff,Nat.reduceBEq,Nat.reduceBNe,Int.reduceBEq,Int.reduceBNe,Int.reduceLT,Int.reduceLE,Int.reduceAdd,Int.reduceSub,Int.reduceNeg,syE,ai,ag,af,syW,xQ,a9,Cy,ih,ho0]
  all_goals simp -implicitDefEqProofs only [List.map_nil]
def bF (k:Nat) (v0:(List (Int×List Int)))  : Nat→Int→List Bool→Option Bool
 | 0,_,_=>none
 | n+1,s42,s51=>
 bif decide (s42<(↑v0.length:Int)) then
 ob (idx v0 s42) fun x58=>
 cy k v0 (fun s42 s51=>bF k v0  n s42 s51) (k+(17:Nat)) (x58.2) ((↑x58.2.length:Int)) ((0:Int)) (s51) (s42)
 else
 some (true)
theorem mG (k:Nat) (v0:List (Int×List Int)):∀ (n:Nat) (s42:Int) (s51:List Bool) ⦃s24:Bool⦄ ⦃j40 j41 j50:V⦄,rt none (bq (itX (xX (xS (k+(17:Nat))) (148:Nat) (0:Nat) (k+(17:Nat)) false) gR ((7:Nat)) (au (xX (xS (k+(17:Nat))) (148:Nat) (0:Nat) (k+(17:Nat)) false) (aA (xS (k+(17:Nat))).P Tryz.f148) kj) n ⟨[V.yld (6:Nat),V.ptr (5:Nat) (0:Nat) (0:Nat) (0:Nat),uu,j40,j41,uu,j50,V.ro (List.map an v0),V.lit (Value.int IntKind.i64 (↑v0.length:Int)),V.lit (Value.int IntKind.i64 s42),V.junk,V.junk,V.junk,V.junk,V.junk,V.junk,V.junk,V.junk,V.junk,V.junk,V.junk,V.junk,V.junk,V.junk,V.junk,V.junk,V.junk,V.junk],[B.box [V.ro (List.map an v0)],B.box [V.lit (Value.bool false)],B.rows (1:Nat) (List.map k7 s51) (0:Nat) true,B.rows (0:Nat) [] (0:Nat) true,B.box [V.own (2:Nat) (0:Nat) v0.length],B.box [V.ro (List.map an v0)],(B.loop ⟨LoopState.ready,none,(56:Nat),[V.ro (List.map an v0),V.ptr (0:Nat) (0:Nat) (0:Nat) (0:Nat),V.ptr (1:Nat) (0:Nat) (0:Nat) (0:Nat),V.ptr (4:Nat) (0:Nat) (0:Nat) (0:Nat),uu,uu,V.ro (List.map an v0),V.lit (Value.int IntKind.i64 (↑v0.length:Int)),V.lit (Value.bool (decide ((30:Int)<(↑v0.length:Int)))),V.lit (Value.bool false),V.ro (List.map an v0),V.lit (Value.bool s24),V.lit (Value.bool s24),V.ro (List.map an v0),V.lit (Value.int IntKind.i64 (↑v0.length:Int)),V.own (2:Nat) (0:Nat) v0.length,V.ro (List.map an v0),V.fn (Fn.func (148:FuncId)) [] [V.ptr (5:Nat) (0:Nat) (0:Nat) (0:Nat)],uu,uu,uu,uu,uu,uu,uu,uu,uu,uu,uu,uu,uu,uu,uu,uu,uu,uu,uu,uu],[(18:Tmp),(19:Tmp)],Bh,xV⟩)]⟩) (rfK (au (xX (xS (k+(18:Nat))) (56:Nat) (0:Nat) (k+(18:Nat)) false) (aA (xS (k+(18:Nat))).P Tryz.f56) uS) [V.ro (List.map an v0),V.ptr (0:Nat) (0:Nat) (0:Nat) (0:Nat),V.ptr (1:Nat) (0:Nat) (0:Nat) (0:Nat),V.ptr (4:Nat) (0:Nat) (0:Nat) (0:Nat),uu,uu,V.ro (List.map an v0),V.lit (Value.int IntKind.i64 (↑v0.length:Int)),V.lit (Value.bool (decide ((30:Int)<(↑v0.length:Int)))),V.lit (Value.bool false),V.ro (List.map an v0),V.lit (Value.bool s24),V.lit (Value.bool s24),V.ro (List.map an v0),V.lit (Value.int IntKind.i64 (↑v0.length:Int)),V.own (2:Nat) (0:Nat) v0.length,V.ro (List.map an v0),V.fn (Fn.func (148:FuncId)) [] [V.ptr (5:Nat) (0:Nat) (0:Nat) (0:Nat)],uu,uu,uu,uu,uu,uu,uu,uu,uu,uu,uu,uu,uu,uu,uu,uu,uu,uu,uu,uu] ((6:Nat))))=ob (bF k v0  n s42 s51) fun r=>some ((.lit (.bool r)),[]):=by
 intro n
 induction n with
 | zero=>intros;rfl
 | succ n ih=>
  intro s42 s51 s24 j40 j41 j50
  rw [bF]
  simp (maxSteps:=2000000) -implicitDefEqProofs only [ZH,Zk,Y6,D4,EP,dI,dG,DL,DX,lC,lk,lB,rM,Zg,U1,Y9,VH,Bp,iN,F0,Dc,aM (g:=100),Gj,B9,Cw,lX,eC,Fe,B2,Du,lS,mh,eD,eB,↓syP,syA,syD,Nat.reduceAdd,Nat.reduceSub,Nat.reduceMul,Nat.reduceLT,Nat.reduceLeDiff,Nat.reduceEqDiff,Nat.reduceBEq,Nat.reduceBNe,Int.reduceBEq,Int.reduceBNe,Int.reduceLT,Int.reduceLE,Int.reduceAdd,Int.reduceSub,Int.reduceNeg,syE,ai,ag,af,syW,xQ,a9,C2,ih,mU k v0 _ (fun s42 s51=>bF k v0  n s42 s51) ih]
  all_goals simp -implicitDefEqProofs only [List.map_nil]
def cw (k:Nat) (v0:(List (Int×List Int))):Option Bool:=
 bif decide (30<(↑v0.length:Int)) then
 some false
 else
 ob (aI k v0) fun x65=>
 bif x65 then
 some false
 else
 bif decide (0≤(↑v0.length:Int)∧(↑v0.length:Int)≤9223372036854775807∧(↑v0.length:Int)*1≤70368744177664) then
 bF k v0 (k+17) 0 (List.replicate v0.length false)
 else
 none
theorem cr (k:Nat) (v0:List (Int×List Int)):xC (k+19) none 56 [.ro (List.map an v0)]=ob (cw k v0) fun r=>some ((.lit (.bool r)),[]):=by
 rw [aM]
 unfold cw
 simp (maxSteps:=2000000) -implicitDefEqProofs only [ZH,Zk,Y6,D4,EP,dI,dG,DL,DX,lC,lk,lB,rM,Zg,U1,Y9,VH,Bp,iN,F0,Dc,aM (g:=100),Gj,B9,Cw,lX,eC,Fe,B2,Du,lS,mh,eD,eB,↓syP,syA,syD,Nat.reduceAdd,Nat.reduceSub,Nat.reduceMul,Nat.reduceLT,Nat.reduceLeDiff,Nat.reduceEqDiff,Nat.reduceBEq,Nat.reduceBNe,Int.reduceBEq,Int.reduceBNe,Int.reduceLT,Int.reduceLE,Int.reduceAdd,Int.reduceSub,Int.reduceNeg,syE,ai,ag,af,syW,xQ,a9,mG k v0]
 all_goals simp -implicitDefEqProofs only [List.map_nil]
def bH (k:Nat) (v0:(List (Int×List Int))) (v1:Int) (o0:Int→Option Int):Nat→List Int→Int→Int→Int→Option Int
 | 0,_,_,_,_=>none
 | n+1,s114,s115,s121,s128=>
 bif decide (s121<s115) then
 ob (idx s114 s121) fun x137=>
 bif x137==v1 then
 some (s128)
 else
 bH k v0 v1 o0 n (s114) (s115) (IntKind.i64.wrap (s121+(1:Int))) (s128)
 else
 o0 (IntKind.i64.wrap (s128+(1:Int)))
theorem kU (k:Nat) (v0:List (Int×List Int)) (v1:Int) (n108:Nat) (o0:Int→Option Int) (ho0:∀ (s124:Int) ⦃s109:Bool⦄ ⦃j122 j123 j130:V⦄,rt none (bq (itX (xX (xS (k+(18:Nat))) (148:Nat) (0:Nat) (k+(18:Nat)) false) gR ((4:Nat)) (au (xX (xS (k+(18:Nat))) (148:Nat) (0:Nat) (k+(18:Nat)) false) (aA (xS (k+(18:Nat))).P Tryz.f148) kj) n108 ⟨[V.yld (3:Nat),V.ptr (2:Nat) (0:Nat) (0:Nat) (0:Nat),uu,j122,j123,uu,j130,V.ro (List.map an v0),V.lit (Value.int IntKind.i64 (↑v0.length:Int)),V.lit (Value.int IntKind.i64 s124),V.junk,V.junk,V.junk,V.junk,V.junk,V.junk,V.junk,V.junk,V.junk,V.junk,V.junk,V.junk,V.junk,V.junk,V.junk,V.junk,V.junk,V.junk],[B.box [V.lit (Value.int IntKind.i64 v1)],B.box [V.lit (Value.int IntKind.i64 (0:Int))],B.box [V.ro (List.map an v0)],(B.loop ⟨LoopState.ready,none,(101:Nat),[V.ro (List.map an v0),V.lit (Value.int IntKind.i64 v1),uu,V.ptr (0:Nat) (0:Nat) (0:Nat) (0:Nat),V.ptr (1:Nat) (0:Nat) (0:Nat) (0:Nat),uu,uu,V.ro (List.map an v0),V.lit (Value.bool s109),V.ro (List.map an v0),V.fn (Fn.func (148:FuncId)) [] [V.ptr (2:Nat) (0:Nat) (0:Nat) (0:Nat)],uu,uu,uu,uu,uu,uu],[(11:Tmp),(12:Tmp)],pT,ri⟩)]⟩) (rfK (au (xX (xS (k+(19:Nat))) (101:Nat) (0:Nat) (k+(19:Nat)) false) (aA (xS (k+(19:Nat))).P Tryz.f101) nH) [V.ro (List.map an v0),V.lit (Value.int IntKind.i64 v1),uu,V.ptr (0:Nat) (0:Nat) (0:Nat) (0:Nat),V.ptr (1:Nat) (0:Nat) (0:Nat) (0:Nat),uu,uu,V.ro (List.map an v0),V.lit (Value.bool s109),V.ro (List.map an v0),V.fn (Fn.func (148:FuncId)) [] [V.ptr (2:Nat) (0:Nat) (0:Nat) (0:Nat)],uu,uu,uu,uu,uu,uu] ((3:Nat))))=ob (o0 s124) fun r=>some ((.lit (.int .i64 r)),[])):∀ (n:Nat) (s114:List Int) (s115:Int) (s121:Int) (s128:Int) ⦃s113:Int⦄ ⦃s116:Bool⦄ ⦃s129:Bool⦄ ⦃j120:V⦄,rt none (bq (itX (xX (xS (k+(18:Nat))) (148:Nat) (0:Nat) (k+(18:Nat)) false) oZ ((6:Nat)) (au (xX (xS (k+(18:Nat))) (148:Nat) (0:Nat) (k+(18:Nat)) false) (eg (xX (xS (k+(18:Nat))) (148:Nat) (0:Nat) (k+(18:Nat)) false) gR (4:Nat) (au (xX (xS (k+(18:Nat))) (148:Nat) (0:Nat) (k+(18:Nat)) false) (aA (xS (k+(18:Nat))).P Tryz.f148) kj) n108) pw) n ⟨[V.yld (3:Nat),V.ptr (2:Nat) (0:Nat) (0:Nat) (0:Nat),uu,V.lit (Value.int IntKind.i64 s128),V.ptr (5:Nat) (0:Nat) (0:Nat) (0:Nat),uu,j120,V.ro (List.map an v0),V.lit (Value.int IntKind.i64 (↑v0.length:Int)),V.lit (Value.int IntKind.i64 s128),V.lit (Value.bool s129),V.lit (Value.int IntKind.i64 s128),V.rp [V.lit (Value.int IntKind.i64 s113),V.ro (List.map (aG IntKind.i64) s114)],V.agg [V.lit (Value.int IntKind.i64 s113),V.ro (List.map (aG IntKind.i64) s114)],V.ptr (5:Nat) (0:Nat) (0:Nat) (1:Nat),V.ro (List.map (aG IntKind.i64) s114),V.lit (Value.int IntKind.i64 s115),V.lit (Value.int IntKind.i64 s121),V.junk,V.junk,V.junk,V.junk,V.junk,V.junk,V.junk,V.junk,V.junk,V.junk],[B.box [V.lit (Value.int IntKind.i64 v1)],B.box [V.lit (Value.int IntKind.i64 (0:Int))],B.box [V.ro (List.map an v0)],(B.loop ⟨LoopState.ready,none,(101:Nat),[V.ro (List.map an v0),V.lit (Value.int IntKind.i64 v1),uu,V.ptr (0:Nat) (0:Nat) (0:Nat) (0:Nat),V.ptr (1:Nat) (0:Nat) (0:Nat) (0:Nat),uu,uu,V.ro (List.map an v0),V.lit (Value.bool s116),V.ro (List.map an v0),V.fn (Fn.func (148:FuncId)) [] [V.ptr (2:Nat) (0:Nat) (0:Nat) (0:Nat)],uu,uu,uu,uu,uu,uu],[(11:Tmp),(12:Tmp)],pT,ri⟩),B.rows (0:Nat) [] (0:Nat) true,B.box [V.lit (Value.int IntKind.i64 s113),V.ro (List.map (aG IntKind.i64) s114)]]⟩) (rfK (au (xX (xS (k+(19:Nat))) (101:Nat) (0:Nat) (k+(19:Nat)) false) (aA (xS (k+(19:Nat))).P Tryz.f101) nH) [V.ro (List.map an v0),V.lit (Value.int IntKind.i64 v1),uu,V.ptr (0:Nat) (0:Nat) (0:Nat) (0:Nat),V.ptr (1:Nat) (0:Nat) (0:Nat) (0:Nat),uu,uu,V.ro (List.map an v0),V.lit (Value.bool s116),V.ro (List.map an v0),V.fn (Fn.func (148:FuncId)) [] [V.ptr (2:Nat) (0:Nat) (0:Nat) (0:Nat)],uu,uu,uu,uu,uu,uu] ((3:Nat))))=ob (bH k v0 v1 o0 n s114 s115 s121 s128) fun r=>some ((.lit (.int .i64 r)),[]):=by
 intro n
 induction n with
 | zero=>intros;rfl
 | succ n ih=>
  intro s114 s115 s121 s128 s113 s116 s129 j120
  rw [bH]
  simp (maxSteps:=2000000) -implicitDefEqProofs only [F0,Dc,aM (g:=100),SG,Mk,NV,wh,dm,dn,ku,nP,Fe,B2,Du,lS,mh,eD,eB,↓syP,syA,syD,Nat.reduceAdd,Nat.reduceSub,Nat.reduceMul,Nat.reduceLT,Nat.reduceLeDiff,Nat.reduceEqDiff,Nat.reduceBEq,Nat.reduceBNe,Int.reduceBEq,Int.reduceBNe,Int.reduceLT,Int.reduceLE,Int.reduceAdd,Int.reduceSub,Int.reduceNeg,syE,ai,ag,af,syW,xQ,cr,Cy,ih,ho0]
  all_goals simp -implicitDefEqProofs only [List.map_nil]
def bv (k:Nat) (v0:(List (Int×List Int))) (v1:Int)  : Nat→Int→Option Int
 | 0,_=>none
 | n+1,s124=>
 bif decide (s124<(↑v0.length:Int)) then
 ob (idx v0 s124) fun x135=>
 bH k v0 v1 (fun s124=>bv k v0 v1  n s124) (k+(18:Nat)) (x135.2) ((↑x135.2.length:Int)) ((0:Int)) (s124)
 else
 some ((-1:Int))
theorem kP (k:Nat) (v0:List (Int×List Int)) (v1:Int):∀ (n:Nat) (s124:Int) ⦃s109:Bool⦄ ⦃j122 j123 j130:V⦄,rt none (bq (itX (xX (xS (k+(18:Nat))) (148:Nat) (0:Nat) (k+(18:Nat)) false) gR ((4:Nat)) (au (xX (xS (k+(18:Nat))) (148:Nat) (0:Nat) (k+(18:Nat)) false) (aA (xS (k+(18:Nat))).P Tryz.f148) kj) n ⟨[V.yld (3:Nat),V.ptr (2:Nat) (0:Nat) (0:Nat) (0:Nat),uu,j122,j123,uu,j130,V.ro (List.map an v0),V.lit (Value.int IntKind.i64 (↑v0.length:Int)),V.lit (Value.int IntKind.i64 s124),V.junk,V.junk,V.junk,V.junk,V.junk,V.junk,V.junk,V.junk,V.junk,V.junk,V.junk,V.junk,V.junk,V.junk,V.junk,V.junk,V.junk,V.junk],[B.box [V.lit (Value.int IntKind.i64 v1)],B.box [V.lit (Value.int IntKind.i64 (0:Int))],B.box [V.ro (List.map an v0)],(B.loop ⟨LoopState.ready,none,(101:Nat),[V.ro (List.map an v0),V.lit (Value.int IntKind.i64 v1),uu,V.ptr (0:Nat) (0:Nat) (0:Nat) (0:Nat),V.ptr (1:Nat) (0:Nat) (0:Nat) (0:Nat),uu,uu,V.ro (List.map an v0),V.lit (Value.bool s109),V.ro (List.map an v0),V.fn (Fn.func (148:FuncId)) [] [V.ptr (2:Nat) (0:Nat) (0:Nat) (0:Nat)],uu,uu,uu,uu,uu,uu],[(11:Tmp),(12:Tmp)],pT,ri⟩)]⟩) (rfK (au (xX (xS (k+(19:Nat))) (101:Nat) (0:Nat) (k+(19:Nat)) false) (aA (xS (k+(19:Nat))).P Tryz.f101) nH) [V.ro (List.map an v0),V.lit (Value.int IntKind.i64 v1),uu,V.ptr (0:Nat) (0:Nat) (0:Nat) (0:Nat),V.ptr (1:Nat) (0:Nat) (0:Nat) (0:Nat),uu,uu,V.ro (List.map an v0),V.lit (Value.bool s109),V.ro (List.map an v0),V.fn (Fn.func (148:FuncId)) [] [V.ptr (2:Nat) (0:Nat) (0:Nat) (0:Nat)],uu,uu,uu,uu,uu,uu] ((3:Nat))))=ob (bv k v0 v1  n s124) fun r=>some ((.lit (.int .i64 r)),[]):=by
 intro n
 induction n with
 | zero=>intros;rfl
 | succ n ih=>
  intro s124 s109 j122 j123 j130
  rw [bv]
  simp (maxSteps:=2000000) -implicitDefEqProofs only [F0,Dc,aM (g:=100),SG,Mk,NV,wh,dm,dn,ku,nP,Fe,B2,Du,lS,mh,eD,eB,↓syP,syA,syD,Nat.reduceAdd,Nat.reduceSub,Nat.reduceMul,Nat.reduceLT,Nat.reduceLeDiff,Nat.reduceEqDiff,Nat.reduceBEq,Nat.reduceBNe,Int.reduceBEq,Int.reduceBNe,Int.reduceLT,Int.reduceLE,Int.reduceAdd,Int.reduceSub,Int.reduceNeg,syE,ai,ag,af,syW,xQ,cr,C2,ih,kU k v0 v1 _ (fun s124=>bv k v0 v1  n s124) ih]
  all_goals simp -implicitDefEqProofs only [List.map_nil]
def dR (k:Nat) (v0:(List (Int×List Int))) (v1:Int):Option Int:=
 ob (cw k v0) fun x138=>
 bif x138 then
 bv k v0 v1 (k+18) 0
 else
 some ((-1))
theorem pD (k:Nat) (v0:List (Int×List Int)) (v1:Int):xC (k+20) none 101 [.ro (List.map an v0),.lit (.int .i64 v1)]=ob (dR k v0 v1) fun r=>some ((.lit (.int .i64 r)),[]):=by
 rw [aM]
 unfold dR
 simp (maxSteps:=2000000) -implicitDefEqProofs only [F0,Dc,aM (g:=100),SG,Mk,NV,wh,dm,dn,ku,nP,Fe,B2,Du,lS,mh,eD,eB,↓syP,syA,syD,Nat.reduceAdd,Nat.reduceSub,Nat.reduceMul,Nat.reduceLT,Nat.reduceLeDiff,Nat.reduceEqDiff,Nat.reduceBEq,Nat.reduceBNe,Int.reduceBEq,Int.reduceBNe,Int.reduceLT,Int.reduceLE,Int.reduceAdd,Int.reduceSub,Int.reduceNeg,syE,ai,ag,af,syW,xQ,cr,kP k v0 v1]
 all_goals simp -implicitDefEqProofs only [List.map_nil]
end Go.Ab
set_option maxRecDepth 100000
set_option linter.unusedVariables false
set_option linter.unusedSimpArgs false
namespace Go.Ab
open Go.Proofs
def dD (v0:Int) (v1:Int) (v2:Int):Option Bool:=
 bif decide (v1≤v0) then
 some (decide (v0≤v2))
 else
 some false
theorem kg (k:Nat) (v0 v1 v2:Int):xC (k+1) none 93 [.lit (.int .i64 v0),.lit (.int .i64 v1),.lit (.int .i64 v2)]=ob (dD v0 v1 v2) fun r=>some ((.lit (.bool r)),[]):=by
 rw [aM]
 unfold dD
 simp (maxSteps:=2000000) -implicitDefEqProofs only [adQ,ado,O2,ue,↓syP,syA,syD,Nat.reduceAdd,Nat.reduceSub,Nat.reduceMul,Nat.reduceLT,Nat.reduceLeDiff,Nat.reduceEqDiff,Nat.reduceBEq,Nat.reduceBNe,Int.reduceBEq,Int.reduceBNe,Int.reduceLT,Int.reduceLE,Int.reduceAdd,Int.reduceSub,Int.reduceNeg,syE,ai,ag,af,syW,xQ]
 all_goals simp -implicitDefEqProofs only [List.map_nil]
def bK (v0:(Int×Int×Int×Int)):Option Bool:=
 ob (dD v0.1 1 8) fun x5=>
 bif x5 then
 ob (dD v0.2.1 1 16) fun x6=>
 bif x6 then
 bif rQ IntKind.i64 v0.2.1 (IntKind.i64.wrap (v0.2.1 - 1))==0 then
 ob (dD v0.2.2.1 1 16) fun x7=>
 bif x7 then
 ob (dD v0.2.2.2 0 4) fun x8=>
 some x8
 else
 some false
 else
 some false
 else
 some false
 else
 some false
theorem bT (k:Nat) (v0_0 v0_1 v0_2 v0_3:Int):xC (k+2) none 50 [.agg [.lit (.int .i64 v0_0),.lit (.int .i64 v0_1),.lit (.int .i64 v0_2),.lit (.int .i64 v0_3)]]=ob (bK (v0_0,v0_1,v0_2,v0_3)) fun r=>some ((.lit (.bool r)),[]):=by
 rw [aM]
 unfold bK
 simp (maxSteps:=2000000) -implicitDefEqProofs only [adY,adu,OI,Oz,Pm,Pe,uR,↓syP,syA,syD,Nat.reduceAdd,Nat.reduceSub,Nat.reduceMul,Nat.reduceLT,Nat.reduceLeDiff,Nat.reduceEqDiff,Nat.reduceBEq,Nat.reduceBNe,Int.reduceBEq,Int.reduceBNe,Int.reduceLT,Int.reduceLE,Int.reduceAdd,Int.reduceSub,Int.reduceNeg,syE,ai,ag,af,syW,xQ,kg]
 all_goals simp -implicitDefEqProofs only [List.map_nil]
def ed (v0:(Int×Int×Int×Int)) (v1:Int):Option Int:=
 some (IntKind.i64.wrap (IntKind.i64.wrap (6+IntKind.i64.wrap (2*v0.2.2.1))+IntKind.i64.wrap (v1*IntKind.i64.wrap (3+v0.2.1))))
theorem iI (k:Nat) (v0_0 v0_1 v0_2 v0_3 v1:Int):xC (k+1) none 72 [.agg [.lit (.int .i64 v0_0),.lit (.int .i64 v0_1),.lit (.int .i64 v0_2),.lit (.int .i64 v0_3)],.lit (.int .i64 v1)]=ob (ed (v0_0,v0_1,v0_2,v0_3) v1) fun r=>some ((.lit (.int .i64 r)),[]):=by
 rw [aM]
 unfold ed
 simp (maxSteps:=2000000) -implicitDefEqProofs only [adE,ads,↓syP,syA,syD,Nat.reduceAdd,Nat.reduceSub,Nat.reduceMul,Nat.reduceLT,Nat.reduceLeDiff,Nat.reduceEqDiff,Nat.reduceBEq,Nat.reduceBNe,Int.reduceBEq,Int.reduceBNe,Int.reduceLT,Int.reduceLE,Int.reduceAdd,Int.reduceSub,Int.reduceNeg,syE,ai,ag,af,syW,xQ]
 all_goals simp -implicitDefEqProofs only [List.map_nil]
def da (v0:(Int×Int×Int×Int)):Option Int:=
 ob (bK v0) fun x16=>
 bif !x16 then
 some 0
 else
 ob (ed v0 v0.1) fun x17=>
 some x17
theorem fo (k:Nat) (v0_0 v0_1 v0_2 v0_3:Int):xC (k+3) none 103 [.agg [.lit (.int .i64 v0_0),.lit (.int .i64 v0_1),.lit (.int .i64 v0_2),.lit (.int .i64 v0_3)]]=ob (da (v0_0,v0_1,v0_2,v0_3)) fun r=>some ((.lit (.int .i64 r)),[]):=by
 rw [aM]
 unfold da
 simp (maxSteps:=2000000) -implicitDefEqProofs only [Zv,XC,↓syP,syA,syD,Nat.reduceAdd,Nat.reduceSub,Nat.reduceMul,Nat.reduceLT,Nat.reduceLeDiff,Nat.reduceEqDiff,Nat.reduceBEq,Nat.reduceBNe,Int.reduceBEq,Int.reduceBNe,Int.reduceLT,Int.reduceLE,Int.reduceAdd,Int.reduceSub,Int.reduceNeg,syE,ai,ag,af,syW,xQ,bT,iI]
 all_goals simp -implicitDefEqProofs only [List.map_nil]
def fC (v0:(List Int)) (v1:Int):Option Bool:=
 bif decide (0≤v1) then
 some (decide (v1<(↑v0.length:Int)))
 else
 some false
theorem mA (k:Nat) (v0:List Int) (v1:Int):xC (k+1) none 66 [.ro (List.map (aG .u64) v0),.lit (.int .i64 v1)]=ob (fC v0 v1) fun r=>some ((.lit (.bool r)),[]):=by
 rw [aM]
 unfold fC
 simp (maxSteps:=2000000) -implicitDefEqProofs only [adA,adv,Pk,uH,↓syP,syA,syD,Nat.reduceAdd,Nat.reduceSub,Nat.reduceMul,Nat.reduceLT,Nat.reduceLeDiff,Nat.reduceEqDiff,Nat.reduceBEq,Nat.reduceBNe,Int.reduceBEq,Int.reduceBNe,Int.reduceLT,Int.reduceLE,Int.reduceAdd,Int.reduceSub,Int.reduceNeg,syE,ai,ag,af,syW,xQ]
 all_goals simp -implicitDefEqProofs only [List.map_nil]
def aD (v0:(List Int)) (v1:Int):Option Int:=
 ob (fC v0 v1) fun x22=>
 bif !x22 then
 some 0
 else
 ob (idx v0 v1) fun x23=>
 some x23
theorem cE (k:Nat) (v0:List Int) (v1:Int):xC (k+2) none 27 [.ro (List.map (aG .u64) v0),.lit (.int .i64 v1)]=ob (aD v0 v1) fun r=>some ((.lit (.int .u64 r)),[]):=by
 rw [aM]
 unfold aD
 simp (maxSteps:=2000000) -implicitDefEqProofs only [adK,adm,↓syP,syA,syD,Nat.reduceAdd,Nat.reduceSub,Nat.reduceMul,Nat.reduceLT,Nat.reduceLeDiff,Nat.reduceEqDiff,Nat.reduceBEq,Nat.reduceBNe,Int.reduceBEq,Int.reduceBNe,Int.reduceLT,Int.reduceLE,Int.reduceAdd,Int.reduceSub,Int.reduceNeg,syE,ai,ag,af,syW,xQ,mA]
 all_goals simp -implicitDefEqProofs only [List.map_nil]
def bk (v0:(List Int)) (v1:Int) (v2:Int):Option (List Int):=
 ob (aJ 8 v0) fun x31=>
 ob (fC v0 v1) fun x32=>
 bif !x32 then
 some x31
 else
 ob (idx v0 v1) fun x33=>
 bif decide (0≤v1∧v1.toNat<x31.length) then
 ob (x31[v1.toNat]?) fun x34=>
 ob (idx v0 v1) fun x35=>
 some (x31.set v1.toNat v2)
 else
 none
theorem dL (k:Nat) (v0:List Int) (v1 v2:Int):xC (k+11) none 88 [.ro (List.map (aG .u64) v0),.lit (.int .i64 v1),.lit (.int .u64 v2)]=ob (bk v0 v1 v2) fun r=>some ((.ro (List.map (aG .u64) r)),[]):=by
 rw [aM]
 unfold bk
 simp (maxSteps:=2000000) -implicitDefEqProofs only [adI,ac9,Ta,Oh,acj,W7,↓syP,syA,syD,Nat.reduceAdd,Nat.reduceSub,Nat.reduceMul,Nat.reduceLT,Nat.reduceLeDiff,Nat.reduceEqDiff,Nat.reduceBEq,Nat.reduceBNe,Int.reduceBEq,Int.reduceBNe,Int.reduceLT,Int.reduceLE,Int.reduceAdd,Int.reduceSub,Int.reduceNeg,syE,ai,ag,af,syW,xQ,mA]
 all_goals simp -implicitDefEqProofs only [List.map_nil]
def cH (v0:(List Int)) (v1:Int) (v2:Int):Option ((List Int)×Int):=
 ob (aJ 8 v0) fun x46=>
 ob (fC v0 v1) fun x47=>
 bif !x47 then
 some (x46,0)
 else
 ob (idx v0 v1) fun x48=>
 bif decide (0≤v1∧v1.toNat<x46.length) then
 ob (x46[v1.toNat]?) fun x49=>
 ob (idx v0 v1) fun x50=>
 some ((x46.set v1.toNat (IntKind.u64.wrap (x48+v2))),x50)
 else
 none
theorem uB (k:Nat) (v0:List Int) (v1 v2:Int):xC (k+11) none 138 [.ro (List.map (aG .u64) v0),.lit (.int .i64 v1),.lit (.int .u64 v2)]=ob (cH v0 v1 v2) fun r=>some ((.tup [.ro (List.map (aG .u64) r.1),.lit (.int .u64 r.2)]),[]):=by
 rw [aM]
 unfold cH
 simp (maxSteps:=2000000) -implicitDefEqProofs only [aab,UP,Ta,Oh,abv,Uf,↓syP,syA,syD,Nat.reduceAdd,Nat.reduceSub,Nat.reduceMul,Nat.reduceLT,Nat.reduceLeDiff,Nat.reduceEqDiff,Nat.reduceBEq,Nat.reduceBNe,Int.reduceBEq,Int.reduceBNe,Int.reduceLT,Int.reduceLE,Int.reduceAdd,Int.reduceSub,Int.reduceNeg,syE,ai,ag,af,syW,xQ,mA]
 all_goals simp -implicitDefEqProofs only [List.map_nil]
def cG (v0 : (List Int)) (v1 : Int) (v2 : Int) (v3 : Int) : Option ((List Int) × Bool) :=
 ob (aJ 8 v0) fun x63 =>
 ob (fC v0 v1) fun x64 =>
 bif !x64 then
 some (x63,false)
 else
 ob (idx v0 v1) fun x65 =>
 bif x65 != v2 then
 bif decide (0 ≤ v1 ∧ v1.toNat < x63.length) then
 ob (x63[v1.toNat]?) fun x66 =>
 ob (idx v0 v1) fun x67 =>
 some ((x63.set v1.toNat x65),false)
 else
 none
 else
 bif decide (0 ≤ v1 ∧ v1.toNat < x63.length) then
 ob (x63[v1.toNat]?) fun x68 =>
 ob (idx v0 v1) fun x69 =>
 some ((x63.set v1.toNat v3),true)
 else
 none
theorem gr (k:Nat) (v0:List Int) (v1 v2 v3:Int):xC (k+11) none 191 [.ro (List.map (aG .u64) v0),.lit (.int .i64 v1),.lit (.int .u64 v2),.lit (.int .u64 v3)]=ob (cG v0 v1 v2 v3) fun r=>some ((.tup [.ro (List.map (aG .u64) r.1),.lit (.bool r.2)]),[]):=by
 rw [aM]
 unfold cG
 simp (maxSteps:=2000000) -implicitDefEqProofs only [Ta,Oh,acQ,Yl,acu,X6,↓syP,syA,syD,Nat.reduceAdd,Nat.reduceSub,Nat.reduceMul,Nat.reduceLT,Nat.reduceLeDiff,Nat.reduceEqDiff,Nat.reduceBEq,Nat.reduceBNe,Int.reduceBEq,Int.reduceBNe,Int.reduceLT,Int.reduceLE,Int.reduceAdd,Int.reduceSub,Int.reduceNeg,syE,ai,ag,af,syW,xQ,mA]
 all_goals simp -implicitDefEqProofs only [List.map_nil]
def aC (v0:Int) (v1:Int) (v2:Int):Option (Int×Int×Int×Int×Int×Int×Int):=
 some (v0,0,v1,v2,0,0,0)
theorem kd (k:Nat) (v0 v1 v2:Int):xC (k+1) none 104 [.lit (.int .i64 v0),.lit (.int .i64 v1),.lit (.int .u64 v2)]=ob (aC v0 v1 v2) fun r=>some ((.agg [.lit (.int .i64 r.1),.lit (.int .i64 r.2.1),.lit (.int .i64 r.2.2.1),.lit (.int .u64 r.2.2.2.1),.lit (.int .u64 r.2.2.2.2.1),.lit (.int .u64 r.2.2.2.2.2.1),.lit (.int .i64 r.2.2.2.2.2.2)]),[]):=by
 rw [aM]
 unfold aC
 simp (maxSteps:=2000000) -implicitDefEqProofs only [abK,VQ,↓syP,syA,syD,Nat.reduceAdd,Nat.reduceSub,Nat.reduceMul,Nat.reduceLT,Nat.reduceLeDiff,Nat.reduceEqDiff,Nat.reduceBEq,Nat.reduceBNe,Int.reduceBEq,Int.reduceBNe,Int.reduceLT,Int.reduceLE,Int.reduceAdd,Int.reduceSub,Int.reduceNeg,syE,ai,ag,af,syW,xQ]
 all_goals simp -implicitDefEqProofs only [List.map_nil]
def aF (v0:(Int×Int×Int×Int×Int×Int×Int)):Option Bool:=
 some (v0.2.2.2.2.2.2!=0)
theorem eN (k:Nat) (v0_0 v0_1 v0_2 v0_3 v0_4 v0_5 v0_6:Int):xC (k+1) none 110 [.agg [.lit (.int .i64 v0_0),.lit (.int .i64 v0_1),.lit (.int .i64 v0_2),.lit (.int .u64 v0_3),.lit (.int .u64 v0_4),.lit (.int .u64 v0_5),.lit (.int .i64 v0_6)]]=ob (aF (v0_0,v0_1,v0_2,v0_3,v0_4,v0_5,v0_6)) fun r=>some ((.lit (.bool r)),[]):=by
 rw [aM]
 unfold aF
 simp (maxSteps:=2000000) -implicitDefEqProofs only [aaU,VM,↓syP,syA,syD,Nat.reduceAdd,Nat.reduceSub,Nat.reduceMul,Nat.reduceLT,Nat.reduceLeDiff,Nat.reduceEqDiff,Nat.reduceBEq,Nat.reduceBNe,Int.reduceBEq,Int.reduceBNe,Int.reduceLT,Int.reduceLE,Int.reduceAdd,Int.reduceSub,Int.reduceNeg,syE,ai,ag,af,syW,xQ]
 all_goals simp -implicitDefEqProofs only [List.map_nil]
def aS (v0:(Int×Int×Int×Int×Int×Int×Int)) (v1:Int) (v2:Int):Option (Int×Int×Int×Int×Int×Int×Int):=
 some (v0.1,0,v0.2.2.1,v2,0,0,v1)
theorem ez (k:Nat) (v0_0 v0_1 v0_2 v0_3 v0_4 v0_5 v0_6 v1 v2:Int):xC (k+1) none 193 [.agg [.lit (.int .i64 v0_0),.lit (.int .i64 v0_1),.lit (.int .i64 v0_2),.lit (.int .u64 v0_3),.lit (.int .u64 v0_4),.lit (.int .u64 v0_5),.lit (.int .i64 v0_6)],.lit (.int .i64 v1),.lit (.int .u64 v2)]=ob (aS (v0_0,v0_1,v0_2,v0_3,v0_4,v0_5,v0_6) v1 v2) fun r=>some ((.agg [.lit (.int .i64 r.1),.lit (.int .i64 r.2.1),.lit (.int .i64 r.2.2.1),.lit (.int .u64 r.2.2.2.1),.lit (.int .u64 r.2.2.2.2.1),.lit (.int .u64 r.2.2.2.2.2.1),.lit (.int .i64 r.2.2.2.2.2.2)]),[]):=by
 rw [aM]
 unfold aS
 simp (maxSteps:=2000000) -implicitDefEqProofs only [aa2,YH,↓syP,syA,syD,Nat.reduceAdd,Nat.reduceSub,Nat.reduceMul,Nat.reduceLT,Nat.reduceLeDiff,Nat.reduceEqDiff,Nat.reduceBEq,Nat.reduceBNe,Int.reduceBEq,Int.reduceBNe,Int.reduceLT,Int.reduceLE,Int.reduceAdd,Int.reduceSub,Int.reduceNeg,syE,ai,ag,af,syW,xQ]
 all_goals simp -implicitDefEqProofs only [List.map_nil]
def ij (v0:Int) (v1:Int):Option Int:=
 bif decide (v1<0) then
 some v0
 else
 bif decide (16≤v1) then
 some v0
 else
 bif decide (0≤v1) then
 some (orI IntKind.u64 v0 (LC IntKind.u64 1 v1))
 else
 none
theorem Fh (k:Nat) (v0 v1:Int):xC (k+1) none 214 [.lit (.int .u64 v0),.lit (.int .i64 v1)]=ob (ij v0 v1) fun r=>some ((.lit (.int .u64 r)),[]):=by
 rw [aM]
 unfold ij
 simp (maxSteps:=2000000) -implicitDefEqProofs only [ZQ,Xd,IP,pz,↓syP,syA,syD,Nat.reduceAdd,Nat.reduceSub,Nat.reduceMul,Nat.reduceLT,Nat.reduceLeDiff,Nat.reduceEqDiff,Nat.reduceBEq,Nat.reduceBNe,Int.reduceBEq,Int.reduceBNe,Int.reduceLT,Int.reduceLE,Int.reduceAdd,Int.reduceSub,Int.reduceNeg,syE,ai,ag,af,syW,xQ]
 all_goals simp -implicitDefEqProofs only [List.map_nil]
def dj (v0:Int):Option Int:=
 some (OX IntKind.u64 v0 16)
theorem lc (k:Nat) (v0:Int):xC (k+1) none 213 [.lit (.int .u64 v0)]=ob (dj v0) fun r=>some ((.lit (.int .u64 r)),[]):=by
 rw [aM]
 unfold dj
 simp (maxSteps:=2000000) -implicitDefEqProofs only [Zy,UC,↓syP,syA,syD,Nat.reduceAdd,Nat.reduceSub,Nat.reduceMul,Nat.reduceLT,Nat.reduceLeDiff,Nat.reduceEqDiff,Nat.reduceBEq,Nat.reduceBNe,Int.reduceBEq,Int.reduceBNe,Int.reduceLT,Int.reduceLE,Int.reduceAdd,Int.reduceSub,Int.reduceNeg,syE,ai,ag,af,syW,xQ]
 all_goals simp -implicitDefEqProofs only [List.map_nil]
def fk (v0:(Int×Int×Int×Int)) (v1:Int):Option Int:=
 ob (bK v0) fun x80=>
 bif !x80 then
 some ((-1))
 else
 ob (dD v1 0 (IntKind.i64.wrap (v0.1 - 1))) fun x81=>
 bif !x81 then
 some ((-1))
 else
 ob (ed v0 v1) fun x82=>
 some (IntKind.i64.wrap (x82+2))
theorem ux (k:Nat) (v0_0 v0_1 v0_2 v0_3 v1:Int):xC (k+12) none 32 [.agg [.lit (.int .i64 v0_0),.lit (.int .i64 v0_1),.lit (.int .i64 v0_2),.lit (.int .i64 v0_3)],.lit (.int .i64 v1)]=ob (fk (v0_0,v0_1,v0_2,v0_3) v1) fun r=>some ((.lit (.int .i64 r)),[]):=by
 rw [aM]
 unfold fk
 simp (maxSteps:=2000000) -implicitDefEqProofs only [ad9,adr,T2,QT,rH,fx,ad2,ac3,↓syP,syA,syD,Nat.reduceAdd,Nat.reduceSub,Nat.reduceMul,Nat.reduceLT,Nat.reduceLeDiff,Nat.reduceEqDiff,Nat.reduceBEq,Nat.reduceBNe,Int.reduceBEq,Int.reduceBNe,Int.reduceLT,Int.reduceLE,Int.reduceAdd,Int.reduceSub,Int.reduceNeg,syE,ai,ag,af,syW,xQ,kg,bT,iI]
 all_goals simp -implicitDefEqProofs only [List.map_nil]
def cD (v0:Int):Option Int:=
 some (rQ IntKind.u64 v0 65535)
theorem mo (k:Nat) (v0:Int):xC (k+1) none 192 [.lit (.int .u64 v0)]=ob (cD v0) fun r=>some ((.lit (.int .u64 r)),[]):=by
 rw [aM]
 unfold cD
 simp (maxSteps:=2000000) -implicitDefEqProofs only [abm,UN,↓syP,syA,syD,Nat.reduceAdd,Nat.reduceSub,Nat.reduceMul,Nat.reduceLT,Nat.reduceLeDiff,Nat.reduceEqDiff,Nat.reduceBEq,Nat.reduceBNe,Int.reduceBEq,Int.reduceBNe,Int.reduceLT,Int.reduceLE,Int.reduceAdd,Int.reduceSub,Int.reduceNeg,syE,ai,ag,af,syW,xQ]
 all_goals simp -implicitDefEqProofs only [List.map_nil]
def fF (v0:(Int×Int×Int×Int)) (v1:Int):Option Int:=
 ob (bK v0) fun x89=>
 bif !x89 then
 some ((-1))
 else
 ob (dD v1 0 (IntKind.i64.wrap (v0.1 - 1))) fun x90=>
 bif !x90 then
 some ((-1))
 else
 ob (ed v0 v1) fun x91=>
 some x91
theorem kL (k:Nat) (v0_0 v0_1 v0_2 v0_3 v1:Int):xC (k+12) none 107 [.agg [.lit (.int .i64 v0_0),.lit (.int .i64 v0_1),.lit (.int .i64 v0_2),.lit (.int .i64 v0_3)],.lit (.int .i64 v1)]=ob (fF (v0_0,v0_1,v0_2,v0_3) v1) fun r=>some ((.lit (.int .i64 r)),[]):=by
 rw [aM]
 unfold fF
 simp (maxSteps:=2000000) -implicitDefEqProofs only [T2,QT,rH,fx,Zo,Xk,acM,Xz,↓syP,syA,syD,Nat.reduceAdd,Nat.reduceSub,Nat.reduceMul,Nat.reduceLT,Nat.reduceLeDiff,Nat.reduceEqDiff,Nat.reduceBEq,Nat.reduceBNe,Int.reduceBEq,Int.reduceBNe,Int.reduceLT,Int.reduceLE,Int.reduceAdd,Int.reduceSub,Int.reduceNeg,syE,ai,ag,af,syW,xQ,kg,bT,iI]
 all_goals simp -implicitDefEqProofs only [List.map_nil]
def cQ (v0:(Int×Int×Int×Int)) (v1:Int):Option Int:=
 ob (bK v0) fun x98=>
 bif !x98 then
 some ((-1))
 else
 ob (dD v1 0 (IntKind.i64.wrap (v0.1 - 1))) fun x99=>
 bif !x99 then
 some ((-1))
 else
 ob (ed v0 v1) fun x100=>
 some (IntKind.i64.wrap (x100+1))
theorem fH (k:Nat) (v0_0 v0_1 v0_2 v0_3 v1:Int):xC (k+12) none 108 [.agg [.lit (.int .i64 v0_0),.lit (.int .i64 v0_1),.lit (.int .i64 v0_2),.lit (.int .i64 v0_3)],.lit (.int .i64 v1)]=ob (cQ (v0_0,v0_1,v0_2,v0_3) v1) fun r=>some ((.lit (.int .i64 r)),[]):=by
 rw [aM]
 unfold cQ
 simp (maxSteps:=2000000) -implicitDefEqProofs only [T2,QT,rH,fx,aax,X9,abQ,WL,↓syP,syA,syD,Nat.reduceAdd,Nat.reduceSub,Nat.reduceMul,Nat.reduceLT,Nat.reduceLeDiff,Nat.reduceEqDiff,Nat.reduceBEq,Nat.reduceBNe,Int.reduceBEq,Int.reduceBNe,Int.reduceLT,Int.reduceLE,Int.reduceAdd,Int.reduceSub,Int.reduceNeg,syE,ai,ag,af,syW,xQ,kg,bT,iI]
 all_goals simp -implicitDefEqProofs only [List.map_nil]
def eJ (v0:(Int×Int×Int×Int)) (v1:Int) (v2:Int):Option Int:=
 ob (bK v0) fun x107=>
 bif !x107 then
 some ((-1))
 else
 ob (dD v1 0 (IntKind.i64.wrap (v0.1 - 1))) fun x108=>
 bif !x108 then
 some ((-1))
 else
 ob (ed v0 v1) fun x109=>
 some (IntKind.i64.wrap (IntKind.i64.wrap (x109+3)+IntKind.i64.wrap (rQ IntKind.u64 v2 (IntKind.u64.wrap (IntKind.i64.wrap (v0.2.1 - 1))))))
theorem nB (k:Nat) (v0_0 v0_1 v0_2 v0_3 v1 v2:Int):xC (k+12) none 109 [.agg [.lit (.int .i64 v0_0),.lit (.int .i64 v0_1),.lit (.int .i64 v0_2),.lit (.int .i64 v0_3)],.lit (.int .i64 v1),.lit (.int .u64 v2)]=ob (eJ (v0_0,v0_1,v0_2,v0_3) v1 v2) fun r=>some ((.lit (.int .i64 r)),[]):=by
 rw [aM]
 unfold eJ
 simp (maxSteps:=2000000) -implicitDefEqProofs only [T2,QT,rH,fx,aaZ,V0,abM,YL,↓syP,syA,syD,Nat.reduceAdd,Nat.reduceSub,Nat.reduceMul,Nat.reduceLT,Nat.reduceLeDiff,Nat.reduceEqDiff,Nat.reduceBEq,Nat.reduceBNe,Int.reduceBEq,Int.reduceBNe,Int.reduceLT,Int.reduceLE,Int.reduceAdd,Int.reduceSub,Int.reduceNeg,syE,ai,ag,af,syW,xQ,kg,bT,iI]
 all_goals simp -implicitDefEqProofs only [List.map_nil]
def eb (v0:Int) (v1:Int):Option Int:=
 some (IntKind.i64.wrap (IntKind.u64.wrap (v0 - v1)))
theorem iB (k:Nat) (v0 v1:Int):xC (k+1) none 106 [.lit (.int .u64 v0),.lit (.int .u64 v1)]=ob (eb v0 v1) fun r=>some ((.lit (.int .i64 r)),[]):=by
 rw [aM]
 unfold eb
 simp (maxSteps:=2000000) -implicitDefEqProofs only [acg,VG,↓syP,syA,syD,Nat.reduceAdd,Nat.reduceSub,Nat.reduceMul,Nat.reduceLT,Nat.reduceLeDiff,Nat.reduceEqDiff,Nat.reduceBEq,Nat.reduceBNe,Int.reduceBEq,Int.reduceBNe,Int.reduceLT,Int.reduceLE,Int.reduceAdd,Int.reduceSub,Int.reduceNeg,syE,ai,ag,af,syW,xQ]
 all_goals simp -implicitDefEqProofs only [List.map_nil]
def dW (k:Nat) (v0:(Int×Int×Int×Int))  : Nat→Int→List Int→Int→Nat→Option (List Int)
 | 0,_,_,_,_=>none
 | n+1,s115,s118,s119,s121=>
 bif decide (s119<s115) then
 ck (s121==(1:Nat)||s121==(0:Nat)) (
 bif room (s118++[(0:Int)]).length (8:Nat) then
 dW k v0  n (s115) (s118++[(0:Int)]) (IntKind.i64.wrap (s119+(1:Int))) ((1:Nat))
 else
 none)
 else
 some (s118)
theorem kV (k:Nat) (v0_0 v0_1 v0_2 v0_3:Int):∀ (n:Nat) (s115:Int) (s118:List Int) (s119:Int) (s121:Nat) ⦃s117:Nat⦄,rt none (itX (xX (xS (k+(3:Nat))) (59:Nat) (0:Nat) (k+(3:Nat)) false) Ew ((3:Nat)) (au (xX (xS (k+(3:Nat))) (59:Nat) (0:Nat) (k+(3:Nat)) false) (aA (xS (k+(3:Nat))).P Tryz.f59) DI) n ⟨[V.agg [V.lit (Value.int IntKind.i64 v0_0),V.lit (Value.int IntKind.i64 v0_1),V.lit (Value.int IntKind.i64 v0_2),V.lit (Value.int IntKind.i64 v0_3)],V.ptr (0:Nat) (0:Nat) (0:Nat) (0:Nat),V.own (1:Nat) (0:Nat) (0:Nat),V.own (2:Nat) s117 s118.length,V.agg [V.lit (Value.int IntKind.i64 v0_0),V.lit (Value.int IntKind.i64 v0_1),V.lit (Value.int IntKind.i64 v0_2),V.lit (Value.int IntKind.i64 v0_3)],V.lit (Value.int IntKind.i64 s115),V.lit (Value.int IntKind.i64 s119),V.junk,V.junk,V.junk,V.junk,V.junk,uu],[B.box [V.lit (Value.int IntKind.i64 v0_0),V.lit (Value.int IntKind.i64 v0_1),V.lit (Value.int IntKind.i64 v0_2),V.lit (Value.int IntKind.i64 v0_3)],B.rows (0:Nat) [] (0:Nat) true,B.rows s121 (List.map (aG IntKind.u64) s118) s117 true]⟩)=ob (dW k (v0_0,v0_1,v0_2,v0_3)  n s115 s118 s119 s121) fun r=>some ((.ro (List.map (aG .u64) r)),[]):=by
 intro n
 induction n with
 | zero=>intros;rfl
 | succ n ih=>
  intro s115 s118 s119 s121 s117
  rw [dW]
  simp (maxSteps:=2000000) -implicitDefEqProofs only [adk,acO,abZ,Hn,nk,↓syP,syA,syD,Nat.reduceAdd,Nat.reduceSub,Nat.reduceMul,Nat.reduceLT,Nat.reduceLeDiff,Nat.reduceEqDiff,Nat.reduceBEq,Nat.reduceBNe,Int.reduceBEq,Int.reduceBNe,Int.reduceLT,Int.reduceLE,Int.reduceAdd,Int.reduceSub,Int.reduceNeg,syE,ai,ag,af,syW,xQ,fo,OO,ih]
  all_goals simp -implicitDefEqProofs only [List.map_nil]
def iY (k:Nat) (v0:(Int×Int×Int×Int)):Option (List Int):=
 ob (da v0) fun x123=>
 dW k v0 (k+3) x123 ([]) 0 0
theorem mQ (k:Nat) (v0_0 v0_1 v0_2 v0_3:Int):xC (k+4) none 59 [.agg [.lit (.int .i64 v0_0),.lit (.int .i64 v0_1),.lit (.int .i64 v0_2),.lit (.int .i64 v0_3)]]=ob (iY k (v0_0,v0_1,v0_2,v0_3)) fun r=>some ((.ro (List.map (aG .u64) r)),[]):=by
 rw [aM]
 unfold iY
 have hl0:=fun (x124:Int)=>kV k v0_0 v0_1 v0_2 v0_3 (k+(3:Nat)) (x124) ([]) ((0:Int)) ((0:Nat))
 try simp -implicitDefEqProofs only [List.map_nil,List.length_nil] at hl0
 simp (maxSteps:=2000000) -implicitDefEqProofs only [adk,acO,abZ,Hn,nk,↓syP,syA,syD,Nat.reduceAdd,Nat.reduceSub,Nat.reduceMul,Nat.reduceLT,Nat.reduceLeDiff,Nat.reduceEqDiff,Nat.reduceBEq,Nat.reduceBNe,Int.reduceBEq,Int.reduceBNe,Int.reduceLT,Int.reduceLE,Int.reduceAdd,Int.reduceSub,Int.reduceNeg,syE,ai,ag,af,syW,xQ,fo,kV k v0_0 v0_1 v0_2 v0_3,hl0]
 all_goals simp -implicitDefEqProofs only [List.map_nil]
def cP (v0:Int) (v1:Int):Option Bool:=
 bif decide (0≤v0) then
 some (decide (v0<v1))
 else
 some false
theorem oi (k:Nat) (v0 v1:Int):xC (k+1) none 81 [.lit (.int .i64 v0),.lit (.int .i64 v1)]=ob (cP v0 v1) fun r=>some ((.lit (.bool r)),[]):=by
 rw [aM]
 unfold cP
 simp (maxSteps:=2000000) -implicitDefEqProofs only [adL,adg,Oy,ut,↓syP,syA,syD,Nat.reduceAdd,Nat.reduceSub,Nat.reduceMul,Nat.reduceLT,Nat.reduceLeDiff,Nat.reduceEqDiff,Nat.reduceBEq,Nat.reduceBNe,Int.reduceBEq,Int.reduceBNe,Int.reduceLT,Int.reduceLE,Int.reduceAdd,Int.reduceSub,Int.reduceNeg,syE,ai,ag,af,syW,xQ]
 all_goals simp -implicitDefEqProofs only [List.map_nil]
def dZ (v0 : Int) (v1 : Int) (v2 : Int) : Option Int :=
 bif decide (v2 < 2) then
 some ((-1))
 else
 ob (cP v1 v2) fun x126 =>
 bif !x126 then
 some ((-1))
 else
 bif IntKind.u64.wrap (IntKind.u64.wrap v2 - 1) != 0 then
 bif IntKind.u64.wrap v2 != 0 then
 some (IntKind.i64.wrap ((IntKind.u64.wrap (IntKind.u64.wrap (IntKind.u64.wrap v1 + 1) + v0.tmod (IntKind.u64.wrap (IntKind.u64.wrap v2 - 1)))).tmod (IntKind.u64.wrap v2)))
 else
 none
 else
 none
theorem w7 (k:Nat) (v0 v1 v2:Int):xC (k+2) none 161 [.lit (.int .u64 v0),.lit (.int .i64 v1),.lit (.int .i64 v2)]=ob (dZ v0 v1 v2) fun r=>some ((.lit (.int .i64 r)),[]):=by
 rw [aM]
 unfold dZ
 simp (maxSteps:=2000000) -implicitDefEqProofs only [ZP,Xo,JM,pM,↓syP,syA,syD,Nat.reduceAdd,Nat.reduceSub,Nat.reduceMul,Nat.reduceLT,Nat.reduceLeDiff,Nat.reduceEqDiff,Nat.reduceBEq,Nat.reduceBNe,Int.reduceBEq,Int.reduceBNe,Int.reduceLT,Int.reduceLE,Int.reduceAdd,Int.reduceSub,Int.reduceNeg,syE,ai,ag,af,syW,xQ,oi]
 all_goals simp -implicitDefEqProofs only [List.map_nil]
def dP (v0:(Int×Int×Int×Int)) (v1:(List Int)) (v2:(Int×Int×Int×Int×Int×Int×Int)) (v3:Int) (v4:Int):Option Bool:=
 ob (bK v0) fun x132=>
 bif x132 then
 ob (da v0) fun x133=>
 bif (↑v1.length:Int)==x133 then
 ob (aF v2) fun x134=>
 bif !x134 then
 bif decide (0≤v2.2.2.1) then
 bif decide (v2.2.2.1<v0.1) then
 bif v2.1==v3 then
 bif decide (0≤v2.2.1) then
 some (decide (v2.2.1<v4))
 else
 some false
 else
 some false
 else
 some false
 else
 some false
 else
 some false
 else
 some false
 else
 some false
theorem gE (k:Nat) (v0_0 v0_1 v0_2 v0_3:Int) (v1:List Int) (v2_0 v2_1 v2_2 v2_3 v2_4 v2_5 v2_6 v3 v4:Int):xC (k+4) none 188 [.agg [.lit (.int .i64 v0_0),.lit (.int .i64 v0_1),.lit (.int .i64 v0_2),.lit (.int .i64 v0_3)],.ro (List.map (aG .u64) v1),.agg [.lit (.int .i64 v2_0),.lit (.int .i64 v2_1),.lit (.int .i64 v2_2),.lit (.int .u64 v2_3),.lit (.int .u64 v2_4),.lit (.int .u64 v2_5),.lit (.int .i64 v2_6)],.lit (.int .i64 v3),.lit (.int .i64 v4)]=ob (dP (v0_0,v0_1,v0_2,v0_3) v1 (v2_0,v2_1,v2_2,v2_3,v2_4,v2_5,v2_6) v3 v4) fun r=>some ((.lit (.bool r)),[]):=by
 rw [aM]
 unfold dP
 simp (maxSteps:=2000000) -implicitDefEqProofs only [ZR,Vd,J3,J7,Jr,H0,Hu,IS,Ji,oR,↓syP,syA,syD,Nat.reduceAdd,Nat.reduceSub,Nat.reduceMul,Nat.reduceLT,Nat.reduceLeDiff,Nat.reduceEqDiff,Nat.reduceBEq,Nat.reduceBNe,Int.reduceBEq,Int.reduceBNe,Int.reduceLT,Int.reduceLE,Int.reduceAdd,Int.reduceSub,Int.reduceNeg,syE,ai,ag,af,syW,xQ,bT,fo,eN]
 all_goals simp -implicitDefEqProofs only [List.map_nil]
def gT (v0 : (Int × Int × Int × Int)) (v1 : (List Int)) (v2 : (Int × Int × Int × Int × Int × Int × Int)) : Option ((List Int) × (Int × Int × Int × Int × Int × Int × Int)) :=
 ob (aJ 8 v1) fun x152 =>
 ob (dP v0 v1 v2 5 5) fun x153 =>
 bif x153 then
 bif decide (0 ≤ v2.2.1 ∧ v2.2.1.toNat < 5) then
 bif v2.2.1.toNat == 0 then
 ob (aD x152 2) fun x154 =>
 some (x152,(v2.1,1,v2.2.2.1,v2.2.2.2.1,x154,v2.2.2.2.2.2))
 else
 bif v2.2.1.toNat == 1 then
 ob (aD x152 2) fun x155 =>
 ob (dj x155) fun x156 =>
 ob (dj v2.2.2.2.2.1) fun x157 =>
 bif x156 != x157 then
 ob (aS (v2.1,2,v2.2.2.1,v2.2.2.2.1,v2.2.2.2.2.1,x155,v2.2.2.2.2.2.2) 4 0) fun x158 =>
 some (x152,x158)
 else
 some (x152,(v2.1,2,v2.2.2.1,v2.2.2.2.1,v2.2.2.2.2.1,x155,v2.2.2.2.2.2.2))
 else
 bif v2.2.1.toNat == 2 then
 ob (ij v2.2.2.2.2.2.1 v2.2.2.1) fun x159 =>
 ob (cG x152 2 v2.2.2.2.2.2.1 x159) fun x160 =>
 bif x160.2 then
 some (x160.1,(v2.1,3,v2.2.2))
 else
 some (x160.1,(v2.1,1,v2.2.2))
 else
 bif v2.2.1.toNat == 3 then
 ob (fk v0 v2.2.2.1) fun x161 =>
 ob (aD x152 x161) fun x162 =>
 bif x162 != 0 then
 some (x152,(v2.1,4,v2.2.2.1,v2.2.2.2.1,v2.2.2.2.2.1,x162,v2.2.2.2.2.2.2))
 else
 some (x152,(v2.1,v2.2.1,v2.2.2.1,v2.2.2.2.1,v2.2.2.2.2.1,x162,v2.2.2.2.2.2.2))
 else
 bif v2.2.1.toNat == 4 then
 ob (fk v0 v2.2.2.1) fun x163 =>
 ob (bk x152 x163 0) fun x164 =>
 ob (aS v2 1 0) fun x165 =>
 some (x164,x165)
 else
 none
 else
 none
 else
 some (x152,v2)
theorem Cv (k:Nat) (v0_0 v0_1 v0_2 v0_3:Int) (v1:List Int) (v2_0 v2_1 v2_2 v2_3 v2_4 v2_5 v2_6:Int):xC (k+14) none 165 [.agg [.lit (.int .i64 v0_0),.lit (.int .i64 v0_1),.lit (.int .i64 v0_2),.lit (.int .i64 v0_3)],.ro (List.map (aG .u64) v1),.agg [.lit (.int .i64 v2_0),.lit (.int .i64 v2_1),.lit (.int .i64 v2_2),.lit (.int .u64 v2_3),.lit (.int .u64 v2_4),.lit (.int .u64 v2_5),.lit (.int .i64 v2_6)]]=ob (gT (v0_0,v0_1,v0_2,v0_3) v1 (v2_0,v2_1,v2_2,v2_3,v2_4,v2_5,v2_6)) fun r=>some ((.tup [.ro (List.map (aG .u64) r.1),.agg [.lit (.int .i64 r.2.1),.lit (.int .i64 r.2.2.1),.lit (.int .i64 r.2.2.2.1),.lit (.int .u64 r.2.2.2.2.1),.lit (.int .u64 r.2.2.2.2.2.1),.lit (.int .u64 r.2.2.2.2.2.2.1),.lit (.int .i64 r.2.2.2.2.2.2.2)]]),[]):=by
 rw [aM]
 unfold gT
 simp (maxSteps:=2000000) -implicitDefEqProofs only [abU,Xe,GX,pb,abn,Un,aci,VU,abW,Wr,Zl,XP,ZL,U9,↓syP,syA,syD,Nat.reduceAdd,Nat.reduceSub,Nat.reduceMul,Nat.reduceLT,Nat.reduceLeDiff,Nat.reduceEqDiff,Nat.reduceBEq,Nat.reduceBNe,Int.reduceBEq,Int.reduceBNe,Int.reduceLT,Int.reduceLE,Int.reduceAdd,Int.reduceSub,Int.reduceNeg,syE,ai,ag,af,syW,xQ,cE,dL,gr,ez,Fh,lc,ux,gE]
 all_goals simp -implicitDefEqProofs only [List.map_nil]
end Go.Ab
set_option maxRecDepth 100000
set_option linter.unusedVariables false
set_option linter.unusedSimpArgs false
namespace Go.Ab
open Go.Proofs
def gS (v0:(Int×Int×Int×Int)) (v1:(List Int)) (v2:(Int×Int×Int×Int×Int×Int×Int)):Option Bool:=
 bif v2.1==6 then
 ob (bK v0) fun x8=>
 bif x8 then
 ob (da v0) fun x9=>
 bif (↑v1.length:Int)==x9 then
 ob (aF v2) fun x10=>
 bif !x10 then
 bif decide (0≤v2.2.1) then
 some (decide (v2.2.1≤2))
 else
 some false
 else
 some false
 else
 some false
 else
 some false
 else
 bif v2.1==7 then
 ob (bK v0) fun x11=>
 bif x11 then
 ob (da v0) fun x12=>
 bif (↑v1.length:Int)==x12 then
 ob (aF v2) fun x13=>
 bif !x13 then
 bif decide (0≤v2.2.1) then
 some (decide (v2.2.1≤2))
 else
 some false
 else
 some false
 else
 some false
 else
 some false
 else
 some false
theorem Df (k:Nat) (v0_0 v0_1 v0_2 v0_3:Int) (v1:List Int) (v2_0 v2_1 v2_2 v2_3 v2_4 v2_5 v2_6:Int):xC (k+15) none 189 [.agg [.lit (.int .i64 v0_0),.lit (.int .i64 v0_1),.lit (.int .i64 v0_2),.lit (.int .i64 v0_3)],.ro (List.map (aG .u64) v1),.agg [.lit (.int .i64 v2_0),.lit (.int .i64 v2_1),.lit (.int .i64 v2_2),.lit (.int .u64 v2_3),.lit (.int .u64 v2_4),.lit (.int .u64 v2_5),.lit (.int .i64 v2_6)]]=ob (gS (v0_0,v0_1,v0_2,v0_3) v1 (v2_0,v2_1,v2_2,v2_3,v2_4,v2_5,v2_6)) fun r=>some ((.lit (.bool r)),[]):=by
 rw [aM]
 unfold gS
 simp (maxSteps:=2000000) -implicitDefEqProofs only [abO,VE,IF,GP,I1,IK,H9,pj,WF,RX,aM (g:=190),SU,My,SY,Of,↓syP,syA,syD,Nat.reduceAdd,Nat.reduceSub,Nat.reduceMul,Nat.reduceLT,Nat.reduceLeDiff,Nat.reduceEqDiff,Nat.reduceBEq,Nat.reduceBNe,Int.reduceBEq,Int.reduceBNe,Int.reduceLT,Int.reduceLE,Int.reduceAdd,Int.reduceSub,Int.reduceNeg,syE,ai,ag,af,syW,xQ,bT,fo,eN]
 all_goals simp -implicitDefEqProofs only [List.map_nil]
def fq (v0:Int) (v1:Int):Option Int:=
 some (orI IntKind.u64 (LC IntKind.u64 v0 16) (rQ IntKind.u64 v1 65535))
theorem pf (k:Nat) (v0 v1:Int):xC (k+1) none 233 [.lit (.int .u64 v0),.lit (.int .u64 v1)]=ob (fq v0 v1) fun r=>some ((.lit (.int .u64 r)),[]):=by
 rw [aM]
 unfold fq
 simp (maxSteps:=2000000) -implicitDefEqProofs only [abq,Wo,↓syP,syA,syD,Nat.reduceAdd,Nat.reduceSub,Nat.reduceMul,Nat.reduceLT,Nat.reduceLeDiff,Nat.reduceEqDiff,Nat.reduceBEq,Nat.reduceBNe,Int.reduceBEq,Int.reduceBNe,Int.reduceLT,Int.reduceLE,Int.reduceAdd,Int.reduceSub,Int.reduceNeg,syE,ai,ag,af,syW,xQ]
 all_goals simp -implicitDefEqProofs only [List.map_nil]
def b9 (k:Nat) (v0:Int)  : Nat→Int→Option Int
 | 0,_=>none
 | n+1,s27=>
 bif decide (s27<(16:Int)) then
 bif decide ((0:Int)≤s27) then
 bif rQ IntKind.u64 (OX IntKind.u64 v0 s27) (1:Int)==(1:Int) then
 some (s27)
 else
 b9 k v0  n (IntKind.i64.wrap (s27+(1:Int)))
 else
 none
 else
 some ((-1:Int))
theorem lM (k:Nat) (v0:Int):∀ (n:Nat) (s27:Int) ⦃j26:V⦄,rt none (bq (itX (xX (xS (k+(9:Nat))) (234:Nat) (0:Nat) (k+(9:Nat)) false) kN ((3:Nat)) (au (xX (xS (k+(9:Nat))) (234:Nat) (0:Nat) (k+(9:Nat)) false) (aA (xS (k+(9:Nat))).P Tryz.f234) xy) n ⟨[V.yld (2:Nat),V.ptr (1:Nat) (0:Nat) (0:Nat) (0:Nat),uu,j26,V.lit (Value.int IntKind.i64 s27),V.junk,V.junk,V.junk,V.junk,V.junk,V.junk,V.junk,V.junk,V.junk,V.junk,V.junk,V.junk,V.junk,V.junk],[B.box [V.lit (Value.int IntKind.i64 (0:Int))],B.box [V.lit (Value.int IntKind.u64 v0)],(B.loop ⟨LoopState.ready,none,(195:Nat),[V.lit (Value.int IntKind.u64 v0),uu,V.ptr (0:Nat) (0:Nat) (0:Nat) (0:Nat),uu,V.lit (Value.int IntKind.u64 v0),V.fn (Fn.func (234:FuncId)) [] [V.ptr (1:Nat) (0:Nat) (0:Nat) (0:Nat)],uu,uu],[(6:Tmp)],Dr,CY⟩)]⟩) (rfK (au (xX (xS (k+(10:Nat))) (195:Nat) (0:Nat) (k+(10:Nat)) false) (aA (xS (k+(10:Nat))).P Tryz.f195) xb) [V.lit (Value.int IntKind.u64 v0),uu,V.ptr (0:Nat) (0:Nat) (0:Nat) (0:Nat),uu,V.lit (Value.int IntKind.u64 v0),V.fn (Fn.func (234:FuncId)) [] [V.ptr (1:Nat) (0:Nat) (0:Nat) (0:Nat)],uu,uu] ((2:Nat))))=ob (b9 k v0  n s27) fun r=>some ((.lit (.int .i64 r)),[]):=by
 intro n
 induction n with
 | zero=>intros;rfl
 | succ n ih=>
  intro s27 j26
  rw [b9]
  simp (maxSteps:=2000000) -implicitDefEqProofs only [XM,Rb,SX,CR,gQ,gL,lV,uo,XU,QC,aM (g:=220),Xf,Rl,Qv,C6,CO,lR,mj,↓syP,syA,syD,Nat.reduceAdd,Nat.reduceSub,Nat.reduceMul,Nat.reduceLT,Nat.reduceLeDiff,Nat.reduceEqDiff,Nat.reduceBEq,Nat.reduceBNe,Int.reduceBEq,Int.reduceBNe,Int.reduceLT,Int.reduceLE,Int.reduceAdd,Int.reduceSub,Int.reduceNeg,syE,ai,ag,af,syW,xQ,HA,ih]
  all_goals simp -implicitDefEqProofs only [List.map_nil]
def eZ (k:Nat) (v0:Int):Option Int:=
 b9 k v0 (k+9) 0
theorem mz (k:Nat) (v0:Int):xC (k+11) none 195 [.lit (.int .u64 v0)]=ob (eZ k v0) fun r=>some ((.lit (.int .i64 r)),[]):=by
 rw [aM]
 unfold eZ
 simp (maxSteps:=2000000) -implicitDefEqProofs only [XM,Rb,SX,CR,gQ,gL,lV,uo,XU,QC,aM (g:=220),Xf,Rl,Qv,C6,CO,lR,mj,↓syP,syA,syD,Nat.reduceAdd,Nat.reduceSub,Nat.reduceMul,Nat.reduceLT,Nat.reduceLeDiff,Nat.reduceEqDiff,Nat.reduceBEq,Nat.reduceBNe,Int.reduceBEq,Int.reduceBNe,Int.reduceLT,Int.reduceLE,Int.reduceAdd,Int.reduceSub,Int.reduceNeg,syE,ai,ag,af,syW,xQ,lM k v0]
 all_goals simp -implicitDefEqProofs only [List.map_nil]
def gH (k:Nat) (v0:Int):Option (Int×Int):=
 ob (cD v0) fun x32=>
 ob (dj v0) fun x33=>
 ob (fq (IntKind.u64.wrap (x33+1)) (rQ IntKind.u64 x32 (IntKind.u64.wrap (x32 - 1)))) fun x34=>
 ob (eZ k x32) fun x35=>
 some (x34,x35)
theorem DF (k:Nat) (v0:Int):xC (k+12) none 216 [.lit (.int .u64 v0)]=ob (gH k v0) fun r=>some ((.tup [.lit (.int .u64 r.1),.lit (.int .i64 r.2)]),[]):=by
 rw [aM]
 unfold gH
 simp (maxSteps:=2000000) -implicitDefEqProofs only [ZO,We,↓syP,syA,syD,Nat.reduceAdd,Nat.reduceSub,Nat.reduceMul,Nat.reduceLT,Nat.reduceLeDiff,Nat.reduceEqDiff,Nat.reduceBEq,Nat.reduceBNe,Int.reduceBEq,Int.reduceBNe,Int.reduceLT,Int.reduceLE,Int.reduceAdd,Int.reduceSub,Int.reduceNeg,syE,ai,ag,af,syW,xQ,lc,mo,pf,mz]
 all_goals simp -implicitDefEqProofs only [List.map_nil]
def en (k:Nat) (v0:Int):Option (Int×Int):=
 ob (gH k v0) fun x41=>
 some (x41.1,(IntKind.u64.wrap (bif decide (x41.2<0) then 0 else x41.2)))
theorem rT (k:Nat) (v0:Int):xC (k+13) none 215 [.lit (.int .u64 v0)]=ob (en k v0) fun r=>some ((.tup [.lit (.int .u64 r.1),.lit (.int .u64 r.2)]),[]):=by
 rw [aM]
 unfold en
 simp (maxSteps:=2000000) -implicitDefEqProofs only [SU,My,↓syP,syA,syD,Nat.reduceAdd,Nat.reduceSub,Nat.reduceMul,Nat.reduceLT,Nat.reduceLeDiff,Nat.reduceEqDiff,Nat.reduceBEq,Nat.reduceBNe,Int.reduceBEq,Int.reduceBNe,Int.reduceLT,Int.reduceLE,Int.reduceAdd,Int.reduceSub,Int.reduceNeg,syE,ai,ag,af,syW,xQ,DF]
 all_goals simp -implicitDefEqProofs only [List.map_nil]
def gA (v0:Int):Option Int:=
 ob (dj v0) fun x45=>
 ob (fq (IntKind.u64.wrap (x45+1)) 0) fun x46=>
 some x46
theorem Dm (k:Nat) (v0:Int):xC (k+2) none 218 [.lit (.int .u64 v0)]=ob (gA v0) fun r=>some ((.lit (.int .u64 r)),[]):=by
 rw [aM]
 unfold gA
 simp (maxSteps:=2000000) -implicitDefEqProofs only [Z2,UF,↓syP,syA,syD,Nat.reduceAdd,Nat.reduceSub,Nat.reduceMul,Nat.reduceLT,Nat.reduceLeDiff,Nat.reduceEqDiff,Nat.reduceBEq,Nat.reduceBNe,Int.reduceBEq,Int.reduceBNe,Int.reduceLT,Int.reduceLE,Int.reduceAdd,Int.reduceSub,Int.reduceNeg,syE,ai,ag,af,syW,xQ,lc,pf]
 all_goals simp -implicitDefEqProofs only [List.map_nil]
def ep (v0:Int):Option (Int×Int):=
 ob (gA v0) fun x51=>
 ob (cD v0) fun x52=>
 some (x51,x52)
theorem r8 (k:Nat) (v0:Int):xC (k+3) none 217 [.lit (.int .u64 v0)]=ob (ep v0) fun r=>some ((.tup [.lit (.int .u64 r.1),.lit (.int .u64 r.2)]),[]):=by
 rw [aM]
 unfold ep
 simp (maxSteps:=2000000) -implicitDefEqProofs only [SY,Of,↓syP,syA,syD,Nat.reduceAdd,Nat.reduceSub,Nat.reduceMul,Nat.reduceLT,Nat.reduceLeDiff,Nat.reduceEqDiff,Nat.reduceBEq,Nat.reduceBNe,Int.reduceBEq,Int.reduceBNe,Int.reduceLT,Int.reduceLE,Int.reduceAdd,Int.reduceSub,Int.reduceNeg,syE,ai,ag,af,syW,xQ,mo,Dm]
 all_goals simp -implicitDefEqProofs only [List.map_nil]
def dB (k:Nat) (v0:(Int×Int×Int×Int)) (v1:(List Int)) (v2:(List Int))  : Nat→List Int→Int→Option (List Int)
 | 0,_,_=>none
 | n+1,s59,s61=>
 bif decide (s61<(↑v2.length:Int)) then
 ob (idx v2 s61) fun x68=>
 ob (fk (v0.1,v0.2.1,v0.2.2.1,v0.2.2.2) x68) fun x69=>
 ob (bk s59 x69 (1:Int)) fun x70=>
 dB k v0 v1 v2  n (x70) (IntKind.i64.wrap (s61+(1:Int)))
 else
 some (s59)
theorem ni (k:Nat) (v0_0 v0_1 v0_2 v0_3:Int) (v1 v2:List Int):∀ (n:Nat) (s59:List Int) (s61:Int) ⦃j60:V⦄,rt none (itX (xX (xS (k+(12:Nat))) (194:Nat) (0:Nat) (k+(12:Nat)) false) xx ((2:Nat)) (au (xX (xS (k+(12:Nat))) (194:Nat) (0:Nat) (k+(12:Nat)) false) (aA (xS (k+(12:Nat))).P Tryz.f194) xz) n ⟨[V.agg [V.lit (Value.int IntKind.i64 v0_0),V.lit (Value.int IntKind.i64 v0_1),V.lit (Value.int IntKind.i64 v0_2),V.lit (Value.int IntKind.i64 v0_3)],V.ro (List.map (aG IntKind.u64) s59),V.ro (List.map (aG IntKind.i64) v2),V.ptr (0:Nat) (0:Nat) (0:Nat) (0:Nat),uu,uu,V.own (1:Nat) (0:Nat) (0:Nat),uu,j60,V.ro (List.map (aG IntKind.i64) v2),V.lit (Value.int IntKind.i64 (↑v2.length:Int)),V.lit (Value.int IntKind.i64 s61),V.junk,V.junk,V.junk,V.junk,V.junk,V.junk,V.junk,V.junk,V.junk,uu],[B.box [V.lit (Value.int IntKind.i64 v0_0),V.lit (Value.int IntKind.i64 v0_1),V.lit (Value.int IntKind.i64 v0_2),V.lit (Value.int IntKind.i64 v0_3)],B.rows (0:Nat) [] (0:Nat) true]⟩)=ob (dB k (v0_0,v0_1,v0_2,v0_3) v1 v2  n s59 s61) fun r=>some ((.ro (List.map (aG .u64) r)),[]):=by
 intro n
 induction n with
 | zero=>intros;rfl
 | succ n ih=>
  intro s59 s61 j60
  rw [dB]
  simp (maxSteps:=2000000) -implicitDefEqProofs only [W1,QB,QO,CE,l9,↓syP,syA,syD,Nat.reduceAdd,Nat.reduceSub,Nat.reduceMul,Nat.reduceLT,Nat.reduceLeDiff,Nat.reduceEqDiff,Nat.reduceBEq,Nat.reduceBNe,Int.reduceBEq,Int.reduceBNe,Int.reduceLT,Int.reduceLE,Int.reduceAdd,Int.reduceSub,Int.reduceNeg,syE,ai,ag,af,syW,xQ,dL,ux,GU,ih]
  all_goals simp -implicitDefEqProofs only [List.map_nil]
def ew (k:Nat) (v0:(Int×Int×Int×Int)) (v1:(List Int)) (v2:(List Int)):Option (List Int):=
 dB k v0 v1 v2 (k+12) v1 0
theorem CP (k:Nat) (v0_0 v0_1 v0_2 v0_3:Int) (v1 v2:List Int):xC (k+13) none 194 [.agg [.lit (.int .i64 v0_0),.lit (.int .i64 v0_1),.lit (.int .i64 v0_2),.lit (.int .i64 v0_3)],.ro (List.map (aG .u64) v1),.ro (List.map (aG .i64) v2)]=ob (ew k (v0_0,v0_1,v0_2,v0_3) v1 v2) fun r=>some ((.ro (List.map (aG .u64) r)),[]):=by
 rw [aM]
 unfold ew
 simp (maxSteps:=2000000) -implicitDefEqProofs only [W1,QB,QO,CE,l9,↓syP,syA,syD,Nat.reduceAdd,Nat.reduceSub,Nat.reduceMul,Nat.reduceLT,Nat.reduceLeDiff,Nat.reduceEqDiff,Nat.reduceBEq,Nat.reduceBNe,Int.reduceBEq,Int.reduceBNe,Int.reduceLT,Int.reduceLE,Int.reduceAdd,Int.reduceSub,Int.reduceNeg,syE,ai,ag,af,syW,xQ,ni k v0_0 v0_1 v0_2 v0_3 v1 v2]
 all_goals simp -implicitDefEqProofs only [List.map_nil]
def fi (k:Nat) (v0:(Int×Int×Int×Int)) (v1:(List Int)) (v2:(Int×Int×Int×Int×Int×Int×Int)):Option ((List Int)×(Int×Int×Int×Int×Int×Int×Int)):=
 ob (aJ 8 v1) fun x93=>
 ob (gS v0 v1 v2) fun x94=>
 bif !x94 then
 some (x93,v2)
 else
 bif v2.2.1==0 then
 ob (aD x93 2) fun x95=>
 some (x93,(v2.1,1,v2.2.2.1,v2.2.2.2.1,x95,v2.2.2.2.2.2))
 else
 bif v2.2.1==1 then
 bif v2.1==6 then
 ob (en (k+2) v2.2.2.2.2.1) fun x96=>
 ob (cG x93 2 v2.2.2.2.2.1 x96.1) fun x97=>
 bif !x97.2 then
 some (x97.1,(v2.1,0,v2.2.2))
 else
 ob (cD v2.2.2.2.2.1) fun x98=>
 bif x98==0 then
 ob (aS (v2.1,0,v2.2.2) 3 0) fun x99=>
 some (x97.1,x99)
 else
 some (x97.1,(v2.1,2,v2.2.2.1,v2.2.2.2.1,v2.2.2.2.2.1,x96.2,v2.2.2.2.2.2.2))
 else
 bif v2.1==7 then
 ob (ep v2.2.2.2.2.1) fun x100=>
 ob (cG x93 2 v2.2.2.2.2.1 x100.1) fun x101=>
 bif !x101.2 then
 some (x101.1,(v2.1,0,v2.2.2))
 else
 ob (cD v2.2.2.2.2.1) fun x102=>
 bif x102==0 then
 ob (aS (v2.1,0,v2.2.2) 3 0) fun x103=>
 some (x101.1,x103)
 else
 some (x101.1,(v2.1,2,v2.2.2.1,v2.2.2.2.1,v2.2.2.2.2.1,x100.2,v2.2.2.2.2.2.2))
 else
 none
 else
 bif v2.1==6 then
 bif decide (v2.2.2.2.2.2.1<8) then
 ob (ew (k+2) v0 x93 [IntKind.i64.wrap v2.2.2.2.2.2.1]) fun x104=>
 ob (aS v2 1 v2.2.2.2.2.2.1) fun x105=>
 some (x104,x105)
 else
 ob (ew (k+2) v0 x93 [(-1)]) fun x106=>
 ob (aS v2 1 v2.2.2.2.2.2.1) fun x107=>
 some (x106,x107)
 else
 ob (eZ (k+4) v2.2.2.2.2.2.1) fun x108=>
 ob (ew (k+2) v0 x93 [x108]) fun x109=>
 ob (cD v2.2.2.2.2.2.1) fun x110=>
 bif rQ IntKind.u64 x110 (IntKind.u64.wrap (x110 - 1))==0 then
 ob (cD v2.2.2.2.2.1) fun x111=>
 ob (aS (v2.1,v2.2.1,v2.2.2.1,v2.2.2.2.1,v2.2.2.2.2.1,x110,v2.2.2.2.2.2.2) 1 x111) fun x112=>
 some (x109,x112)
 else
 bif x110==0 then
 ob (cD v2.2.2.2.2.1) fun x113=>
 ob (aS (v2.1,v2.2.1,v2.2.2.1,v2.2.2.2.1,v2.2.2.2.2.1,x110,v2.2.2.2.2.2.2) 1 x113) fun x114=>
 some (x109,x114)
 else
 some (x109,(v2.1,v2.2.1,v2.2.2.1,v2.2.2.2.1,v2.2.2.2.2.1,(rQ IntKind.u64 x110 (IntKind.u64.wrap (x110 - 1))),v2.2.2.2.2.2.2))
theorem C9 (k:Nat) (v0_0 v0_1 v0_2 v0_3:Int) (v1:List Int) (v2_0 v2_1 v2_2 v2_3 v2_4 v2_5 v2_6:Int):xC (k+16) none 166 [.agg [.lit (.int .i64 v0_0),.lit (.int .i64 v0_1),.lit (.int .i64 v0_2),.lit (.int .i64 v0_3)],.ro (List.map (aG .u64) v1),.agg [.lit (.int .i64 v2_0),.lit (.int .i64 v2_1),.lit (.int .i64 v2_2),.lit (.int .u64 v2_3),.lit (.int .u64 v2_4),.lit (.int .u64 v2_5),.lit (.int .i64 v2_6)]]=ob (fi k (v0_0,v0_1,v0_2,v0_3) v1 (v2_0,v2_1,v2_2,v2_3,v2_4,v2_5,v2_6)) fun r=>some ((.tup [.ro (List.map (aG .u64) r.1),.agg [.lit (.int .i64 r.2.1),.lit (.int .i64 r.2.2.1),.lit (.int .i64 r.2.2.2.1),.lit (.int .u64 r.2.2.2.2.1),.lit (.int .u64 r.2.2.2.2.2.1),.lit (.int .u64 r.2.2.2.2.2.2.1),.lit (.int .i64 r.2.2.2.2.2.2.2)]]),[]):=by
 rw [aM]
 unfold fi
 simp (maxSteps:=2000000) -implicitDefEqProofs only [aa1,Ve,Iv,Jy,Ir,rx,pG,rq,WF,RX,aM (g:=190),SU,My,SY,Of,↓syP,syA,syD,Nat.reduceAdd,Nat.reduceSub,Nat.reduceMul,Nat.reduceLT,Nat.reduceLeDiff,Nat.reduceEqDiff,Nat.reduceBEq,Nat.reduceBNe,Int.reduceBEq,Int.reduceBNe,Int.reduceLT,Int.reduceLE,Int.reduceAdd,Int.reduceSub,Int.reduceNeg,syE,ai,ag,af,syW,xQ,cE,gr,ez,mo,Df,mz,rT,r8,CP]
 all_goals simp -implicitDefEqProofs only [List.map_nil]
end Go.Ab
set_option maxRecDepth 100000
set_option linter.unusedVariables false
set_option linter.unusedSimpArgs false
namespace Go.Ab
open Go.Proofs
def gM (v0:(Int×Int×Int×Int)) (v1:(List Int)) (v2:(Int×Int×Int×Int×Int×Int×Int)):Option ((List Int)×(Int×Int×Int×Int×Int×Int×Int)):=
 ob (aJ 8 v1) fun x14=>
 ob (dP v0 v1 v2 0 4) fun x15=>
 bif x15 then
 bif v2.2.1==0 then
 ob (cQ v0 v2.2.2.1) fun x16=>
 ob (aD x14 x16) fun x17=>
 some (x14,(v2.1,1,v2.2.2.1,v2.2.2.2.1,x17,v2.2.2.2.2.2))
 else
 bif v2.2.1==1 then
 ob (fF v0 v2.2.2.1) fun x18=>
 ob (aD x14 x18) fun x19=>
 bif decide (IntKind.u64.wrap v0.2.1≤IntKind.u64.wrap (v2.2.2.2.2.1 - x19)) then
 ob (aS (v2.1,2,v2.2.2.1,v2.2.2.2.1,v2.2.2.2.2.1,x19,v2.2.2.2.2.2.2) 2 v2.2.2.2.1) fun x20=>
 some (x14,x20)
 else
 some (x14,(v2.1,2,v2.2.2.1,v2.2.2.2.1,v2.2.2.2.2.1,x19,v2.2.2.2.2.2.2))
 else
 bif v2.2.1==2 then
 ob (eJ v0 v2.2.2.1 v2.2.2.2.2.1) fun x21=>
 ob (bk x14 x21 v2.2.2.2.1) fun x22=>
 some (x22,(v2.1,3,v2.2.2))
 else
 bif v2.2.1==3 then
 ob (cQ v0 v2.2.2.1) fun x23=>
 ob (bk x14 x23 (IntKind.u64.wrap (v2.2.2.2.2.1+1))) fun x24=>
 ob (aS v2 1 v2.2.2.2.1) fun x25=>
 some (x24,x25)
 else
 none
 else
 some (x14,v2)
theorem CD (k:Nat) (v0_0 v0_1 v0_2 v0_3:Int) (v1:List Int) (v2_0 v2_1 v2_2 v2_3 v2_4 v2_5 v2_6:Int):xC (k+24) none 207 [.agg [.lit (.int .i64 v0_0),.lit (.int .i64 v0_1),.lit (.int .i64 v0_2),.lit (.int .i64 v0_3)],.ro (List.map (aG .u64) v1),.agg [.lit (.int .i64 v2_0),.lit (.int .i64 v2_1),.lit (.int .i64 v2_2),.lit (.int .u64 v2_3),.lit (.int .u64 v2_4),.lit (.int .u64 v2_5),.lit (.int .i64 v2_6)]]=ob (gM (v0_0,v0_1,v0_2,v0_3) v1 (v2_0,v2_1,v2_2,v2_3,v2_4,v2_5,v2_6)) fun r=>some ((.tup [.ro (List.map (aG .u64) r.1),.agg [.lit (.int .i64 r.2.1),.lit (.int .i64 r.2.2.1),.lit (.int .i64 r.2.2.2.1),.lit (.int .u64 r.2.2.2.2.1),.lit (.int .u64 r.2.2.2.2.2.1),.lit (.int .u64 r.2.2.2.2.2.2.1),.lit (.int .i64 r.2.2.2.2.2.2.2)]]),[]):=by
 rw [aM]
 unfold gM
 simp (maxSteps:=2000000) -implicitDefEqProofs only [acx,WV,GO,rr,ab0,Xr,ab5,V5,acR,YQ,ab6,Ys,↓syP,syA,syD,Nat.reduceAdd,Nat.reduceSub,Nat.reduceMul,Nat.reduceLT,Nat.reduceLeDiff,Nat.reduceEqDiff,Nat.reduceBEq,Nat.reduceBNe,Int.reduceBEq,Int.reduceBNe,Int.reduceLT,Int.reduceLE,Int.reduceAdd,Int.reduceSub,Int.reduceNeg,syE,ai,ag,af,syW,xQ,cE,dL,ez,kL,fH,nB,gE]
 all_goals simp -implicitDefEqProofs only [List.map_nil]
def iA (v0:(Int×Int×Int×Int)) (v1:(List Int)) (v2:(Int×Int×Int×Int×Int×Int×Int)):Option ((List Int)×(Int×Int×Int×Int×Int×Int×Int)):=
 ob (aJ 8 v1) fun x54=>
 ob (dP v0 v1 v2 1 7) fun x55=>
 bif !x55 then
 some (x54,v2)
 else
 ob (fF v0 v2.2.2.1) fun x56=>
 ob (cQ v0 v2.2.2.1) fun x57=>
 bif v2.2.1==0 then
 ob (aD x54 x57) fun x58=>
 some (x54,(v2.1,(IntKind.i64.wrap (v2.2.1+1)),v2.2.2.1,v2.2.2.2.1,(IntKind.u64.wrap (x58 - 1)),v2.2.2.2.2.2))
 else
 bif v2.2.1==1 then
 ob (bk x54 x57 v2.2.2.2.2.1) fun x59=>
 some (x59,(v2.1,(IntKind.i64.wrap (v2.2.1+1)),v2.2.2))
 else
 bif v2.2.1==2 then
 ob (aD x54 x56) fun x60=>
 ob (eb v2.2.2.2.2.1 x60) fun x61=>
 bif decide (x61<0) then
 some (x54,(v2.1,6,v2.2.2.1,v2.2.2.2.1,v2.2.2.2.2.1,x60,v2.2.2.2.2.2.2))
 else
 some (x54,(v2.1,(IntKind.i64.wrap (v2.2.1+1)),v2.2.2.1,v2.2.2.2.1,v2.2.2.2.2.1,x60,v2.2.2.2.2.2.2))
 else
 bif v2.2.1==3 then
 ob (eJ v0 v2.2.2.1 v2.2.2.2.2.1) fun x62=>
 ob (aD x54 x62) fun x63=>
 bif v2.2.2.2.2.1!=v2.2.2.2.2.2.1 then
 ob (aS (v2.1,v2.2.1,v2.2.2.1,x63,v2.2.2.2.2) 1 x63) fun x64=>
 some (x54,x64)
 else
 some (x54,(v2.1,(IntKind.i64.wrap (v2.2.1+1)),v2.2.2.1,x63,v2.2.2.2.2))
 else
 bif v2.2.1==4 then
 ob (cG x54 x56 v2.2.2.2.2.2.1 (IntKind.u64.wrap (v2.2.2.2.2.2.1+1))) fun x65=>
 bif !x65.2 then
 some (x65.1,(v2.1,6,v2.2.2))
 else
 some (x65.1,(v2.1,(IntKind.i64.wrap (v2.2.1+1)),v2.2.2))
 else
 bif v2.2.1==5 then
 ob (bk x54 x57 (IntKind.u64.wrap (v2.2.2.2.2.1+1))) fun x66=>
 ob (aS v2 1 v2.2.2.2.1) fun x67=>
 some (x66,x67)
 else
 ob (bk x54 x57 (IntKind.u64.wrap (v2.2.2.2.2.1+1))) fun x68=>
 ob (aS v2 3 0) fun x69=>
 some (x68,x69)
theorem Gm (k:Nat) (v0_0 v0_1 v0_2 v0_3:Int) (v1:List Int) (v2_0 v2_1 v2_2 v2_3 v2_4 v2_5 v2_6:Int):xC (k+24) none 208 [.agg [.lit (.int .i64 v0_0),.lit (.int .i64 v0_1),.lit (.int .i64 v0_2),.lit (.int .i64 v0_3)],.ro (List.map (aG .u64) v1),.agg [.lit (.int .i64 v2_0),.lit (.int .i64 v2_1),.lit (.int .i64 v2_2),.lit (.int .u64 v2_3),.lit (.int .u64 v2_4),.lit (.int .u64 v2_5),.lit (.int .i64 v2_6)]]=ob (iA (v0_0,v0_1,v0_2,v0_3) v1 (v2_0,v2_1,v2_2,v2_3,v2_4,v2_5,v2_6)) fun r=>some ((.tup [.ro (List.map (aG .u64) r.1),.agg [.lit (.int .i64 r.2.1),.lit (.int .i64 r.2.2.1),.lit (.int .i64 r.2.2.2.1),.lit (.int .u64 r.2.2.2.2.1),.lit (.int .u64 r.2.2.2.2.2.1),.lit (.int .u64 r.2.2.2.2.2.2.1),.lit (.int .i64 r.2.2.2.2.2.2.2)]]),[]):=by
 rw [aM]
 unfold iA
 simp (maxSteps:=2000000) -implicitDefEqProofs only [Zu,Vk,acI,VA,↓syP,syA,syD,Nat.reduceAdd,Nat.reduceSub,Nat.reduceMul,Nat.reduceLT,Nat.reduceLeDiff,Nat.reduceEqDiff,Nat.reduceBEq,Nat.reduceBNe,Int.reduceBEq,Int.reduceBNe,Int.reduceLT,Int.reduceLE,Int.reduceAdd,Int.reduceSub,Int.reduceNeg,syE,ai,ag,af,syW,xQ,cE,dL,gr,ez,kL,fH,nB,iB,gE]
 all_goals simp -implicitDefEqProofs only [List.map_nil]
def ao (k : Nat) (v0 : (Int × Int × Int × Int)) (v1 : (List Int)) (v2 : (Int × Int × Int × Int × Int × Int × Int))  : Nat → List Int → Int → Int → Int → Option ((List Int) × (Int × Int × Int × Int × Int × Int × Int))
 | 0,_,_,_,_ => none
 | n + 1,s91,s94,s95,s117 =>
 bif decide (s117 < (4 : Int)) then
 bif decide ((0 : Int) ≤ s117 ∧ s117.toNat < (4 : Nat)) then
 bif s117.toNat == (0 : Nat) then
 bif s117 != v2.2.1 then
 ao k v0 v1 v2  n (s91) (s94) (s95) (IntKind.i64.wrap (s117 + (1 : Int)))
 else
 ob (aD s91 s94) fun x152 =>
 ob (aF (v2.1,v2.2.1,v2.2.2.1,v2.2.2.2.1,v2.2.2.2.2.1,x152,v2.2.2.2.2.2.2)) fun x153 =>
 bif !x153 then
 some ((s91),((v2.1),(IntKind.i64.wrap (v2.2.1 + (1 : Int))),(v2.2.2.1),(v2.2.2.2.1),(v2.2.2.2.2.1),(x152),(v2.2.2.2.2.2.2)))
 else
 some ((s91),((v2.1),(v2.2.1),(v2.2.2.1),(v2.2.2.2.1),(v2.2.2.2.2.1),(x152),(v2.2.2.2.2.2.2)))
 else
 bif s117.toNat == (1 : Nat) then
 bif s117 != v2.2.1 then
 ao k v0 v1 v2  n (s91) (s94) (s95) (IntKind.i64.wrap (s117 + (1 : Int)))
 else
 ob (aD s91 s95) fun x154 =>
 ob (eb x154 v2.2.2.2.2.2.1) fun x155 =>
 bif decide (x155 ≤ (0 : Int)) then
 ob (aS (v2.1,v2.2.1,v2.2.2.1,v2.2.2.2.1,x154,v2.2.2.2.2.2.1,v2.2.2.2.2.2.2) (3 : Int) (0 : Int)) fun x156 =>
 ob (aF (x156.1,x156.2.1,x156.2.2.1,x156.2.2.2.1,x156.2.2.2.2.1,x156.2.2.2.2.2.1,x156.2.2.2.2.2.2)) fun x157 =>
 bif !x157 then
 some ((s91),((x156.1),(IntKind.i64.wrap (x156.2.1 + (1 : Int))),(x156.2.2.1),(x156.2.2.2.1),(x156.2.2.2.2.1),(x156.2.2.2.2.2.1),(x156.2.2.2.2.2.2)))
 else
 some ((s91),((x156.1),(x156.2.1),(x156.2.2.1),(x156.2.2.2.1),(x156.2.2.2.2.1),(x156.2.2.2.2.2.1),(x156.2.2.2.2.2.2)))
 else
 ob (aF (v2.1,v2.2.1,v2.2.2.1,v2.2.2.2.1,x154,v2.2.2.2.2.2.1,v2.2.2.2.2.2.2)) fun x158 =>
 bif !x158 then
 some ((s91),((v2.1),(IntKind.i64.wrap (v2.2.1 + (1 : Int))),(v2.2.2.1),(v2.2.2.2.1),(x154),(v2.2.2.2.2.2.1),(v2.2.2.2.2.2.2)))
 else
 some ((s91),((v2.1),(v2.2.1),(v2.2.2.1),(v2.2.2.2.1),(x154),(v2.2.2.2.2.2.1),(v2.2.2.2.2.2.2)))
 else
 bif s117.toNat == (2 : Nat) then
 bif s117 != v2.2.1 then
 ao k v0 v1 v2  n (s91) (s94) (s95) (IntKind.i64.wrap (s117 + (1 : Int)))
 else
 ob (eJ (v0.1,v0.2.1,v0.2.2.1,v0.2.2.2) v2.2.2.1 v2.2.2.2.2.2.1) fun x159 =>
 ob (aD s91 x159) fun x160 =>
 ob (aF (v2.1,v2.2.1,v2.2.2.1,x160,v2.2.2.2.2.1,v2.2.2.2.2.2.1,v2.2.2.2.2.2.2)) fun x161 =>
 bif !x161 then
 some ((s91),((v2.1),(IntKind.i64.wrap (v2.2.1 + (1 : Int))),(v2.2.2.1),(x160),(v2.2.2.2.2.1),(v2.2.2.2.2.2.1),(v2.2.2.2.2.2.2)))
 else
 some ((s91),((v2.1),(v2.2.1),(v2.2.2.1),(x160),(v2.2.2.2.2.1),(v2.2.2.2.2.2.1),(v2.2.2.2.2.2.2)))
 else
 bif s117.toNat == (3 : Nat) then
 bif s117 != v2.2.1 then
 ao k v0 v1 v2  n (s91) (s94) (s95) (IntKind.i64.wrap (s117 + (1 : Int)))
 else
 ob (cG s91 s94 v2.2.2.2.2.2.1 (IntKind.u64.wrap (v2.2.2.2.2.2.1 + (1 : Int)))) fun x162 =>
 bif x162.2 then
 ob (aS (v2.1,v2.2.1,v2.2.2.1,v2.2.2.2.1,v2.2.2.2.2.1,v2.2.2.2.2.2.1,v2.2.2.2.2.2.2) (1 : Int) v2.2.2.2.1) fun x163 =>
 ob (aF (x163.1,x163.2.1,x163.2.2.1,x163.2.2.2.1,x163.2.2.2.2.1,x163.2.2.2.2.2.1,x163.2.2.2.2.2.2)) fun x164 =>
 bif !x164 then
 some ((x162.1),((x163.1),(IntKind.i64.wrap (x163.2.1 + (1 : Int))),(x163.2.2.1),(x163.2.2.2.1),(x163.2.2.2.2.1),(x163.2.2.2.2.2.1),(x163.2.2.2.2.2.2)))
 else
 some ((x162.1),((x163.1),(x163.2.1),(x163.2.2.1),(x163.2.2.2.1),(x163.2.2.2.2.1),(x163.2.2.2.2.2.1),(x163.2.2.2.2.2.2)))
 else
 ob (aS (v2.1,v2.2.1,v2.2.2.1,v2.2.2.2.1,v2.2.2.2.2.1,v2.2.2.2.2.2.1,v2.2.2.2.2.2.2) (4 : Int) (0 : Int)) fun x165 =>
 ob (aF (x165.1,x165.2.1,x165.2.2.1,x165.2.2.2.1,x165.2.2.2.2.1,x165.2.2.2.2.2.1,x165.2.2.2.2.2.2)) fun x166 =>
 bif !x166 then
 some ((x162.1),((x165.1),(IntKind.i64.wrap (x165.2.1 + (1 : Int))),(x165.2.2.1),(x165.2.2.2.1),(x165.2.2.2.2.1),(x165.2.2.2.2.2.1),(x165.2.2.2.2.2.2)))
 else
 some ((x162.1),((x165.1),(x165.2.1),(x165.2.2.1),(x165.2.2.2.1),(x165.2.2.2.2.1),(x165.2.2.2.2.2.1),(x165.2.2.2.2.2.2)))
 else
 none
 else
 none
 else
 some ((s91),((v2.1),(v2.2.1),(v2.2.2.1),(v2.2.2.2.1),(v2.2.2.2.2.1),(v2.2.2.2.2.2.1),(v2.2.2.2.2.2.2)))
theorem m6 (k:Nat) (v0_0 v0_1 v0_2 v0_3:Int) (v1:List Int) (v2_0 v2_1 v2_2 v2_3 v2_4 v2_5 v2_6:Int):∀ (n:Nat) (s91:List Int) (s94:Int) (s95:Int) (s117:Int) ⦃s92:Bool⦄ ⦃s93:Bool⦄ ⦃j115 j116:V⦄,rt none (itX (xX (xS (k+(23:Nat))) (209:Nat) (0:Nat) (k+(23:Nat)) false) wp ((9:Nat)) (au (xX (xS (k+(23:Nat))) (209:Nat) (0:Nat) (k+(23:Nat)) false) (aA (xS (k+(23:Nat))).P Tryz.f209) xh) n ⟨[V.agg [V.lit (Value.int IntKind.i64 v0_0),V.lit (Value.int IntKind.i64 v0_1),V.lit (Value.int IntKind.i64 v0_2),V.lit (Value.int IntKind.i64 v0_3)],V.ro (List.map (aG IntKind.u64) v1),V.agg [V.lit (Value.int IntKind.i64 v2_0),V.lit (Value.int IntKind.i64 v2_1),V.lit (Value.int IntKind.i64 v2_2),V.lit (Value.int IntKind.u64 v2_3),V.lit (Value.int IntKind.u64 v2_4),V.lit (Value.int IntKind.u64 v2_5),V.lit (Value.int IntKind.i64 v2_6)],V.ptr (0:Nat) (0:Nat) (0:Nat) (0:Nat),uu,V.ptr (1:Nat) (0:Nat) (0:Nat) (0:Nat),V.own (2:Nat) (0:Nat) (0:Nat),V.ptr (3:Nat) (0:Nat) (0:Nat) (0:Nat),V.ptr (5:Nat) (0:Nat) (0:Nat) (0:Nat),V.ptr (6:Nat) (0:Nat) (0:Nat) (0:Nat),V.ptr (7:Nat) (0:Nat) (0:Nat) (0:Nat),V.own (8:Nat) (0:Nat) (4:Nat),j115,j116,V.ro (List.map (aG IntKind.u64) v1),V.ro (List.map (aG IntKind.u64) s91),V.agg [V.lit (Value.int IntKind.i64 v0_0),V.lit (Value.int IntKind.i64 v0_1),V.lit (Value.int IntKind.i64 v0_2),V.lit (Value.int IntKind.i64 v0_3)],V.ro (List.map (aG IntKind.u64) v1),V.agg [V.lit (Value.int IntKind.i64 v2_0),V.lit (Value.int IntKind.i64 v2_1),V.lit (Value.int IntKind.i64 v2_2),V.lit (Value.int IntKind.u64 v2_3),V.lit (Value.int IntKind.u64 v2_4),V.lit (Value.int IntKind.u64 v2_5),V.lit (Value.int IntKind.i64 v2_6)],V.lit (Value.bool s92),V.lit (Value.bool s93),uu,uu,V.agg [V.lit (Value.int IntKind.i64 v0_0),V.lit (Value.int IntKind.i64 v0_1),V.lit (Value.int IntKind.i64 v0_2),V.lit (Value.int IntKind.i64 v0_3)],V.ptr (1:Nat) (0:Nat) (0:Nat) (2:Nat),V.lit (Value.int IntKind.i64 v2_2),V.lit (Value.int IntKind.i64 s94),V.agg [V.lit (Value.int IntKind.i64 v0_0),V.lit (Value.int IntKind.i64 v0_1),V.lit (Value.int IntKind.i64 v0_2),V.lit (Value.int IntKind.i64 v0_3)],V.ptr (1:Nat) (0:Nat) (0:Nat) (2:Nat),V.lit (Value.int IntKind.i64 v2_2),V.lit (Value.int IntKind.i64 s95),V.fn (Fn.func (229:FuncId)) [] [V.ptr (5:Nat) (0:Nat) (0:Nat) (0:Nat),V.ptr (6:Nat) (0:Nat) (0:Nat) (0:Nat),V.ptr (1:Nat) (0:Nat) (0:Nat) (0:Nat)],V.fn (Fn.func (230:FuncId)) [] [V.ptr (5:Nat) (0:Nat) (0:Nat) (0:Nat),V.ptr (7:Nat) (0:Nat) (0:Nat) (0:Nat),V.ptr (1:Nat) (0:Nat) (0:Nat) (0:Nat)],V.fn (Fn.func (231:FuncId)) [] [V.ptr (5:Nat) (0:Nat) (0:Nat) (0:Nat),V.ptr (0:Nat) (0:Nat) (0:Nat) (0:Nat),V.ptr (1:Nat) (0:Nat) (0:Nat) (0:Nat)],V.fn (Fn.func (232:FuncId)) [] [V.ptr (5:Nat) (0:Nat) (0:Nat) (0:Nat),V.ptr (6:Nat) (0:Nat) (0:Nat) (0:Nat),V.ptr (1:Nat) (0:Nat) (0:Nat) (0:Nat)],V.own (8:Nat) (0:Nat) (4:Nat),V.own (8:Nat) (0:Nat) (4:Nat),V.lit (Value.int IntKind.i64 (4:Int)),V.lit (Value.int IntKind.i64 s117),V.junk,V.junk,V.junk,V.junk,V.junk,V.junk,V.junk,V.junk,V.junk,V.junk,V.junk,V.junk,V.junk,V.junk,V.junk,V.junk,V.junk,V.junk,uu,uu],[B.box [V.lit (Value.int IntKind.i64 v0_0),V.lit (Value.int IntKind.i64 v0_1),V.lit (Value.int IntKind.i64 v0_2),V.lit (Value.int IntKind.i64 v0_3)],B.box [V.lit (Value.int IntKind.i64 v2_0),V.lit (Value.int IntKind.i64 v2_1),V.lit (Value.int IntKind.i64 v2_2),V.lit (Value.int IntKind.u64 v2_3),V.lit (Value.int IntKind.u64 v2_4),V.lit (Value.int IntKind.u64 v2_5),V.lit (Value.int IntKind.i64 v2_6)],B.rows (0:Nat) [] (0:Nat) true,B.box [V.lit (Value.int IntKind.i64 (0:Int)),V.lit (Value.int IntKind.i64 (0:Int)),V.lit (Value.int IntKind.i64 (0:Int)),V.lit (Value.int IntKind.u64 (0:Int)),V.lit (Value.int IntKind.u64 (0:Int)),V.lit (Value.int IntKind.u64 (0:Int)),V.lit (Value.int IntKind.i64 (0:Int))],B.rows (0:Nat) [] (0:Nat) true,B.box [V.ro (List.map (aG IntKind.u64) s91)],B.box [V.lit (Value.int IntKind.i64 s94)],B.box [V.lit (Value.int IntKind.i64 s95)],B.rows (1:Nat) [[V.fn (Fn.func (229:FuncId)) [] [V.ptr (5:Nat) (0:Nat) (0:Nat) (0:Nat),V.ptr (6:Nat) (0:Nat) (0:Nat) (0:Nat),V.ptr (1:Nat) (0:Nat) (0:Nat) (0:Nat)]],[V.fn (Fn.func (230:FuncId)) [] [V.ptr (5:Nat) (0:Nat) (0:Nat) (0:Nat),V.ptr (7:Nat) (0:Nat) (0:Nat) (0:Nat),V.ptr (1:Nat) (0:Nat) (0:Nat) (0:Nat)]],[V.fn (Fn.func (231:FuncId)) [] [V.ptr (5:Nat) (0:Nat) (0:Nat) (0:Nat),V.ptr (0:Nat) (0:Nat) (0:Nat) (0:Nat),V.ptr (1:Nat) (0:Nat) (0:Nat) (0:Nat)]],[V.fn (Fn.func (232:FuncId)) [] [V.ptr (5:Nat) (0:Nat) (0:Nat) (0:Nat),V.ptr (6:Nat) (0:Nat) (0:Nat) (0:Nat),V.ptr (1:Nat) (0:Nat) (0:Nat) (0:Nat)]]] (0:Nat) true]⟩)=ob (ao k (v0_0,v0_1,v0_2,v0_3) v1 (v2_0,v2_1,v2_2,v2_3,v2_4,v2_5,v2_6)  n s91 s94 s95 s117) fun r=>some ((.tup [.ro (List.map (aG .u64) r.1),.agg [.lit (.int .i64 r.2.1),.lit (.int .i64 r.2.2.1),.lit (.int .i64 r.2.2.2.1),.lit (.int .u64 r.2.2.2.2.1),.lit (.int .u64 r.2.2.2.2.2.1),.lit (.int .u64 r.2.2.2.2.2.2.1),.lit (.int .i64 r.2.2.2.2.2.2.2)]]),[]):=by
 intro n
 induction n with
 | zero=>intros;rfl
 | succ n ih=>
  intro s91 s94 s95 s117 s92 s93 j115 j116
  rw [ao]
  simp (maxSteps:=2000000) -implicitDefEqProofs only [Uw,QM,RL,CT,mf,X3,RC,Yw,TJ,Xy,RJ,Wl,TQ,↓syP,syA,syD,Nat.reduceAdd,Nat.reduceSub,Nat.reduceMul,Nat.reduceLT,Nat.reduceLeDiff,Nat.reduceEqDiff,Nat.reduceBEq,Nat.reduceBNe,Int.reduceBEq,Int.reduceBNe,Int.reduceLT,Int.reduceLE,Int.reduceAdd,Int.reduceSub,Int.reduceNeg,syE,ai,ag,af,syW,xQ,cE,gr,eN,ez,kL,fH,nB,iB,gE,Ip,ih]
  all_goals simp -implicitDefEqProofs only [List.map_nil]
def fD (k:Nat) (v0:(Int×Int×Int×Int)) (v1:(List Int)) (v2:(Int×Int×Int×Int×Int×Int×Int)):Option ((List Int)×(Int×Int×Int×Int×Int×Int×Int)):=
 ob (aJ 8 v1) fun x167=>
 ob (dP v0 v1 v2 2 4) fun x168=>
 bif !x168 then
 some (x167,v2)
 else
 ob (fF v0 v2.2.2.1) fun x169=>
 ob (cQ v0 v2.2.2.1) fun x170=>
 ao k v0 v1 v2 (k+23) x167 x169 x170 0
theorem AD (k:Nat) (v0_0 v0_1 v0_2 v0_3:Int) (v1:List Int) (v2_0 v2_1 v2_2 v2_3 v2_4 v2_5 v2_6:Int):xC (k+24) none 209 [.agg [.lit (.int .i64 v0_0),.lit (.int .i64 v0_1),.lit (.int .i64 v0_2),.lit (.int .i64 v0_3)],.ro (List.map (aG .u64) v1),.agg [.lit (.int .i64 v2_0),.lit (.int .i64 v2_1),.lit (.int .i64 v2_2),.lit (.int .u64 v2_3),.lit (.int .u64 v2_4),.lit (.int .u64 v2_5),.lit (.int .i64 v2_6)]]=ob (fD k (v0_0,v0_1,v0_2,v0_3) v1 (v2_0,v2_1,v2_2,v2_3,v2_4,v2_5,v2_6)) fun r=>some ((.tup [.ro (List.map (aG .u64) r.1),.agg [.lit (.int .i64 r.2.1),.lit (.int .i64 r.2.2.1),.lit (.int .i64 r.2.2.2.1),.lit (.int .u64 r.2.2.2.2.1),.lit (.int .u64 r.2.2.2.2.2.1),.lit (.int .u64 r.2.2.2.2.2.2.1),.lit (.int .i64 r.2.2.2.2.2.2.2)]]),[]):=by
 rw [aM]
 unfold fD
 simp (maxSteps:=2000000) -implicitDefEqProofs only [Uw,QM,RL,CT,mf,X3,RC,Yw,TJ,Xy,RJ,Wl,TQ,↓syP,syA,syD,Nat.reduceAdd,Nat.reduceSub,Nat.reduceMul,Nat.reduceLT,Nat.reduceLeDiff,Nat.reduceEqDiff,Nat.reduceBEq,Nat.reduceBNe,Int.reduceBEq,Int.reduceBNe,Int.reduceLT,Int.reduceLE,Int.reduceAdd,Int.reduceSub,Int.reduceNeg,syE,ai,ag,af,syW,xQ,kL,fH,gE,m6 k v0_0 v0_1 v0_2 v0_3 v1 v2_0 v2_1 v2_2 v2_3 v2_4 v2_5 v2_6]
 all_goals simp -implicitDefEqProofs only [List.map_nil]
def dO (k:Nat) (v0:(Int×Int×Int×Int)) (v1:(List Int)) (v2:(Int×Int×Int×Int×Int×Int×Int)):Option ((List Int)×(Int×Int×Int×Int×Int×Int×Int)):=
 bif v2.1==0 then
 ob (gM v0 v1 v2) fun x179=>
 some x179
 else
 bif v2.1==1 then
 ob (iA v0 v1 v2) fun x180=>
 some x180
 else
 bif v2.1==2 then
 ob (fD (k+1) v0 v1 v2) fun x181=>
 some x181
 else
 ob (aJ 8 v1) fun x182=>
 some (x182,v2)
theorem Bt (k:Nat) (v0_0 v0_1 v0_2 v0_3:Int) (v1:List Int) (v2_0 v2_1 v2_2 v2_3 v2_4 v2_5 v2_6:Int):xC (k+26) none 180 [.agg [.lit (.int .i64 v0_0),.lit (.int .i64 v0_1),.lit (.int .i64 v0_2),.lit (.int .i64 v0_3)],.ro (List.map (aG .u64) v1),.agg [.lit (.int .i64 v2_0),.lit (.int .i64 v2_1),.lit (.int .i64 v2_2),.lit (.int .u64 v2_3),.lit (.int .u64 v2_4),.lit (.int .u64 v2_5),.lit (.int .i64 v2_6)]]=ob (dO k (v0_0,v0_1,v0_2,v0_3) v1 (v2_0,v2_1,v2_2,v2_3,v2_4,v2_5,v2_6)) fun r=>some ((.tup [.ro (List.map (aG .u64) r.1),.agg [.lit (.int .i64 r.2.1),.lit (.int .i64 r.2.2.1),.lit (.int .i64 r.2.2.2.1),.lit (.int .u64 r.2.2.2.2.1),.lit (.int .u64 r.2.2.2.2.2.1),.lit (.int .u64 r.2.2.2.2.2.2.1),.lit (.int .i64 r.2.2.2.2.2.2.2)]]),[]):=by
 rw [aM]
 unfold dO
 simp (maxSteps:=2000000) -implicitDefEqProofs only [ZF,Xx,↓syP,syA,syD,Nat.reduceAdd,Nat.reduceSub,Nat.reduceMul,Nat.reduceLT,Nat.reduceLeDiff,Nat.reduceEqDiff,Nat.reduceBEq,Nat.reduceBNe,Int.reduceBEq,Int.reduceBNe,Int.reduceLT,Int.reduceLE,Int.reduceAdd,Int.reduceSub,Int.reduceNeg,syE,ai,ag,af,syW,xQ,CD,Gm,AD]
 all_goals simp -implicitDefEqProofs only [List.map_nil]
end Go.Ab
set_option maxRecDepth 100000
set_option linter.unusedVariables false
set_option linter.unusedSimpArgs false
namespace Go.Ab
open Go.Proofs
def eO (v0:Int) (v1:Int):Option Bool:=
 bif decide (0≤v0) then
 some (decide (v0≤v1))
 else
 some false
theorem um (k:Nat) (v0 v1:Int):xC (k+1) none 172 [.lit (.int .i64 v0),.lit (.int .i64 v1)]=ob (eO v0 v1) fun r=>some ((.lit (.bool r)),[]):=by
 rw [aM]
 unfold eO
 simp (maxSteps:=2000000) -implicitDefEqProofs only [abG,Xm,J0,pt,↓syP,syA,syD,Nat.reduceAdd,Nat.reduceSub,Nat.reduceMul,Nat.reduceLT,Nat.reduceLeDiff,Nat.reduceEqDiff,Nat.reduceBEq,Nat.reduceBNe,Int.reduceBEq,Int.reduceBNe,Int.reduceLT,Int.reduceLE,Int.reduceAdd,Int.reduceSub,Int.reduceNeg,syE,ai,ag,af,syW,xQ]
 all_goals simp -implicitDefEqProofs only [List.map_nil]
def bA (k:Nat)   : Nat→List (Int×Int×Int)→Int→List (Int×List Int)→Int→Option Int
 | 0,_,_,_,_=>none
 | n+1,s3,s4,s5,s13=>
 bif decide (s13<s4) then
 ob (idx s3 s13) fun x31=>
 ob (eO x31.1 (IntKind.i64.wrap ((↑s5.length:Int) - (1:Int)))) fun x32=>
 bif !x32 then
 some (s13)
 else
 ob (idx s5 x31.1) fun x33=>
 ob (eO x31.2.1 x33.1) fun x34=>
 bif !x34 then
 some (s13)
 else
 ob (eO x31.2.2 (↑x33.2.length:Int)) fun x35=>
 bif !x35 then
 some (s13)
 else
 bif decide (x31.2.1<x33.1) then
 bif decide ((0:Int)<x31.2.2) then
 some (s13)
 else
 bA k   n (s3) (s4) (s5) (IntKind.i64.wrap (s13+(1:Int)))
 else
 bA k   n (s3) (s4) (s5) (IntKind.i64.wrap (s13+(1:Int)))
 else
 some ((-1:Int))
theorem lD (k:Nat)  : ∀ (n:Nat) (s3:List (Int×Int×Int)) (s4:Int) (s5:List (Int×List Int)) (s13:Int) ⦃j12:V⦄,itX (xX (xS (k+(17:Nat))) (206:Nat) (0:Nat) (k+(17:Nat)) false) u8 ((1:Nat)) (au (xX (xS (k+(17:Nat))) (206:Nat) (0:Nat) (k+(17:Nat)) false) (aA (xS (k+(17:Nat))).P Tryz.f206) wC) n ⟨[V.ro (List.map aE s3),V.fn (Fn.func (171:FuncId)) [] [V.ptr (0:Nat) (0:Nat) (0:Nat) (0:Nat)],uu,uu,V.lit (Value.int IntKind.i64 (0:Int)),j12,V.ro (List.map aE s3),V.lit (Value.int IntKind.i64 s4),V.lit (Value.int IntKind.i64 s13),V.junk,V.junk,V.junk,V.junk,V.junk,V.junk,V.junk,V.junk,V.junk,V.junk],[B.box [V.ro (List.map an s5)]]⟩=ob (bA k   n s3 s4 s5 s13) fun r=>some ((V.lit (Value.int IntKind.i64 r),[B.box [V.ro (List.map an s5)]])):=by
 intro n
 induction n with
 | zero=>intros;rfl
 | succ n ih=>
  intro s3 s4 s5 s13 j12
  rw [bA]
  simp (maxSteps:=2000000) -implicitDefEqProofs only [VJ,SP,Ch,lQ,V8,SA,UB,QV,CK,Cs,Dz,Cn,Co,Cf,me,VN,Rq,Tp,Cp,lT,↓syP,syA,syD,Nat.reduceAdd,Nat.reduceSub,Nat.reduceMul,Nat.reduceLT,Nat.reduceLeDiff,Nat.reduceEqDiff,Nat.reduceBEq,Nat.reduceBNe,Int.reduceBEq,Int.reduceBNe,Int.reduceLT,Int.reduceLE,Int.reduceAdd,Int.reduceSub,Int.reduceNeg,syE,ai,ag,af,syW,xQ,um,GY,ih]
  all_goals simp -implicitDefEqProofs only [List.map_nil]
def eF (k:Nat) (v0:(List (Int×List Int))) (v1:(List (Int×Int×Int))):Option Bool:=
 ob (cw k v0) fun x38=>
 bif x38 then
 ob (bA k (k+17) v1 (↑v1.length:Int) v0 0) fun x39=>
 some (!decide (0≤x39))
 else
 some false
theorem mm (k:Nat) (v0:List (Int×List Int)) (v1:List (Int×Int×Int)):xC (k+20) none 146 [.ro (List.map an v0),.ro (List.map aE v1)]=ob (eF k v0 v1) fun r=>some ((.lit (.bool r)),[]):=by
 rw [aM]
 unfold eF
 simp (maxSteps:=2000000) -implicitDefEqProofs only [VJ,SP,Ch,lQ,V8,SA,UB,QV,CK,Cs,Dz,Cn,Co,Cf,me,VN,Rq,Tp,Cp,lT,↓syP,syA,syD,Nat.reduceAdd,Nat.reduceSub,Nat.reduceMul,Nat.reduceLT,Nat.reduceLeDiff,Nat.reduceEqDiff,Nat.reduceBEq,Nat.reduceBNe,Int.reduceBEq,Int.reduceBNe,Int.reduceLT,Int.reduceLE,Int.reduceAdd,Int.reduceSub,Int.reduceNeg,syE,ai,ag,af,syW,xQ,cr,lD]
 all_goals simp -implicitDefEqProofs only [List.map_nil]
def dk (k:Nat) (v0:(List (Int×List Int))) (v1:(List (Int×Int×Int))):Option (Int×Int):=
 bif (↑v1.length:Int)==0 then
 some (0,0)
 else
 ob (eF k v0 v1) fun x60=>
 bif !x60 then
 some (0,0)
 else
 ob (idx v1 (IntKind.i64.wrap ((↑v1.length:Int) - 1))) fun x61=>
 ob (idx v0 x61.1) fun x62=>
 bif decide (x61.2.1<x62.1) then
 some (1,x61.1)
 else
 bif decide (x61.2.2<(↑x62.2.length:Int)) then
 ob (idx x62.2 x61.2.2) fun x63=>
 some (2,x63)
 else
 some (3,x61.1)
theorem oe (k:Nat) (v0:List (Int×List Int)) (v1:List (Int×Int×Int)):xC (k+21) none 162 [.ro (List.map an v0),.ro (List.map aE v1)]=ob (dk k v0 v1) fun r=>some ((.agg [.lit (.int .i64 r.1),.lit (.int .i64 r.2)]),[]):=by
 rw [aM]
 unfold dk
 simp (maxSteps:=2000000) -implicitDefEqProofs only [aac,Wq,HL,ra,↓syP,syA,syD,Nat.reduceAdd,Nat.reduceSub,Nat.reduceMul,Nat.reduceLT,Nat.reduceLeDiff,Nat.reduceEqDiff,Nat.reduceBEq,Nat.reduceBNe,Int.reduceBEq,Int.reduceBNe,Int.reduceLT,Int.reduceLE,Int.reduceAdd,Int.reduceSub,Int.reduceNeg,syE,ai,ag,af,syW,xQ,mm]
 all_goals simp -implicitDefEqProofs only [List.map_nil]
def eI (k:Nat) (v0:(List (Int×List Int))) (v1:(List (Int×Int×Int))):Option (List (Int×Int×Int)):=
 ob (aJ 24 v1) fun x74=>
 ob (dk k v0 v1) fun x75=>
 bif x75.1==1 then
 bif decide (0≤IntKind.i64.wrap ((↑x74.length:Int) - 1)∧(IntKind.i64.wrap ((↑x74.length:Int) - 1)).toNat<x74.length) then
 ob (x74[(IntKind.i64.wrap ((↑x74.length:Int) - 1)).toNat]?) fun x76=>
 bif decide (0≤IntKind.i64.wrap ((↑x74.length:Int) - 1)∧(IntKind.i64.wrap ((↑x74.length:Int) - 1)).toNat<x74.length) then
 ob (x74[(IntKind.i64.wrap ((↑x74.length:Int) - 1)).toNat]?) fun x77=>
 some (x74.set (IntKind.i64.wrap ((↑x74.length:Int) - 1)).toNat (x77.1,IntKind.i64.wrap (x76.2.1+1),x77.2.2))
 else
 none
 else
 none
 else
 bif x75.1==2 then
 bif decide (0≤IntKind.i64.wrap ((↑x74.length:Int) - 1)∧(IntKind.i64.wrap ((↑x74.length:Int) - 1)).toNat<x74.length) then
 ob (x74[(IntKind.i64.wrap ((↑x74.length:Int) - 1)).toNat]?) fun x78=>
 bif decide (0≤IntKind.i64.wrap ((↑x74.length:Int) - 1)∧(IntKind.i64.wrap ((↑x74.length:Int) - 1)).toNat<x74.length) then
 ob (x74[(IntKind.i64.wrap ((↑x74.length:Int) - 1)).toNat]?) fun x79=>
 some (x74.set (IntKind.i64.wrap ((↑x74.length:Int) - 1)).toNat (x79.1,x79.2.1,IntKind.i64.wrap (x78.2.2+1)))
 else
 none
 else
 none
 else
 bif x75.1==3 then
 ck (decide (0≤IntKind.i64.wrap ((↑x74.length:Int) - 1)∧(IntKind.i64.wrap ((↑x74.length:Int) - 1)).toNat≤x74.length)) (
 ck (decide ((IntKind.i64.wrap ((↑x74.length:Int) - 1)).toNat≤x74.length)) (
 some (List.take (IntKind.i64.wrap ((↑x74.length:Int) - 1)).toNat x74)))
 else
 some x74
theorem GG (k:Nat) (v0:List (Int×List Int)) (v1:List (Int×Int×Int)):xC (k+22) none 163 [.ro (List.map an v0),.ro (List.map aE v1)]=ob (eI k v0 v1) fun r=>some ((.ro (List.map aE r)),[]):=by
 rw [aM]
 unfold eI
 simp (maxSteps:=2000000) -implicitDefEqProofs only [Z9,XI,aaw,Xa,aM (g:=182),abg,VK,acD,Ua,aa9,WJ,↓syP,syA,syD,Nat.reduceAdd,Nat.reduceSub,Nat.reduceMul,Nat.reduceLT,Nat.reduceLeDiff,Nat.reduceEqDiff,Nat.reduceBEq,Nat.reduceBNe,Int.reduceBEq,Int.reduceBNe,Int.reduceLT,Int.reduceLE,Int.reduceAdd,Int.reduceSub,Int.reduceNeg,syE,ai,ag,af,syW,xQ,oe]
 all_goals simp -implicitDefEqProofs only [List.map_nil]
def cN (k:Nat) (v0:(List (Int×List Int))) (v1:(List (Int×Int×Int))) (v2:Int):Option (List (Int×Int×Int)):=
 ob (aJ 24 v1) fun x89=>
 ob (eF k v0 v1) fun x90=>
 bif !x90 then
 some x89
 else
 ob (eO v2 (IntKind.i64.wrap ((↑v0.length:Int) - 1))) fun x91=>
 bif !x91 then
 some x89
 else
 bif room (x89++[(v2,0,0)]).length 24 then
 some (x89++[(v2,0,0)])
 else
 none
theorem w9 (k:Nat) (v0:List (Int×List Int)) (v1:List (Int×Int×Int)) (v2:Int):xC (k+21) none 181 [.ro (List.map an v0),.ro (List.map aE v1),.lit (.int .i64 v2)]=ob (cN k v0 v1 v2) fun r=>some ((.ro (List.map aE r)),[]):=by
 rw [aM]
 unfold cN
 simp (maxSteps:=2000000) -implicitDefEqProofs only [abc,VF,IX,rD,↓syP,syA,syD,Nat.reduceAdd,Nat.reduceSub,Nat.reduceMul,Nat.reduceLT,Nat.reduceLeDiff,Nat.reduceEqDiff,Nat.reduceBEq,Nat.reduceBNe,Int.reduceBEq,Int.reduceBNe,Int.reduceLT,Int.reduceLE,Int.reduceAdd,Int.reduceSub,Int.reduceNeg,syE,ai,ag,af,syW,xQ,um,mm]
 all_goals simp -implicitDefEqProofs only [List.map_nil]
end Go.Ab
set_option maxRecDepth 100000
set_option linter.unusedVariables false
set_option linter.unusedSimpArgs false
namespace Go.Ab
open Go.Proofs
def bM (k:Nat) (v0:(Int×Int×Int×Int)) (v1:(List Int)) (v2:(Int×Int×Int×Int×Int×Int×Int)):Option ((List Int)×(Int×Int×Int×Int×Int×Int×Int)):=
 bif v2.1==5 then
 ob (gT v0 v1 v2) fun x6=>
 some x6
 else
 bif v2.1==6 then
 bif v2.1==6 then
 ob (fi k v0 v1 v2) fun x7=>
 some x7
 else
 ob (aJ 8 v1) fun x8=>
 some (x8,v2)
 else
 bif v2.1==7 then
 ob (fi k v0 v1 v2) fun x9=>
 some x9
 else
 ob (aJ 8 v1) fun x10=>
 some (x10,v2)
theorem oj (k:Nat) (v0_0 v0_1 v0_2 v0_3:Int) (v1:List Int) (v2_0 v2_1 v2_2 v2_3 v2_4 v2_5 v2_6:Int):xC (k+17) none 134 [.agg [.lit (.int .i64 v0_0),.lit (.int .i64 v0_1),.lit (.int .i64 v0_2),.lit (.int .i64 v0_3)],.ro (List.map (aG .u64) v1),.agg [.lit (.int .i64 v2_0),.lit (.int .i64 v2_1),.lit (.int .i64 v2_2),.lit (.int .u64 v2_3),.lit (.int .u64 v2_4),.lit (.int .u64 v2_5),.lit (.int .i64 v2_6)]]=ob (bM k (v0_0,v0_1,v0_2,v0_3) v1 (v2_0,v2_1,v2_2,v2_3,v2_4,v2_5,v2_6)) fun r=>some ((.tup [.ro (List.map (aG .u64) r.1),.agg [.lit (.int .i64 r.2.1),.lit (.int .i64 r.2.2.1),.lit (.int .i64 r.2.2.2.1),.lit (.int .u64 r.2.2.2.2.1),.lit (.int .u64 r.2.2.2.2.2.1),.lit (.int .u64 r.2.2.2.2.2.2.1),.lit (.int .i64 r.2.2.2.2.2.2.2)]]),[]):=by
 rw [aM]
 unfold bM
 simp (maxSteps:=2000000) -implicitDefEqProofs only [aaO,VV,I9,pI,↓syP,syA,syD,Nat.reduceAdd,Nat.reduceSub,Nat.reduceMul,Nat.reduceLT,Nat.reduceLeDiff,Nat.reduceEqDiff,Nat.reduceBEq,Nat.reduceBNe,Int.reduceBEq,Int.reduceBNe,Int.reduceLT,Int.reduceLE,Int.reduceAdd,Int.reduceSub,Int.reduceNeg,syE,ai,ag,af,syW,xQ,Cv,C9]
 all_goals simp -implicitDefEqProofs only [List.map_nil]
def lx (v0:(Int×Int×Int×Int)) (v1:(List Int)):Option Bool:=
 ob (bK v0) fun x20=>
 bif x20 then
 ob (da v0) fun x21=>
 some ((↑v1.length:Int)==x21)
 else
 some false
theorem Gp (k:Nat) (v0_0 v0_1 v0_2 v0_3:Int) (v1:List Int):xC (k+4) none 105 [.agg [.lit (.int .i64 v0_0),.lit (.int .i64 v0_1),.lit (.int .i64 v0_2),.lit (.int .i64 v0_3)],.ro (List.map (aG .u64) v1)]=ob (lx (v0_0,v0_1,v0_2,v0_3) v1) fun r=>some ((.lit (.bool r)),[]):=by
 rw [aM]
 unfold lx
 simp (maxSteps:=2000000) -implicitDefEqProofs only [aaV,YF,JN,oO,↓syP,syA,syD,Nat.reduceAdd,Nat.reduceSub,Nat.reduceMul,Nat.reduceLT,Nat.reduceLeDiff,Nat.reduceEqDiff,Nat.reduceBEq,Nat.reduceBNe,Int.reduceBEq,Int.reduceBNe,Int.reduceLT,Int.reduceLE,Int.reduceAdd,Int.reduceSub,Int.reduceNeg,syE,ai,ag,af,syW,xQ,bT,fo]
 all_goals simp -implicitDefEqProofs only [List.map_nil]
def gp (v0:(Int×Int×Int×Int)) (v1:(List Int)) (v2:(Int×Int×Int×Int×Int×Int×Int)) (v3:Int):Option Bool:=
 ob (lx v0 v1) fun x26=>
 bif x26 then
 ob (aF v2) fun x27=>
 bif !x27 then
 bif v2.1==v3 then
 bif decide (0≤v2.2.1) then
 some (decide (v2.2.1<5))
 else
 some false
 else
 some false
 else
 some false
 else
 some false
theorem uj (k:Nat) (v0_0 v0_1 v0_2 v0_3:Int) (v1:List Int) (v2_0 v2_1 v2_2 v2_3 v2_4 v2_5 v2_6 v3:Int):xC (k+5) none 196 [.agg [.lit (.int .i64 v0_0),.lit (.int .i64 v0_1),.lit (.int .i64 v0_2),.lit (.int .i64 v0_3)],.ro (List.map (aG .u64) v1),.agg [.lit (.int .i64 v2_0),.lit (.int .i64 v2_1),.lit (.int .i64 v2_2),.lit (.int .u64 v2_3),.lit (.int .u64 v2_4),.lit (.int .u64 v2_5),.lit (.int .i64 v2_6)],.lit (.int .i64 v3)]=ob (gp (v0_0,v0_1,v0_2,v0_3) v1 (v2_0,v2_1,v2_2,v2_3,v2_4,v2_5,v2_6) v3) fun r=>some ((.lit (.bool r)),[]):=by
 rw [aM]
 unfold gp
 simp (maxSteps:=2000000) -implicitDefEqProofs only [aas,VR,G5,HW,IO,JV,ru,↓syP,syA,syD,Nat.reduceAdd,Nat.reduceSub,Nat.reduceMul,Nat.reduceLT,Nat.reduceLeDiff,Nat.reduceEqDiff,Nat.reduceBEq,Nat.reduceBNe,Int.reduceBEq,Int.reduceBNe,Int.reduceLT,Int.reduceLE,Int.reduceAdd,Int.reduceSub,Int.reduceNeg,syE,ai,ag,af,syW,xQ,eN,Gp]
 all_goals simp -implicitDefEqProofs only [List.map_nil]
def fB (v0:(Int×Int×Int×Int)) (v1:Int):Option Int:=
 ob (bK v0) fun x36=>
 bif !x36 then
 some ((-1))
 else
 ob (dD 0 0 (IntKind.i64.wrap (v0.1 - 1))) fun x37=>
 bif !x37 then
 some ((-1))
 else
 bif IntKind.u64.wrap v0.2.2.1!=0 then
 some (IntKind.i64.wrap (6+IntKind.i64.wrap (v1.tmod (IntKind.u64.wrap v0.2.2.1))))
 else
 none
theorem An (k:Nat) (v0_0 v0_1 v0_2 v0_3 v1:Int):xC (k+12) none 203 [.agg [.lit (.int .i64 v0_0),.lit (.int .i64 v0_1),.lit (.int .i64 v0_2),.lit (.int .i64 v0_3)],.lit (.int .u64 v1)]=ob (fB (v0_0,v0_1,v0_2,v0_3) v1) fun r=>some ((.lit (.int .i64 r)),[]):=by
 rw [aM]
 unfold fB
 simp (maxSteps:=2000000) -implicitDefEqProofs only [T2,QT,rH,fx,abC,Xi,ack,XH,↓syP,syA,syD,Nat.reduceAdd,Nat.reduceSub,Nat.reduceMul,Nat.reduceLT,Nat.reduceLeDiff,Nat.reduceEqDiff,Nat.reduceBEq,Nat.reduceBNe,Int.reduceBEq,Int.reduceBNe,Int.reduceLT,Int.reduceLE,Int.reduceAdd,Int.reduceSub,Int.reduceNeg,syE,ai,ag,af,syW,xQ,kg,bT]
 all_goals simp -implicitDefEqProofs only [List.map_nil]
def iL (v0:(Int×Int×Int×Int)) (v1:Int):Option Int:=
 ob (bK v0) fun x42=>
 bif !x42 then
 some ((-1))
 else
 ob (dD 0 0 (IntKind.i64.wrap (v0.1 - 1))) fun x43=>
 bif !x43 then
 some ((-1))
 else
 bif IntKind.u64.wrap v0.2.2.1!=0 then
 some (IntKind.i64.wrap (IntKind.i64.wrap (6+v0.2.2.1)+IntKind.i64.wrap (v1.tmod (IntKind.u64.wrap v0.2.2.1))))
 else
 none
theorem BH (k:Nat) (v0_0 v0_1 v0_2 v0_3 v1:Int):xC (k+12) none 205 [.agg [.lit (.int .i64 v0_0),.lit (.int .i64 v0_1),.lit (.int .i64 v0_2),.lit (.int .i64 v0_3)],.lit (.int .u64 v1)]=ob (iL (v0_0,v0_1,v0_2,v0_3) v1) fun r=>some ((.lit (.int .i64 r)),[]):=by
 rw [aM]
 unfold iL
 simp (maxSteps:=2000000) -implicitDefEqProofs only [T2,QT,rH,fx,ZE,V1,acv,Wv,↓syP,syA,syD,Nat.reduceAdd,Nat.reduceSub,Nat.reduceMul,Nat.reduceLT,Nat.reduceLeDiff,Nat.reduceEqDiff,Nat.reduceBEq,Nat.reduceBNe,Int.reduceBEq,Int.reduceBNe,Int.reduceLT,Int.reduceLE,Int.reduceAdd,Int.reduceSub,Int.reduceNeg,syE,ai,ag,af,syW,xQ,kg,bT]
 all_goals simp -implicitDefEqProofs only [List.map_nil]
def iP (v0:(Int×Int×Int×Int)) (v1:(List Int)) (v2:(Int×Int×Int×Int×Int×Int×Int)):Option ((List Int)×(Int×Int×Int×Int×Int×Int×Int)):=
 ob (aJ 8 v1) fun x59=>
 ob (gp v0 v1 v2 3) fun x60=>
 bif !x60 then
 some (x59,v2)
 else
 bif decide (0≤v2.2.1∧v2.2.1.toNat<5) then
 bif v2.2.1.toNat==0 then
 ob (aD x59 5) fun x61=>
 some (x59,(v2.1,1,v2.2.2.1,v2.2.2.2.1,x61,v2.2.2.2.2.2))
 else
 bif v2.2.1.toNat==1 then
 ob (fB v0 v2.2.2.2.2.1) fun x62=>
 ob (aD x59 x62) fun x63=>
 bif IntKind.u64.wrap v0.2.2.1!=0 then
 bif x63==IntKind.u64.wrap (IntKind.u64.wrap (v2.2.2.2.2.1.tdiv (IntKind.u64.wrap v0.2.2.1))*2) then
 some (x59,(v2.1,2,v2.2.2.1,v2.2.2.2.1,v2.2.2.2.2.1,x63,v2.2.2.2.2.2.2))
 else
 bif IntKind.u64.wrap v0.2.2.1!=0 then
 ob (eb x63 (IntKind.u64.wrap (IntKind.u64.wrap (v2.2.2.2.2.1.tdiv (IntKind.u64.wrap v0.2.2.1))*2))) fun x64=>
 bif decide (x64<0) then
 ob (aS (v2.1,v2.2.1,v2.2.2.1,v2.2.2.2.1,v2.2.2.2.2.1,x63,v2.2.2.2.2.2.2) 2 v2.2.2.2.1) fun x65=>
 some (x59,(x65.1,0,x65.2.2))
 else
 some (x59,(v2.1,0,v2.2.2.1,v2.2.2.2.1,v2.2.2.2.2.1,x63,v2.2.2.2.2.2.2))
 else
 none
 else
 none
 else
 bif v2.2.1.toNat==2 then
 ob (cG x59 5 v2.2.2.2.2.1 (IntKind.u64.wrap (v2.2.2.2.2.1+1))) fun x66=>
 bif x66.2 then
 some (x66.1,(v2.1,3,v2.2.2))
 else
 some (x66.1,(v2.1,0,v2.2.2))
 else
 bif v2.2.1.toNat==3 then
 ob (iL v0 v2.2.2.2.2.1) fun x67=>
 ob (bk x59 x67 v2.2.2.2.1) fun x68=>
 some (x68,(v2.1,4,v2.2.2))
 else
 bif v2.2.1.toNat==4 then
 ob (fB v0 v2.2.2.2.2.1) fun x69=>
 bif IntKind.u64.wrap v0.2.2.1!=0 then
 ob (bk x59 x69 (IntKind.u64.wrap (IntKind.u64.wrap (IntKind.u64.wrap (v2.2.2.2.2.1.tdiv (IntKind.u64.wrap v0.2.2.1))*2)+1))) fun x70=>
 ob (aS v2 1 v2.2.2.2.1) fun x71=>
 some (x70,(x71.1,0,x71.2.2))
 else
 none
 else
 none
 else
 none
theorem FD (k:Nat) (v0_0 v0_1 v0_2 v0_3:Int) (v1:List Int) (v2_0 v2_1 v2_2 v2_3 v2_4 v2_5 v2_6:Int):xC (k+24) none 167 [.agg [.lit (.int .i64 v0_0),.lit (.int .i64 v0_1),.lit (.int .i64 v0_2),.lit (.int .i64 v0_3)],.ro (List.map (aG .u64) v1),.agg [.lit (.int .i64 v2_0),.lit (.int .i64 v2_1),.lit (.int .i64 v2_2),.lit (.int .u64 v2_3),.lit (.int .u64 v2_4),.lit (.int .u64 v2_5),.lit (.int .i64 v2_6)]]=ob (iP (v0_0,v0_1,v0_2,v0_3) v1 (v2_0,v2_1,v2_2,v2_3,v2_4,v2_5,v2_6)) fun r=>some ((.tup [.ro (List.map (aG .u64) r.1),.agg [.lit (.int .i64 r.2.1),.lit (.int .i64 r.2.2.1),.lit (.int .i64 r.2.2.2.1),.lit (.int .u64 r.2.2.2.2.1),.lit (.int .u64 r.2.2.2.2.2.1),.lit (.int .u64 r.2.2.2.2.2.2.1),.lit (.int .i64 r.2.2.2.2.2.2.2)]]),[]):=by
 rw [aM]
 unfold iP
 simp (maxSteps:=2000000) -implicitDefEqProofs only [abb,Ue,abD,Yn,aaE,U7,ZU,YT,aa6,V3,ace,Up,ZK,VT,abo,XS,↓syP,syA,syD,Nat.reduceAdd,Nat.reduceSub,Nat.reduceMul,Nat.reduceLT,Nat.reduceLeDiff,Nat.reduceEqDiff,Nat.reduceBEq,Nat.reduceBNe,Int.reduceBEq,Int.reduceBNe,Int.reduceLT,Int.reduceLE,Int.reduceAdd,Int.reduceSub,Int.reduceNeg,syE,ai,ag,af,syW,xQ,cE,dL,gr,ez,iB,uj,An,BH]
 all_goals simp -implicitDefEqProofs only [List.map_nil]
def gf (v0:(Int×Int×Int×Int)) (v1:Int):Option Int:=
 bif IntKind.u64.wrap v0.2.2.1!=0 then
 some (IntKind.u64.wrap (IntKind.u64.wrap (IntKind.u64.wrap (v1.tdiv (IntKind.u64.wrap v0.2.2.1))*2)+1))
 else
 none
theorem FW (k:Nat) (v0_0 v0_1 v0_2 v0_3 v1:Int):xC (k+1) none 204 [.agg [.lit (.int .i64 v0_0),.lit (.int .i64 v0_1),.lit (.int .i64 v0_2),.lit (.int .i64 v0_3)],.lit (.int .u64 v1)]=ob (gf (v0_0,v0_1,v0_2,v0_3) v1) fun r=>some ((.lit (.int .u64 r)),[]):=by
 rw [aM]
 unfold gf
 simp (maxSteps:=2000000) -implicitDefEqProofs only [aai,Xu,↓syP,syA,syD,Nat.reduceAdd,Nat.reduceSub,Nat.reduceMul,Nat.reduceLT,Nat.reduceLeDiff,Nat.reduceEqDiff,Nat.reduceBEq,Nat.reduceBNe,Int.reduceBEq,Int.reduceBNe,Int.reduceLT,Int.reduceLE,Int.reduceAdd,Int.reduceSub,Int.reduceNeg,syE,ai,ag,af,syW,xQ]
 all_goals simp -implicitDefEqProofs only [List.map_nil]
def iS (v0:(Int×Int×Int×Int)) (v1:(List Int)) (v2:(Int×Int×Int×Int×Int×Int×Int)):Option ((List Int)×(Int×Int×Int×Int×Int×Int×Int)):=
 ob (aJ 8 v1) fun x109=>
 ob (gp v0 v1 v2 4) fun x110=>
 bif !x110 then
 some (x109,v2)
 else
 bif v2.2.1==0 then
 ob (aD x109 4) fun x111=>
 some (x109,(v2.1,1,v2.2.2.1,v2.2.2.2.1,x111,v2.2.2.2.2.2))
 else
 bif v2.2.1==1 then
 ob (fB v0 v2.2.2.2.2.1) fun x112=>
 ob (aD x109 x112) fun x113=>
 ob (gf v0 v2.2.2.2.2.1) fun x114=>
 ob (eb x113 x114) fun x115=>
 bif x115==0 then
 some (x109,(v2.1,2,v2.2.2.1,v2.2.2.2.1,v2.2.2.2.2.1,x113,v2.2.2.2.2.2.2))
 else
 bif decide (x115<0) then
 ob (aS (v2.1,0,v2.2.2.1,v2.2.2.2.1,v2.2.2.2.2.1,x113,v2.2.2.2.2.2.2) 3 0) fun x116=>
 some (x109,x116)
 else
 some (x109,(v2.1,0,v2.2.2.1,v2.2.2.2.1,v2.2.2.2.2.1,x113,v2.2.2.2.2.2.2))
 else
 bif v2.2.1==2 then
 ob (cG x109 4 v2.2.2.2.2.1 (IntKind.u64.wrap (v2.2.2.2.2.1+1))) fun x117=>
 bif x117.2 then
 some (x117.1,(v2.1,3,v2.2.2))
 else
 some (x117.1,(v2.1,0,v2.2.2))
 else
 bif v2.2.1==3 then
 ob (iL v0 v2.2.2.2.2.1) fun x118=>
 ob (aD x109 x118) fun x119=>
 some (x109,(v2.1,4,v2.2.2.1,x119,v2.2.2.2.2))
 else
 ob (fB v0 v2.2.2.2.2.1) fun x120=>
 ob (gf v0 v2.2.2.2.2.1) fun x121=>
 ob (bk x109 x120 (IntKind.u64.wrap (x121+1))) fun x122=>
 ob (aS v2 1 v2.2.2.2.1) fun x123=>
 some (x122,x123)
theorem Fx (k:Nat) (v0_0 v0_1 v0_2 v0_3:Int) (v1:List Int) (v2_0 v2_1 v2_2 v2_3 v2_4 v2_5 v2_6:Int):xC (k+13) none 168 [.agg [.lit (.int .i64 v0_0),.lit (.int .i64 v0_1),.lit (.int .i64 v0_2),.lit (.int .i64 v0_3)],.ro (List.map (aG .u64) v1),.agg [.lit (.int .i64 v2_0),.lit (.int .i64 v2_1),.lit (.int .i64 v2_2),.lit (.int .u64 v2_3),.lit (.int .u64 v2_4),.lit (.int .u64 v2_5),.lit (.int .i64 v2_6)]]=ob (iS (v0_0,v0_1,v0_2,v0_3) v1 (v2_0,v2_1,v2_2,v2_3,v2_4,v2_5,v2_6)) fun r=>some ((.tup [.ro (List.map (aG .u64) r.1),.agg [.lit (.int .i64 r.2.1),.lit (.int .i64 r.2.2.1),.lit (.int .i64 r.2.2.2.1),.lit (.int .u64 r.2.2.2.2.1),.lit (.int .u64 r.2.2.2.2.2.1),.lit (.int .u64 r.2.2.2.2.2.2.1),.lit (.int .i64 r.2.2.2.2.2.2.2)]]),[]):=by
 rw [aM]
 unfold iS
 simp (maxSteps:=2000000) -implicitDefEqProofs only [ZY,Uq,Hq,pY,↓syP,syA,syD,Nat.reduceAdd,Nat.reduceSub,Nat.reduceMul,Nat.reduceLT,Nat.reduceLeDiff,Nat.reduceEqDiff,Nat.reduceBEq,Nat.reduceBNe,Int.reduceBEq,Int.reduceBNe,Int.reduceLT,Int.reduceLE,Int.reduceAdd,Int.reduceSub,Int.reduceNeg,syE,ai,ag,af,syW,xQ,cE,dL,gr,ez,iB,uj,An,BH,FW]
 all_goals simp -implicitDefEqProofs only [List.map_nil]
def bc (v0:(Int×Int×Int×Int)) (v1:(List Int)) (v2:(Int×Int×Int×Int×Int×Int×Int)):Option ((List Int)×(Int×Int×Int×Int×Int×Int×Int)):=
 bif v2.1==3 then
 ob (iP v0 v1 v2) fun x142=>
 some x142
 else
 bif v2.1==4 then
 ob (iS v0 v1 v2) fun x143=>
 some x143
 else
 ob (aJ 8 v1) fun x144=>
 some (x144,v2)
theorem mR (k:Nat) (v0_0 v0_1 v0_2 v0_3:Int) (v1:List Int) (v2_0 v2_1 v2_2 v2_3 v2_4 v2_5 v2_6:Int):xC (k+26) none 135 [.agg [.lit (.int .i64 v0_0),.lit (.int .i64 v0_1),.lit (.int .i64 v0_2),.lit (.int .i64 v0_3)],.ro (List.map (aG .u64) v1),.agg [.lit (.int .i64 v2_0),.lit (.int .i64 v2_1),.lit (.int .i64 v2_2),.lit (.int .u64 v2_3),.lit (.int .u64 v2_4),.lit (.int .u64 v2_5),.lit (.int .i64 v2_6)]]=ob (bc (v0_0,v0_1,v0_2,v0_3) v1 (v2_0,v2_1,v2_2,v2_3,v2_4,v2_5,v2_6)) fun r=>some ((.tup [.ro (List.map (aG .u64) r.1),.agg [.lit (.int .i64 r.2.1),.lit (.int .i64 r.2.2.1),.lit (.int .i64 r.2.2.2.1),.lit (.int .u64 r.2.2.2.2.1),.lit (.int .u64 r.2.2.2.2.2.1),.lit (.int .u64 r.2.2.2.2.2.2.1),.lit (.int .i64 r.2.2.2.2.2.2.2)]]),[]):=by
 rw [aM]
 unfold bc
 simp (maxSteps:=2000000) -implicitDefEqProofs only [acJ,XZ,↓syP,syA,syD,Nat.reduceAdd,Nat.reduceSub,Nat.reduceMul,Nat.reduceLT,Nat.reduceLeDiff,Nat.reduceEqDiff,Nat.reduceBEq,Nat.reduceBNe,Int.reduceBEq,Int.reduceBNe,Int.reduceLT,Int.reduceLE,Int.reduceAdd,Int.reduceSub,Int.reduceNeg,syE,ai,ag,af,syW,xQ,FD,Fx]
 all_goals simp -implicitDefEqProofs only [List.map_nil]
end Go.Ab
set_option maxRecDepth 100000
set_option linter.unusedVariables false
set_option linter.unusedSimpArgs false
namespace Go.Ab
open Go.Proofs
def go (k:Nat) (v0:(Int×Int×Int×Int)) (v1:(List (Int×List Int))) (v2:(List Int)) (v3:Int) (v4:(Int×List (Int×Int×Int)×(Int×Int×Int×Int×Int×Int×Int)×Int×Int)):Option Bool:=
 ob (bK v0) fun x5=>
 bif x5 then
 ob (da v0) fun x6=>
 bif (↑v2.length:Int)==x6 then
 ob (cw (k+4) v1) fun x7=>
 bif x7 then
 bif decide (0≤v3) then
 bif decide (v3<v0.1) then
 bif decide (0≤v4.1) then
 bif decide (v4.1<16) then
 ob (eF (k+3) v1 v4.2.1) fun x8=>
 some x8
 else
 some false
 else
 some false
 else
 some false
 else
 some false
 else
 some false
 else
 some false
 else
 some false
theorem us (k:Nat) (v0_0 v0_1 v0_2 v0_3:Int) (v1:List (Int×List Int)) (v2:List Int) (v3 v4_0:Int) (v4_1:List (Int×Int×Int)) (v4_2_0 v4_2_1 v4_2_2 v4_2_3 v4_2_4 v4_2_5 v4_2_6 v4_3 v4_4:Int):xC (k+24) none 95 [.agg [.lit (.int .i64 v0_0),.lit (.int .i64 v0_1),.lit (.int .i64 v0_2),.lit (.int .i64 v0_3)],.ro (List.map an v1),.ro (List.map (aG .u64) v2),.lit (.int .i64 v3),.agg [.lit (.int .i64 v4_0),.ro (List.map aE v4_1),.lit (.int .i64 v4_2_0),.lit (.int .i64 v4_2_1),.lit (.int .i64 v4_2_2),.lit (.int .u64 v4_2_3),.lit (.int .u64 v4_2_4),.lit (.int .u64 v4_2_5),.lit (.int .i64 v4_2_6),.lit (.int .i64 v4_3),.lit (.int .i64 v4_4)]]=ob (go k (v0_0,v0_1,v0_2,v0_3) v1 v2 v3 (v4_0,v4_1,(v4_2_0,v4_2_1,v4_2_2,v4_2_3,v4_2_4,v4_2_5,v4_2_6),v4_3,v4_4)) fun r=>some ((.lit (.bool r)),[]):=by
 rw [aM]
 unfold go
 simp (maxSteps:=2000000) -implicitDefEqProofs only [ad3,ac0,OS,O0,ON,OR,OK,O5,Pz,uP,↓syP,syA,syD,Nat.reduceAdd,Nat.reduceSub,Nat.reduceMul,Nat.reduceLT,Nat.reduceLeDiff,Nat.reduceEqDiff,Nat.reduceBEq,Nat.reduceBNe,Int.reduceBEq,Int.reduceBNe,Int.reduceLT,Int.reduceLE,Int.reduceAdd,Int.reduceSub,Int.reduceNeg,syE,ai,ag,af,syW,xQ,cr,bT,fo,mm]
 all_goals simp -implicitDefEqProofs only [List.map_nil]
def bl (k:Nat) (v0:(List Int)) (v1:Int)  : Nat→Int→Option Int
 | 0,_=>none
 | n+1,s19=>
 bif decide (s19<(↑v0.length:Int)) then
 ob (idx v0 s19) fun x22=>
 bif v1==x22 then
 some (s19)
 else
 bl k v0 v1  n (IntKind.i64.wrap (s19+(1:Int)))
 else
 some ((-1:Int))
theorem iR (k:Nat) (v0:List Int) (v1:Int):∀ (n:Nat) (s19:Int) ⦃j18:V⦄,rt none (itX (xX (xS k) (61:Nat) (0:Nat) k false) Ef ((0:Nat)) (au (xX (xS k) (61:Nat) (0:Nat) k false) (aA (xS k).P Tryz.f61) E0) n ⟨[V.ro (List.map (aG IntKind.i64) v0),V.lit (Value.int IntKind.i64 v1),uu,uu,V.lit (Value.int IntKind.i64 (0:Int)),j18,V.ro (List.map (aG IntKind.i64) v0),V.lit (Value.int IntKind.i64 (↑v0.length:Int)),V.lit (Value.int IntKind.i64 s19),V.junk,V.junk,V.junk,V.junk,V.junk,V.junk,V.junk,V.junk,V.junk,V.junk],[]⟩)=ob (bl k v0 v1  n s19) fun r=>some ((.lit (.int .i64 r)),[]):=by
 intro n
 induction n with
 | zero=>intros;rfl
 | succ n ih=>
  intro s19 j18
  rw [bl]
  simp (maxSteps:=2000000) -implicitDefEqProofs only [ade,aaX,abr,G8,nf,↓syP,syA,syD,Nat.reduceAdd,Nat.reduceSub,Nat.reduceMul,Nat.reduceLT,Nat.reduceLeDiff,Nat.reduceEqDiff,Nat.reduceBEq,Nat.reduceBNe,Int.reduceBEq,Int.reduceBNe,Int.reduceLT,Int.reduceLE,Int.reduceAdd,Int.reduceSub,Int.reduceNeg,syE,ai,ag,af,syW,xQ,Py,ih]
  all_goals simp -implicitDefEqProofs only [List.map_nil]
def cL (k:Nat) (v0:(List Int)) (v1:Int):Option Int:=
 bl k v0 v1 k 0
theorem eQ (k:Nat) (v0:List Int) (v1:Int):xC (k+1) none 61 [.ro (List.map (aG .i64) v0),.lit (.int .i64 v1)]=ob (cL k v0 v1) fun r=>some ((.lit (.int .i64 r)),[]):=by
 rw [aM]
 unfold cL
 simp (maxSteps:=2000000) -implicitDefEqProofs only [ade,aaX,abr,G8,nf,↓syP,syA,syD,Nat.reduceAdd,Nat.reduceSub,Nat.reduceMul,Nat.reduceLT,Nat.reduceLeDiff,Nat.reduceEqDiff,Nat.reduceBEq,Nat.reduceBNe,Int.reduceBEq,Int.reduceBNe,Int.reduceLT,Int.reduceLE,Int.reduceAdd,Int.reduceSub,Int.reduceNeg,syE,ai,ag,af,syW,xQ,iR k v0 v1]
 all_goals simp -implicitDefEqProofs only [List.map_nil]
def li (v0:Int):Option (Int×List (Int×Int×Int)×(Int×Int×Int×Int×Int×Int×Int)×Int×Int):=
 ob (aC 1 v0 0) fun x36=>
 some (0,[],x36,0,0)
theorem ny (k:Nat) (v0:Int):xC (k+2) none 60 [.lit (.int .i64 v0)]=ob (li v0) fun r=>some ((.agg [.lit (.int .i64 r.1),.ro (List.map aE r.2.1),.lit (.int .i64 r.2.2.1.1),.lit (.int .i64 r.2.2.1.2.1),.lit (.int .i64 r.2.2.1.2.2.1),.lit (.int .u64 r.2.2.1.2.2.2.1),.lit (.int .u64 r.2.2.1.2.2.2.2.1),.lit (.int .u64 r.2.2.1.2.2.2.2.2.1),.lit (.int .i64 r.2.2.1.2.2.2.2.2.2),.lit (.int .i64 r.2.2.2.1),.lit (.int .i64 r.2.2.2.2)]),[]):=by
 rw [aM]
 unfold li
 simp (maxSteps:=2000000) -implicitDefEqProofs only [adD,adf,↓syP,syA,syD,Nat.reduceAdd,Nat.reduceSub,Nat.reduceMul,Nat.reduceLT,Nat.reduceLeDiff,Nat.reduceEqDiff,Nat.reduceBEq,Nat.reduceBNe,Int.reduceBEq,Int.reduceBNe,Int.reduceLT,Int.reduceLE,Int.reduceAdd,Int.reduceSub,Int.reduceNeg,syE,ai,ag,af,syW,xQ,kd]
 all_goals simp -implicitDefEqProofs only [List.map_nil]
end Go.Ab
set_option maxRecDepth 100000
set_option linter.unusedVariables false
set_option linter.unusedSimpArgs false
namespace Go.Ab
open Go.Proofs
def eL (k:Nat) (v0:(Int×Int×Int×Int)) (v1:(List (Int×List Int))) (v2:(List Int)) (v3:(Int×List Int×Int×Int×Int×Int×Int×Int×Int)):Option Bool:=
 ob (bK v0) fun x6=>
 bif x6 then
 ob (da v0) fun x7=>
 bif (↑v2.length:Int)==x7 then
 ob (cw (k+4) v1) fun x8=>
 bif x8 then
 bif decide (0≤v3.1) then
 bif decide (v3.1<6) then
 bif decide (0<(↑v3.2.1.length:Int)) then
 ob (idx v3.2.1 0) fun x9=>
 bif decide (0≤x9) then
 ob (idx v3.2.1 0) fun x10=>
 some (decide (x10<(↑v1.length:Int)))
 else
 some false
 else
 some false
 else
 some false
 else
 some false
 else
 some false
 else
 some false
 else
 some false
theorem oq (k:Nat) (v0_0 v0_1 v0_2 v0_3:Int) (v1:List (Int×List Int)) (v2:List Int) (v3_0:Int) (v3_1:List Int) (v3_2_0 v3_2_1 v3_2_2 v3_2_3 v3_2_4 v3_2_5 v3_2_6:Int):xC (k+24) none 85 [.agg [.lit (.int .i64 v0_0),.lit (.int .i64 v0_1),.lit (.int .i64 v0_2),.lit (.int .i64 v0_3)],.ro (List.map an v1),.ro (List.map (aG .u64) v2),.agg [.lit (.int .i64 v3_0),.ro (List.map (aG .i64) v3_1),.lit (.int .i64 v3_2_0),.lit (.int .i64 v3_2_1),.lit (.int .i64 v3_2_2),.lit (.int .u64 v3_2_3),.lit (.int .u64 v3_2_4),.lit (.int .u64 v3_2_5),.lit (.int .i64 v3_2_6)]]=ob (eL k (v0_0,v0_1,v0_2,v0_3) v1 v2 (v3_0,v3_1,(v3_2_0,v3_2_1,v3_2_2,v3_2_3,v3_2_4,v3_2_5,v3_2_6))) fun r=>some ((.lit (.bool r)),[]):=by
 rw [aM]
 unfold eL
 simp (maxSteps:=2000000) -implicitDefEqProofs only [adz,adj,Oq,Pc,Pd,O4,OM,OE,OF,uT,↓syP,syA,syD,Nat.reduceAdd,Nat.reduceSub,Nat.reduceMul,Nat.reduceLT,Nat.reduceLeDiff,Nat.reduceEqDiff,Nat.reduceBEq,Nat.reduceBNe,Int.reduceBEq,Int.reduceBNe,Int.reduceLT,Int.reduceLE,Int.reduceAdd,Int.reduceSub,Int.reduceNeg,syE,ai,ag,af,syW,xQ,cr,bT,fo]
 all_goals simp -implicitDefEqProofs only [List.map_nil]
def eY (k : Nat) (v0 : (Int × Int × Int × Int)) (v1 : (List (Int × List Int))) (v2 : (List Int)) (v3 : Int) (v4 : (Int × List Int × Int × Int × Int × Int × Int × Int × Int)) : Option ((List Int) × (Int × List Int × Int × Int × Int × Int × Int × Int × Int) × (List (Int × Int × Int))) :=
 ob (aJ 8 v2) fun x38 =>
 ob (aJ 8 v4.2.1) fun x39 =>
 ob (eL (k + 15) v0 v1 v2 v4) fun x40 =>
 bif !x40 then
 some (x38,(v4.1,x39,v4.2.2),[])
 else
 ob (idx x39 0) fun x41 =>
 bif v4.1 == 0 then
 ob (aD x38 3) fun x42 =>
 bif x42 != 0 then
 bif room 1 24 then
 bif decide (1 ≤ (↑x39.length : Int)) then
 some (x38,(0,(List.drop (Int.toNat 1) x39),(0,0,0,0,0,0,0)),([(1,x41,v3)]))
 else
 none
 else
 none
 else
 some (x38,(1,x39,v4.2.2),[])
 else
 bif v4.1 == 1 then
 ob (cH x38 0 1) fun x43 =>
 ob (aC 3 v3 (IntKind.u64.wrap x41)) fun x44 =>
 some (x43.1,(2,x39,x44),[])
 else
 bif v4.1 == 2 then
 bif v4.2.2.1 == 3 then
 ob (bc v0 x38 v4.2.2) fun x45 =>
 ob (aF x45.2) fun x46 =>
 bif !x46 then
 some (x45.1,(v4.1,x39,x45.2),[])
 else
 bif x45.2.2.2.2.2.2.2 != 2 then
 bif room 1 24 then
 some (x45.1,(3,x39,x45.2),([(0,x41,v3)]))
 else
 none
 else
 some (x45.1,(5,x39,x45.2),[])
 else
 bif v4.2.2.1 == 4 then
 ob (bc v0 x38 v4.2.2) fun x47 =>
 ob (aF x47.2) fun x48 =>
 bif !x48 then
 some (x47.1,(v4.1,x39,x47.2),[])
 else
 bif x47.2.2.2.2.2.2.2 != 2 then
 bif room 1 24 then
 some (x47.1,(3,x39,x47.2),([(0,x41,v3)]))
 else
 none
 else
 some (x47.1,(5,x39,x47.2),[])
 else
 ob (bM (k + 20) v0 x38 v4.2.2) fun x49 =>
 ob (aF x49.2) fun x50 =>
 bif !x50 then
 some (x49.1,(v4.1,x39,x49.2),[])
 else
 bif x49.2.2.2.2.2.2.2 != 2 then
 bif room 1 24 then
 some (x49.1,(3,x39,x49.2),([(0,x41,v3)]))
 else
 none
 else
 some (x49.1,(5,x39,x49.2),[])
 else
 bif v4.1 == 3 then
 ob (aD x38 1) fun x51 =>
 bif x51 != 0 then
 bif decide (1 ≤ (↑x39.length : Int)) then
 some (x38,(0,(List.drop (Int.toNat 1) x39),(0,0,0,0,0,0,0)),[])
 else
 none
 else
 ob (aC 6 v3 0) fun x52 =>
 some (x38,(4,x39,x52),[])
 else
 bif v4.1 == 4 then
 bif v4.2.2.1 == 3 then
 ob (bc v0 x38 v4.2.2) fun x53 =>
 ob (aF x53.2) fun x54 =>
 bif x54 then
 bif decide (1 ≤ (↑x39.length : Int)) then
 some (x53.1,(0,(List.drop (Int.toNat 1) x39),(0,0,0,0,0,0,0)),[])
 else
 none
 else
 some (x53.1,(v4.1,x39,x53.2),[])
 else
 bif v4.2.2.1 == 4 then
 ob (bc v0 x38 v4.2.2) fun x55 =>
 ob (aF x55.2) fun x56 =>
 bif x56 then
 bif decide (1 ≤ (↑x39.length : Int)) then
 some (x55.1,(0,(List.drop (Int.toNat 1) x39),(0,0,0,0,0,0,0)),[])
 else
 none
 else
 some (x55.1,(v4.1,x39,x55.2),[])
 else
 ob (bM (k + 20) v0 x38 v4.2.2) fun x57 =>
 ob (aF x57.2) fun x58 =>
 bif x58 then
 bif decide (1 ≤ (↑x39.length : Int)) then
 some (x57.1,(0,(List.drop (Int.toNat 1) x39),(0,0,0,0,0,0,0)),[])
 else
 none
 else
 some (x57.1,(v4.1,x39,x57.2),[])
 else
 bif v4.1 == 5 then
 ob (cH x38 0 18446744073709551615) fun x59 =>
 bif room 1 24 then
 bif x59.2 == 1 then
 bif room 2 24 then
 bif decide (1 ≤ (↑x39.length : Int)) then
 some (x59.1,(0,(List.drop (Int.toNat 1) x39),(0,0,0,0,0,0,0)),([(1,x41,v3),(5,0,v3)]))
 else
 none
 else
 none
 else
 bif decide (1 ≤ (↑x39.length : Int)) then
 some (x59.1,(0,(List.drop (Int.toNat 1) x39),(0,0,0,0,0,0,0)),([(1,x41,v3)]))
 else
 none
 else
 none
 else
 none
theorem xv (k : Nat) (v0_0 v0_1 v0_2 v0_3 : Int) (v1 : List (Int × List Int)) (v2 : List Int) (v3 v4_0 : Int) (v4_1 : List Int) (v4_2_0 v4_2_1 v4_2_2 v4_2_3 v4_2_4 v4_2_5 v4_2_6 : Int) : xC (k + 40) none 86 [.agg [.lit (.int .i64 v0_0),.lit (.int .i64 v0_1),.lit (.int .i64 v0_2),.lit (.int .i64 v0_3)],.ro (List.map an v1),.ro (List.map (aG .u64) v2),.lit (.int .i64 v3),.agg [.lit (.int .i64 v4_0),.ro (List.map (aG .i64) v4_1),.lit (.int .i64 v4_2_0),.lit (.int .i64 v4_2_1),.lit (.int .i64 v4_2_2),.lit (.int .u64 v4_2_3),.lit (.int .u64 v4_2_4),.lit (.int .u64 v4_2_5),.lit (.int .i64 v4_2_6)]] = ob (eY k (v0_0,v0_1,v0_2,v0_3) v1 v2 v3 (v4_0,v4_1,(v4_2_0,v4_2_1,v4_2_2,v4_2_3,v4_2_4,v4_2_5,v4_2_6))) fun r => some ((.tup [.ro (List.map (aG .u64) r.1),.agg [.lit (.int .i64 r.2.1.1),.ro (List.map (aG .i64) r.2.1.2.1),.lit (.int .i64 r.2.1.2.2.1),.lit (.int .i64 r.2.1.2.2.2.1),.lit (.int .i64 r.2.1.2.2.2.2.1),.lit (.int .u64 r.2.1.2.2.2.2.2.1),.lit (.int .u64 r.2.1.2.2.2.2.2.2.1),.lit (.int .u64 r.2.1.2.2.2.2.2.2.2.1),.lit (.int .i64 r.2.1.2.2.2.2.2.2.2.2)],.ro (List.map aE r.2.2)]),[]) := by
  rw [aM]
  unfold eY
  simp (maxSteps := 2000000) -implicitDefEqProofs only [adT,adw,ZD,XG,Zn,Ws,aaQ,Uc,H5,Ij,pK,pL,acA,UA,abA,WH,abE,VD,aaI,Uy,aap,XB,Z1,Uv,↓syP,syA,syD,Nat.reduceAdd,Nat.reduceSub,Nat.reduceMul,Nat.reduceLT,Nat.reduceLeDiff,Nat.reduceEqDiff,Nat.reduceBEq,Nat.reduceBNe,Int.reduceBEq,Int.reduceBNe,Int.reduceLT,Int.reduceLE,Int.reduceAdd,Int.reduceSub,Int.reduceNeg,syE,ai,ag,af,syW,xQ,cE,uB,kd,eN,oj,mR,oq]
  all_goals simp -implicitDefEqProofs only [List.map_nil]
def f5 (v0:(Int×List Int×Int×Int×Int×Int×Int×Int×Int)):Option Bool:=
 some (v0.1!=0)
theorem m8 (k:Nat) (v0_0:Int) (v0_1:List Int) (v0_2_0 v0_2_1 v0_2_2 v0_2_3 v0_2_4 v0_2_5 v0_2_6:Int):xC (k+1) none 28 [.agg [.lit (.int .i64 v0_0),.ro (List.map (aG .i64) v0_1),.lit (.int .i64 v0_2_0),.lit (.int .i64 v0_2_1),.lit (.int .i64 v0_2_2),.lit (.int .u64 v0_2_3),.lit (.int .u64 v0_2_4),.lit (.int .u64 v0_2_5),.lit (.int .i64 v0_2_6)]]=ob (f5 (v0_0,v0_1,(v0_2_0,v0_2_1,v0_2_2,v0_2_3,v0_2_4,v0_2_5,v0_2_6))) fun r=>some ((.lit (.bool r)),[]):=by
 rw [aM]
 unfold f5
 simp (maxSteps:=2000000) -implicitDefEqProofs only [adH,adx,↓syP,syA,syD,Nat.reduceAdd,Nat.reduceSub,Nat.reduceMul,Nat.reduceLT,Nat.reduceLeDiff,Nat.reduceEqDiff,Nat.reduceBEq,Nat.reduceBNe,Int.reduceBEq,Int.reduceBNe,Int.reduceLT,Int.reduceLE,Int.reduceAdd,Int.reduceSub,Int.reduceNeg,syE,ai,ag,af,syW,xQ]
 all_goals simp -implicitDefEqProofs only [List.map_nil]
def fE (v0:(List Int)):Option (Int×List Int×Int×Int×Int×Int×Int×Int×Int):=
 ob (aJ 8 v0) fun x86=>
 some (0,x86,(0,0,0,0,0,0,0))
theorem kT (k:Nat) (v0:List Int):xC (k+2) none 63 [.ro (List.map (aG .i64) v0)]=ob (fE v0) fun r=>some ((.agg [.lit (.int .i64 r.1),.ro (List.map (aG .i64) r.2.1),.lit (.int .i64 r.2.2.1),.lit (.int .i64 r.2.2.2.1),.lit (.int .i64 r.2.2.2.2.1),.lit (.int .u64 r.2.2.2.2.2.1),.lit (.int .u64 r.2.2.2.2.2.2.1),.lit (.int .u64 r.2.2.2.2.2.2.2.1),.lit (.int .i64 r.2.2.2.2.2.2.2.2)]),[]):=by
 rw [aM]
 unfold fE
 simp (maxSteps:=2000000) -implicitDefEqProofs only [ad6,acZ,↓syP,syA,syD,Nat.reduceAdd,Nat.reduceSub,Nat.reduceMul,Nat.reduceLT,Nat.reduceLeDiff,Nat.reduceEqDiff,Nat.reduceBEq,Nat.reduceBNe,Int.reduceBEq,Int.reduceBNe,Int.reduceLT,Int.reduceLE,Int.reduceAdd,Int.reduceSub,Int.reduceNeg,syE,ai,ag,af,syW,xQ]
 all_goals simp -implicitDefEqProofs only [List.map_nil]
end Go.Ab
set_option maxRecDepth 100000
set_option linter.unusedVariables false
set_option linter.unusedSimpArgs false
namespace Go.Ab
open Go.Proofs
def pa {β:Type} (k:Nat) (c:Int×Int×Int×Int) (m:List Int) (f:Int×Int×Int×Int×Int×Int×Int) (K:List Int×(Int×Int×Int×Int×Int×Int×Int)→Option β):Option β:=
 (bif f.1==0 then (bif f.1==0 then ob (dO (k+31) c m f) K else (bif f.1==3 then (bif f.1==3 then ob (bc c m f) K else ob (bM (k+40) c m f) K) else (bif f.1==4 then ob (bc c m f) K else ob (bM (k+40) c m f) K))) else (bif f.1==1 then (bif f.1==1 then ob (dO (k+31) c m f) K else (bif f.1==3 then (bif f.1==3 then ob (bc c m f) K else ob (bM (k+40) c m f) K) else (bif f.1==4 then ob (bc c m f) K else ob (bM (k+40) c m f) K))) else (bif f.1==2 then ob (dO (k+31) c m f) K else (bif f.1==3 then (bif f.1==3 then ob (bc c m f) K else ob (bM (k+40) c m f) K) else (bif f.1==4 then ob (bc c m f) K else ob (bM (k+40) c m f) K)))))
def gK (k : Nat) (v0 : (Int × Int × Int × Int)) (v1 : (List (Int × List Int))) (v2 : (List Int)) (v3 : Int) (v4 : (Int × List (Int × Int × Int) × (Int × Int × Int × Int × Int × Int × Int) × Int × Int)) (v5 : Int) : Option ((List Int) × (Int × List (Int × Int × Int) × (Int × Int × Int × Int × Int × Int × Int) × Int × Int) × (List (Int × Int × Int))) :=
 ob (aJ 8 v2) fun x470 =>
 ob (aJ 24 v4.2.1) fun x471 =>
 ob (go (k + 35) v0 v1 v2 v3 v4) fun x472 =>
 bif !x472 then
 some (x470,(v4.1,x471,v4.2.2),[])
 else
 bif v4.1 == 0 then
 pa k v0 x470 v4.2.2.1 fun x473 =>
 ob (aF x473.2) fun x474 =>
 bif !x474 then
 some (x473.1,(v4.1,x471,x473.2,v4.2.2.2),[])
 else
 bif x473.2.2.2.2.2.2.2 != 1 then
 some (x473.1,(1,x471,(0,0,0,0,0,0,0),v4.2.2.2),[])
 else
 ob (cN (k + 36) v1 x471 (IntKind.i64.wrap x473.2.2.2.2.1)) fun x475 =>
 bif room 1 24 then
 some (x473.1,(9,x475,(0,0,0,0,0,0,0),v4.2.2.2),([(2,IntKind.i64.wrap x473.2.2.2.2.1,v3)]))
 else
 none
 else
 bif v4.1 == 1 then
 ob (cH x470 1 1) fun x518 =>
 ob (aC 4 v3 0) fun x519 =>
 some (x518.1,(2,x471,x519,v0.2.2.2,v4.2.2.2.2),[])
 else
 bif v4.1 == 2 then
 ob (dZ v5 v3 v0.1) fun x520 =>
 pa k v0 x470 v4.2.2.1 fun x521 =>
 ob (aF x521.2) fun x522 =>
 bif !x522 then
 some (x521.1,(v4.1,x471,x521.2,v4.2.2.2),[])
 else
 bif x521.2.2.2.2.2.2.2 == 1 then
 some (x521.1,(4,x471,x521.2,v4.2.2.2),[])
 else
 bif v4.1 == 2 then
 bif decide (0 ≤ x520) then
 ob (aC 2 x520 0) fun x523 =>
 some (x521.1,(3,x471,x523,v4.2.2.2),[])
 else
 bif decide (v4.2.2.2.1 ≤ 0) then
 ob (aC 5 v3 0) fun x524 =>
 some (x521.1,(5,x471,x524,v4.2.2.2),[])
 else
 ob (aC 4 v3 0) fun x525 =>
 some (x521.1,(2,x471,x525,(IntKind.i64.wrap (v4.2.2.2.1 - 1)),v4.2.2.2.2),[])
 else
 bif decide (v4.2.2.2.1 ≤ 0) then
 ob (aC 5 v3 0) fun x526 =>
 some (x521.1,(5,x471,x526,v4.2.2.2),[])
 else
 ob (aC 4 v3 0) fun x527 =>
 some (x521.1,(2,x471,x527,(IntKind.i64.wrap (v4.2.2.2.1 - 1)),v4.2.2.2.2),[])
 else
 bif v4.1 == 3 then
 ob (dZ v5 v3 v0.1) fun x626 =>
 pa k v0 x470 v4.2.2.1 fun x627 =>
 ob (aF x627.2) fun x628 =>
 bif !x628 then
 some (x627.1,(v4.1,x471,x627.2,v4.2.2.2),[])
 else
 bif x627.2.2.2.2.2.2.2 == 1 then
 some (x627.1,(4,x471,x627.2,v4.2.2.2),[])
 else
 bif v4.1 == 2 then
 bif decide (0 ≤ x626) then
 ob (aC 2 x626 0) fun x629 =>
 some (x627.1,(3,x471,x629,v4.2.2.2),[])
 else
 bif decide (v4.2.2.2.1 ≤ 0) then
 ob (aC 5 v3 0) fun x630 =>
 some (x627.1,(5,x471,x630,v4.2.2.2),[])
 else
 ob (aC 4 v3 0) fun x631 =>
 some (x627.1,(2,x471,x631,(IntKind.i64.wrap (v4.2.2.2.1 - 1)),v4.2.2.2.2),[])
 else
 bif decide (v4.2.2.2.1 ≤ 0) then
 ob (aC 5 v3 0) fun x632 =>
 some (x627.1,(5,x471,x632,v4.2.2.2),[])
 else
 ob (aC 4 v3 0) fun x633 =>
 some (x627.1,(2,x471,x633,(IntKind.i64.wrap (v4.2.2.2.1 - 1)),v4.2.2.2.2),[])
 else
 bif v4.1 == 4 then
 ob (cH x470 1 18446744073709551615) fun x732 =>
 bif x732.2 == 1 then
 ob (aC 6 v3 0) fun x733 =>
 ob (cN (k + 36) v1 x471 (IntKind.i64.wrap v4.2.2.1.2.2.2.1)) fun x734 =>
 bif room 1 24 then
 some (x732.1,(14,x734,x733,v4.2.2.2),([(2,IntKind.i64.wrap v4.2.2.1.2.2.2.1,v3)]))
 else
 none
 else
 ob (cN (k + 36) v1 x471 (IntKind.i64.wrap v4.2.2.1.2.2.2.1)) fun x735 =>
 bif room 1 24 then
 some (x732.1,(9,x735,(0,0,0,0,0,0,0),v4.2.2.2),([(2,IntKind.i64.wrap v4.2.2.1.2.2.2.1,v3)]))
 else
 none
 else
 bif v4.1 == 5 then
 pa k v0 x470 v4.2.2.1 fun x736 =>
 ob (aF x736.2) fun x737 =>
 some (x736.1,(6,x471,x736.2,v4.2.2.2),[])
 else
 bif v4.1 == 6 then
 ob (cH x470 1 18446744073709551615) fun x766 =>
 some (x766.1,(7,x471,v4.2.2.1,v4.2.2.2.1,0),[])
 else
 bif v4.1 == 7 then
 bif decide (v4.2.2.2.2 < 0) then
 some (x470,(8,x471,(v4.2.2.1.1,v4.2.2.1.2.1,v4.2.2.1.2.2.1,0,v4.2.2.1.2.2.2.2),v4.2.2.2.1,0),[])
 else
 bif decide (IntKind.i64.wrap (2 + IntKind.i64.wrap (2 * v0.1)) ≤ v4.2.2.2.2) then
 some (x470,(8,x471,(v4.2.2.1.1,v4.2.2.1.2.1,v4.2.2.1.2.2.1,0,v4.2.2.1.2.2.2.2),v4.2.2.2.1,0),[])
 else
 bif v4.2.2.2.2 == 0 then
 ob (aD x470 4) fun x767 =>
 bif IntKind.i64.wrap (v4.2.2.2.2 + 1) == IntKind.i64.wrap (2 + IntKind.i64.wrap (2 * v0.1)) then
 some (x470,(8,x471,(v4.2.2.1.1,v4.2.2.1.2.1,v4.2.2.1.2.2.1,0,v4.2.2.1.2.2.2.2),v4.2.2.2.1,0),[])
 else
 some (x470,(v4.1,x471,(v4.2.2.1.1,v4.2.2.1.2.1,v4.2.2.1.2.2.1,x767,v4.2.2.1.2.2.2.2),v4.2.2.2.1,(IntKind.i64.wrap (v4.2.2.2.2 + 1))),[])
 else
 bif v4.2.2.2.2 == 1 then
 ob (aD x470 5) fun x768 =>
 bif x768 != v4.2.2.1.2.2.2.1 then
 some (x470,(1,x471,(0,0,0,0,0,0,0),v4.2.2.2),[])
 else
 bif IntKind.i64.wrap (v4.2.2.2.2 + 1) == IntKind.i64.wrap (2 + IntKind.i64.wrap (2 * v0.1)) then
 some (x470,(8,x471,(v4.2.2.1.1,v4.2.2.1.2.1,v4.2.2.1.2.2.1,0,v4.2.2.1.2.2.2.2),v4.2.2.2.1,0),[])
 else
 some (x470,(v4.1,x471,v4.2.2.1,v4.2.2.2.1,(IntKind.i64.wrap (v4.2.2.2.2 + 1))),[])
 else
 bif v4.2.2.2.2.tmod 2 == 0 then
 ob (fF v0 (IntKind.i64.wrap ((IntKind.i64.wrap (v4.2.2.2.2 - 2)).tdiv 2))) fun x769 =>
 ob (aD x470 x769) fun x770 =>
 bif IntKind.i64.wrap (v4.2.2.2.2 + 1) == IntKind.i64.wrap (2 + IntKind.i64.wrap (2 * v0.1)) then
 some (x470,(8,x471,(v4.2.2.1.1,v4.2.2.1.2.1,v4.2.2.1.2.2.1,0,v4.2.2.1.2.2.2.2),v4.2.2.2.1,0),[])
 else
 some (x470,(v4.1,x471,(v4.2.2.1.1,v4.2.2.1.2.1,v4.2.2.1.2.2.1,x770,v4.2.2.1.2.2.2.2),v4.2.2.2.1,(IntKind.i64.wrap (v4.2.2.2.2 + 1))),[])
 else
 ob (cQ v0 (IntKind.i64.wrap ((IntKind.i64.wrap (v4.2.2.2.2 - 2)).tdiv 2))) fun x771 =>
 ob (aD x470 x771) fun x772 =>
 ob (eb x772 v4.2.2.1.2.2.2.1) fun x773 =>
 bif decide (0 < x773) then
 some (x470,(1,x471,(0,0,0,0,0,0,0),v4.2.2.2),[])
 else
 bif IntKind.i64.wrap (v4.2.2.2.2 + 1) == IntKind.i64.wrap (2 + IntKind.i64.wrap (2 * v0.1)) then
 some (x470,(8,x471,(v4.2.2.1.1,v4.2.2.1.2.1,v4.2.2.1.2.2.1,0,v4.2.2.1.2.2.2.2),v4.2.2.2.1,0),[])
 else
 some (x470,(v4.1,x471,v4.2.2.1,v4.2.2.2.1,(IntKind.i64.wrap (v4.2.2.2.2 + 1))),[])
 else
 bif v4.1 == 8 then
 pa k v0 x470 v4.2.2.1 fun x774 =>
 ob (aF x774.2) fun x775 =>
 bif x775 then
 some (x774.1,(1,x471,(0,0,0,0,0,0,0),v4.2.2.2),[])
 else
 some (x774.1,(v4.1,x471,x774.2,v4.2.2.2),[])
 else
 bif v4.1 == 9 then
 ob (dk (k + 37) v1 x471) fun x804 =>
 bif x804.1 == 1 then
 ob (eI (k + 36) v1 x471) fun x805 =>
 some (x470,(v4.1,x805,v4.2.2),[])
 else
 bif x804.1 == 2 then
 some (x470,(10,x471,v4.2.2),[])
 else
 bif x804.1 == 3 then
 some (x470,(15,x471,v4.2.2),[])
 else
 ob (aC 1 v3 0) fun x806 =>
 some (x470,(0,x471,x806,v4.2.2.2),[])
 else
 bif v4.1 == 10 then
 ob (dk (k + 37) v1 x471) fun x807 =>
 bif x807.1 != 2 then
 some (x470,(9,x471,(0,0,0,0,0,0,0),v4.2.2.2),[])
 else
 ob (cH x470 0 1) fun x808 =>
 bif room 1 24 then
 ob (eI (k + 36) v1 x471) fun x809 =>
 ob (aC 0 v3 (IntKind.u64.wrap x807.2)) fun x810 =>
 some (x808.1,(11,x809,x810,v4.2.2.2),([(3,x807.2,v3)]))
 else
 none
 else
 bif v4.1 == 11 then
 pa k v0 x470 v4.2.2.1 fun x811 =>
 ob (aF x811.2) fun x812 =>
 bif !x812 then
 some (x811.1,(v4.1,x471,x811.2,v4.2.2.2),[])
 else
 bif x811.2.2.2.2.2.2.2 == 2 then
 ob (aC 3 v3 x811.2.2.2.2.1) fun x813 =>
 some (x811.1,(12,x471,x813,v4.2.2.2),[])
 else
 some (x811.1,(13,x471,(0,0,0,0,0,0,0),v4.2.2.2),[])
 else
 bif v4.1 == 12 then
 pa k v0 x470 v4.2.2.1 fun x856 =>
 ob (aF x856.2) fun x857 =>
 bif !x857 then
 some (x856.1,(v4.1,x471,x856.2,v4.2.2.2),[])
 else
 bif x856.2.2.2.2.2.2.2 == 2 then
 ob (cN (k + 36) v1 x471 (IntKind.i64.wrap x856.2.2.2.2.1)) fun x858 =>
 bif room 1 24 then
 some (x856.1,(9,x858,(0,0,0,0,0,0,0),v4.2.2.2),([(2,IntKind.i64.wrap x856.2.2.2.2.1,v3)]))
 else
 none
 else
 some (x856.1,(13,x471,(0,0,0,0,0,0,0),v4.2.2.2),[])
 else
 bif v4.1 == 13 then
 ob (aD x470 1) fun x901 =>
 bif x901 == 0 then
 ob (aC 6 v3 0) fun x902 =>
 some (x470,(14,x471,x902,v4.2.2.2),[])
 else
 some (x470,(9,x471,(0,0,0,0,0,0,0),v4.2.2.2),[])
 else
 bif v4.1 == 14 then
 pa k v0 x470 v4.2.2.1 fun x903 =>
 ob (aF x903.2) fun x904 =>
 bif x904 then
 some (x903.1,(9,x471,(0,0,0,0,0,0,0),v4.2.2.2),[])
 else
 some (x903.1,(v4.1,x471,x903.2,v4.2.2.2),[])
 else
 bif v4.1 == 15 then
 ob (dk (k + 37) v1 x471) fun x933 =>
 bif x933.1 != 3 then
 some (x470,(9,x471,(0,0,0,0,0,0,0),v4.2.2.2),[])
 else
 ob (cH x470 0 18446744073709551615) fun x934 =>
 bif room 1 24 then
 bif x934.2 == 1 then
 bif room 2 24 then
 ob (eI (k + 36) v1 x471) fun x935 =>
 bif (↑x935.length : Int) == 0 then
 ob (aC 1 v3 0) fun x936 =>
 some (x934.1,(0,x935,x936,v4.2.2.2),([(4,x933.2,v3),(5,0,v3)]))
 else
 some (x934.1,(9,x935,(0,0,0,0,0,0,0),v4.2.2.2),([(4,x933.2,v3),(5,0,v3)]))
 else
 none
 else
 ob (eI (k + 36) v1 x471) fun x937 =>
 bif (↑x937.length : Int) == 0 then
 ob (aC 1 v3 0) fun x938 =>
 some (x934.1,(0,x937,x938,v4.2.2.2),([(4,x933.2,v3)]))
 else
 some (x934.1,(9,x937,(0,0,0,0,0,0,0),v4.2.2.2),([(4,x933.2,v3)]))
 else
 none
 else
 none
theorem C8 (k : Nat) (v0_0 v0_1 v0_2 v0_3 : Int) (v1 : List (Int × List Int)) (v2 : List Int) (v3 v4_0 : Int) (v4_1 : List (Int × Int × Int)) (v4_2_0 v4_2_1 v4_2_2 v4_2_3 v4_2_4 v4_2_5 v4_2_6 v4_3 v4_4 v5 : Int) : xC (k + 60) none 83 [.agg [.lit (.int .i64 v0_0),.lit (.int .i64 v0_1),.lit (.int .i64 v0_2),.lit (.int .i64 v0_3)],.ro (List.map an v1),.ro (List.map (aG .u64) v2),.lit (.int .i64 v3),.agg [.lit (.int .i64 v4_0),.ro (List.map aE v4_1),.lit (.int .i64 v4_2_0),.lit (.int .i64 v4_2_1),.lit (.int .i64 v4_2_2),.lit (.int .u64 v4_2_3),.lit (.int .u64 v4_2_4),.lit (.int .u64 v4_2_5),.lit (.int .i64 v4_2_6),.lit (.int .i64 v4_3),.lit (.int .i64 v4_4)],.lit (.int .u64 v5)] = ob (gK k (v0_0,v0_1,v0_2,v0_3) v1 v2 v3 (v4_0,v4_1,(v4_2_0,v4_2_1,v4_2_2,v4_2_3,v4_2_4,v4_2_5,v4_2_6),v4_3,v4_4) v5) fun r => some ((.tup [.ro (List.map (aG .u64) r.1),.agg [.lit (.int .i64 r.2.1.1),.ro (List.map aE r.2.1.2.1),.lit (.int .i64 r.2.1.2.2.1.1),.lit (.int .i64 r.2.1.2.2.1.2.1),.lit (.int .i64 r.2.1.2.2.1.2.2.1),.lit (.int .u64 r.2.1.2.2.1.2.2.2.1),.lit (.int .u64 r.2.1.2.2.1.2.2.2.2.1),.lit (.int .u64 r.2.1.2.2.1.2.2.2.2.2.1),.lit (.int .i64 r.2.1.2.2.1.2.2.2.2.2.2),.lit (.int .i64 r.2.1.2.2.2.1),.lit (.int .i64 r.2.1.2.2.2.2)],.ro (List.map aE r.2.2)]),[]) := by
  rw [aM]
  unfold gK pa
  simp (maxSteps := 2000000) -implicitDefEqProofs only [ad0,ac4,acV,Vu,acq,Vx,aaL,V7,IG,pk,aaB,Vz,I7,rK,Z5,Vn,aaq,Vo,aav,Xg,Is,Jd,oY,pU,acL,WW,aaT,W2,abj,Xw,acp,Xl,acz,Wz,Zw,WD,acX,Wk,abY,X8,GQ,rh,acY,UO,Iu,Ho,rF,oU,abt,XR,ab1,Yy,aae,Yc,ZM,Ur,aaF,Uk,↓syP,syA,syD,Nat.reduceAdd,Nat.reduceSub,Nat.reduceMul,Nat.reduceLT,Nat.reduceLeDiff,Nat.reduceEqDiff,Nat.reduceBEq,Nat.reduceBNe,Int.reduceBEq,Int.reduceBNe,Int.reduceLT,Int.reduceLE,Int.reduceAdd,Int.reduceSub,Int.reduceNeg,syE,ai,ag,af,syW,xQ,cE,uB,kd,eN,kL,fH,iB,w7,oj,mR,Bt,oe,GG,w9,us]
  all_goals simp -implicitDefEqProofs only [List.map_nil]
end Go.Ab
