import Derived.Test.YtblpbpnilkfjhaaGreatR6GX
import Derived.Test.YtblpbpnilkfjhaaGreatR6BP
import Derived.Test.YtblpbpnilkfjhaaGreatR6BX
import Derived.Test.YtblpbpnilkfjhaaGreatR6BY
import Derived.Test.YtblpbpnilkfjhaaGreatR6BA
set_option linter.unusedVariables false
set_option linter.unusedSimpArgs false
set_option maxRecDepth 100000
set_option linter.unusedVariables false
set_option linter.unusedSimpArgs false
namespace Go.Ab
open Go.Proofs
def gP (v0:(Int×Int×Int)) (v1:Int) (v2:Int):Option Bool:=
 bif v0.1==0 then
 ob (cP v0.2.1 v1) fun x4=>
 bif x4 then
 some true
 else
 bif v0.1==1 then
 ob (cP v0.2.1 v2) fun x5=>
 bif x5 then
 some true
 else
 bif v0.1==2 then
 some true
 else
 some (v0.1==3)
 else
 bif v0.1==2 then
 some true
 else
 some (v0.1==3)
 else
 bif v0.1==1 then
 ob (cP v0.2.1 v2) fun x6=>
 bif x6 then
 some true
 else
 bif v0.1==2 then
 some true
 else
 some (v0.1==3)
 else
 bif v0.1==2 then
 some true
 else
 some (v0.1==3)
theorem Dt (k:Nat) (v0_0 v0_1 v0_2 v1 v2:Int):xC (k+2) none 42 [.agg [.lit (.int .i64 v0_0),.lit (.int .i64 v0_1),.lit (.int .u64 v0_2)],.lit (.int .i64 v1),.lit (.int .i64 v2)]=ob (gP (v0_0,v0_1,v0_2) v1 v2) fun r=>some ((.lit (.bool r)),[]):=by
 rw [aM]
 unfold gP
 simp (maxSteps:=2000000) -implicitDefEqProofs only [adM,adb,OD,Oj,Pg,Ok,Pj,OH,Pq,Oo,Pp,uf,↓syP,syA,syD,Nat.reduceAdd,Nat.reduceSub,Nat.reduceMul,Nat.reduceLT,Nat.reduceLeDiff,Nat.reduceEqDiff,Nat.reduceBEq,Nat.reduceBNe,Int.reduceBEq,Int.reduceBNe,Int.reduceLT,Int.reduceLE,Int.reduceAdd,Int.reduceSub,Int.reduceNeg,syE,ai,ag,af,syW,xQ,oi]
 all_goals simp -implicitDefEqProofs only [List.map_nil]
def cz (k:Nat) (v0:(List (Int×List Int)))  : Nat→List (Int×List Int)→Int→Int→List (Int×List Int)→Option (List (Int×List Int))
 | 0,_,_,_,_=>none
 | n+1,s23,s24,s30,s31=>
 bif decide (s30<s24) then
 bif decide ((0:Int)≤s30∧s30.toNat<s23.length) then
 ob (s31[s30.toNat]?) fun x39=>
 ob (aJ (8:Nat) x39.2) fun x40=>
 bif decide ((0:Int)≤s30∧s30.toNat<s23.length) then
 ob (s31[s30.toNat]?) fun x41=>
 cz k v0  n (s23) (s24) (IntKind.i64.wrap (s30+(1:Int))) (s31.set s30.toNat (x41.1,x40))
 else
 none
 else
 none
 else
 ck (decide (s23.length≤s31.length)) (
 some (List.take s23.length s31))
theorem mt (k:Nat) (v0:List (Int×List Int)):∀ (n:Nat) (s23:List (Int×List Int)) (s24:Int) (s30:Int) (s31:List (Int×List Int)) ⦃j29:V⦄,rt none (itX (xX (xS (k+(1:Nat))) (58:Nat) (0:Nat) (k+(1:Nat)) false) Fd ((2:Nat)) (au (xX (xS (k+(1:Nat))) (58:Nat) (0:Nat) (k+(1:Nat)) false) (aA (xS (k+(1:Nat))).P Tryz.f58) Fa) n ⟨[V.ro (List.map an v0),uu,V.own (0:Nat) (0:Nat) (0:Nat),V.own (1:Nat) (0:Nat) s23.length,j29,V.ro (List.map an v0),V.own (1:Nat) (0:Nat) s23.length,V.own (1:Nat) (0:Nat) s23.length,V.lit (Value.int IntKind.i64 s24),V.lit (Value.int IntKind.i64 s30),V.junk,V.junk,V.junk,V.junk,V.junk,V.junk,V.junk,V.junk,V.junk,V.junk,V.junk,V.junk,V.junk,uu],[B.rows (0:Nat) [] (0:Nat) true,B.rows (2:Nat) (List.map an s31) (0:Nat) true]⟩)=ob (cz k v0  n s23 s24 s30 s31) fun r=>some ((.ro (List.map an r)),[]):=by
 intro n
 induction n with
 | zero=>intros;rfl
 | succ n ih=>
  intro s23 s24 s30 s31 j29
  rw [cz]
  simp (maxSteps:=2000000) -implicitDefEqProofs only [ac6,ZV,Zq,Jh,nv,↓syP,syA,syD,Nat.reduceAdd,Nat.reduceSub,Nat.reduceMul,Nat.reduceLT,Nat.reduceLeDiff,Nat.reduceEqDiff,Nat.reduceBEq,Nat.reduceBNe,Int.reduceBEq,Int.reduceBNe,Int.reduceLT,Int.reduceLE,Int.reduceAdd,Int.reduceSub,Int.reduceNeg,syE,ai,ag,af,syW,xQ,PC,ih]
  all_goals simp -implicitDefEqProofs only [List.map_nil]
def dN (k:Nat) (v0:(List (Int×List Int))):Option (List (Int×List Int)):=
 ob (aJ 32 v0) fun x42=>
 cz k v0 (k+1) x42 ((↑x42.length:Int)) 0 x42
theorem eH (k:Nat) (v0:List (Int×List Int)):xC (k+2) none 58 [.ro (List.map an v0)]=ob (dN k v0) fun r=>some ((.ro (List.map an r)),[]):=by
 rw [aM]
 unfold dN
 simp (maxSteps:=2000000) -implicitDefEqProofs only [ac6,ZV,Zq,Jh,nv,↓syP,syA,syD,Nat.reduceAdd,Nat.reduceSub,Nat.reduceMul,Nat.reduceLT,Nat.reduceLeDiff,Nat.reduceEqDiff,Nat.reduceBEq,Nat.reduceBNe,Int.reduceBEq,Int.reduceBNe,Int.reduceLT,Int.reduceLE,Int.reduceAdd,Int.reduceSub,Int.reduceNeg,syE,ai,ag,af,syW,xQ,mt k v0]
 all_goals simp -implicitDefEqProofs only [List.map_nil]
end Go.Ab
set_option maxRecDepth 100000
set_option linter.unusedVariables false
set_option linter.unusedSimpArgs false
namespace Go.Ab
open Go.Proofs
def bN (k:Nat)   : Nat→List Int→Int→List (Int×List Int)→Int→Option Int
 | 0,_,_,_,_=>none
 | n+1,s20,s21,s26,s40=>
 bif decide (s40<s21) then
 ob (idx s20 s40) fun x46=>
 bif decide (x46<(0:Int)) then
 some (s40)
 else
 bif decide ((↑s26.length:Int)≤x46) then
 some (s40)
 else
 bN k   n (s20) (s21) (s26) (IntKind.i64.wrap (s40+(1:Int)))
 else
 some ((-1:Int))
theorem l8 (k:Nat)  : ∀ (n:Nat) (s20:List Int) (s21:Int) (s26:List (Int×List Int)) (s40:Int) ⦃s22:Int⦄ ⦃s23:Int⦄ ⦃s24:Int⦄ ⦃s25:Int⦄ ⦃s27:List Int⦄ ⦃s28:List (Int×List (Int×Int×Int)×(Int×Int×Int×Int×Int×Int×Int)×Int×Int)⦄ ⦃s29:List (Int×List Int×Int×Int×Int×Int×Int×Int×Int)⦄ ⦃s30:Int⦄ ⦃s31:Int⦄ ⦃s32:Int⦄ ⦃s33:Int⦄ ⦃s34:Int⦄ ⦃s35:Int⦄ ⦃s36:Int⦄ ⦃s37:Int⦄ ⦃j39:V⦄,itX (xX (xS (k+(29:Nat))) (97:Nat) (0:Nat) (k+(29:Nat)) false) DN ((4:Nat)) (au (xX (xS (k+(29:Nat))) (97:Nat) (0:Nat) (k+(29:Nat)) false) (aA (xS (k+(29:Nat))).P Tryz.f97) D9) n ⟨[V.ro (List.map (aG IntKind.i64) s20),V.fn (Fn.func (54:FuncId)) [] [V.ptr (0:Nat) (0:Nat) (0:Nat) (0:Nat)],uu,uu,V.lit (Value.int IntKind.i64 (0:Int)),j39,V.ro (List.map (aG IntKind.i64) s20),V.lit (Value.int IntKind.i64 s21),V.lit (Value.int IntKind.i64 s40),V.junk,V.junk,V.junk,V.junk,V.junk,V.junk,V.junk,V.junk,V.junk,V.junk],[B.box [V.lit (Value.int IntKind.i64 s22),V.lit (Value.int IntKind.i64 s23),V.lit (Value.int IntKind.i64 s24),V.lit (Value.int IntKind.i64 s25),V.ro (List.map an s26),V.ro (List.map (aG IntKind.u64) s27),V.ro (List.map aH s28),V.ro (List.map bL s29)],B.box [V.lit (Value.bool false)],B.box [V.lit (Value.int IntKind.i64 s22),V.lit (Value.int IntKind.i64 s23),V.lit (Value.int IntKind.i64 s24),V.lit (Value.int IntKind.i64 s25),V.ro (List.map an s26),V.ro (List.map (aG IntKind.u64) s27),V.ro (List.map aH s28),V.ro (List.map bL s29)],B.box [V.lit (Value.int IntKind.i64 s30),V.ro (List.map (aG IntKind.i64) s20),V.lit (Value.int IntKind.i64 s31),V.lit (Value.int IntKind.i64 s32),V.lit (Value.int IntKind.i64 s33),V.lit (Value.int IntKind.u64 s34),V.lit (Value.int IntKind.u64 s35),V.lit (Value.int IntKind.u64 s36),V.lit (Value.int IntKind.i64 s37)]]⟩=ob (bN k   n s20 s21 s26 s40) fun r=>some ((V.lit (Value.int IntKind.i64 r),[B.box [V.lit (Value.int IntKind.i64 s22),V.lit (Value.int IntKind.i64 s23),V.lit (Value.int IntKind.i64 s24),V.lit (Value.int IntKind.i64 s25),V.ro (List.map an s26),V.ro (List.map (aG IntKind.u64) s27),V.ro (List.map aH s28),V.ro (List.map bL s29)],B.box [V.lit (Value.bool false)],B.box [V.lit (Value.int IntKind.i64 s22),V.lit (Value.int IntKind.i64 s23),V.lit (Value.int IntKind.i64 s24),V.lit (Value.int IntKind.i64 s25),V.ro (List.map an s26),V.ro (List.map (aG IntKind.u64) s27),V.ro (List.map aH s28),V.ro (List.map bL s29)],B.box [V.lit (Value.int IntKind.i64 s30),V.ro (List.map (aG IntKind.i64) s20),V.lit (Value.int IntKind.i64 s31),V.lit (Value.int IntKind.i64 s32),V.lit (Value.int IntKind.i64 s33),V.lit (Value.int IntKind.u64 s34),V.lit (Value.int IntKind.u64 s35),V.lit (Value.int IntKind.u64 s36),V.lit (Value.int IntKind.i64 s37)]])):=by
 intro n
 induction n with
 | zero=>intros;rfl
 | succ n ih=>
  intro s20 s21 s26 s40 s22 s23 s24 s25 s27 s28 s29 s30 s31 s32 s33 s34 s35 s36 s37 j39
  rw [bN]
  simp (maxSteps:=2000000) -implicitDefEqProofs only [YV,Yk,Uu,A5,By,BM,dw,dy,iM,iQ,m7,Y1,XV,aM (g:=51),Za,Vh,Y3,Ut,Aa,Av,xO,BN,Bd,xZ,xK,Ar,iw,Y7,W5,Al,iU,YZ,Wj,Y8,X0,Us,Bl,Bu,ix,iC,Zc,WS,V2,Bx,iO,Y5,Wx,Yf,AJ,iZ,↓syP,syA,syD,Nat.reduceAdd,Nat.reduceSub,Nat.reduceMul,Nat.reduceLT,Nat.reduceLeDiff,Nat.reduceEqDiff,Nat.reduceBEq,Nat.reduceBNe,Int.reduceBEq,Int.reduceBNe,Int.reduceLT,Int.reduceLE,Int.reduceAdd,Int.reduceSub,Int.reduceNeg,syE,ai,ag,af,syW,xQ,Pi,ih]
  all_goals simp -implicitDefEqProofs only [List.map_nil]
def bz (k:Nat)   : Nat→List (Int×List Int×Int×Int×Int×Int×Int×Int×Int)→Int→List (Int×List Int)→Int→Option Int
 | 0,_,_,_,_=>none
 | n+1,s9,s10,s15,s50=>
 bif decide (s50<s10) then
 ob (idx s9 s50) fun x59=>
 bif decide (x59.1<(0:Int)) then
 some (s50)
 else
 bif decide ((6:Int)≤x59.1) then
 some (s50)
 else
 ob (bN k (k+(29:Nat)) x59.2.1 (↑x59.2.1.length:Int) s15 (0:Int)) fun x60=>
 bif decide ((0:Int)≤x60) then
 some (s50)
 else
 bif x59.1!=(0:Int) then
 bif (↑x59.2.1.length:Int)==(0:Int) then
 some (s50)
 else
 bz k   n (s9) (s10) (s15) (IntKind.i64.wrap (s50+(1:Int)))
 else
 bz k   n (s9) (s10) (s15) (IntKind.i64.wrap (s50+(1:Int)))
 else
 some ((-1:Int))
theorem lU (k:Nat)  : ∀ (n:Nat) (s9:List (Int×List Int×Int×Int×Int×Int×Int×Int×Int)) (s10:Int) (s15:List (Int×List Int)) (s50:Int) ⦃s11:Int⦄ ⦃s12:Int⦄ ⦃s13:Int⦄ ⦃s14:Int⦄ ⦃s16:List Int⦄ ⦃s17:List (Int×List (Int×Int×Int)×(Int×Int×Int×Int×Int×Int×Int)×Int×Int)⦄ ⦃j49:V⦄,itX (xX (xS (k+(32:Nat))) (96:Nat) (0:Nat) (k+(32:Nat)) false) DS ((3:Nat)) (au (xX (xS (k+(32:Nat))) (96:Nat) (0:Nat) (k+(32:Nat)) false) (aA (xS (k+(32:Nat))).P Tryz.f96) Et) n ⟨[V.ro (List.map bL s9),V.fn (Fn.func (53:FuncId)) [] [V.ptr (0:Nat) (0:Nat) (0:Nat) (0:Nat)],uu,uu,V.lit (Value.int IntKind.i64 (0:Int)),j49,V.ro (List.map bL s9),V.lit (Value.int IntKind.i64 s10),V.lit (Value.int IntKind.i64 s50),V.junk,V.junk,V.junk,V.junk,V.junk,V.junk,V.junk,V.junk,V.junk,V.junk],[B.box [V.lit (Value.int IntKind.i64 s11),V.lit (Value.int IntKind.i64 s12),V.lit (Value.int IntKind.i64 s13),V.lit (Value.int IntKind.i64 s14),V.ro (List.map an s15),V.ro (List.map (aG IntKind.u64) s16),V.ro (List.map aH s17),V.ro (List.map bL s9)],B.box [V.lit (Value.bool false)],B.box [V.lit (Value.int IntKind.i64 s11),V.lit (Value.int IntKind.i64 s12),V.lit (Value.int IntKind.i64 s13),V.lit (Value.int IntKind.i64 s14),V.ro (List.map an s15),V.ro (List.map (aG IntKind.u64) s16),V.ro (List.map aH s17),V.ro (List.map bL s9)]]⟩=ob (bz k   n s9 s10 s15 s50) fun r=>some ((V.lit (Value.int IntKind.i64 r),[B.box [V.lit (Value.int IntKind.i64 s11),V.lit (Value.int IntKind.i64 s12),V.lit (Value.int IntKind.i64 s13),V.lit (Value.int IntKind.i64 s14),V.ro (List.map an s15),V.ro (List.map (aG IntKind.u64) s16),V.ro (List.map aH s17),V.ro (List.map bL s9)],B.box [V.lit (Value.bool false)],B.box [V.lit (Value.int IntKind.i64 s11),V.lit (Value.int IntKind.i64 s12),V.lit (Value.int IntKind.i64 s13),V.lit (Value.int IntKind.i64 s14),V.ro (List.map an s15),V.ro (List.map (aG IntKind.u64) s16),V.ro (List.map aH s17),V.ro (List.map bL s9)]])):=by
 intro n
 induction n with
 | zero=>intros;rfl
 | succ n ih=>
  intro s9 s10 s15 s50 s11 s12 s13 s14 s16 s17 j49
  rw [bz]
  simp (maxSteps:=2000000) -implicitDefEqProofs only [YV,Yk,Uu,A5,By,BM,dw,dy,iM,iQ,m7,Y1,XV,aM (g:=51),Za,Vh,Y3,Ut,Aa,Av,xO,BN,Bd,xZ,xK,Ar,iw,Y7,W5,Al,iU,YZ,Wj,Y8,X0,Us,Bl,Bu,ix,iC,Zc,WS,V2,Bx,iO,Y5,Wx,Yf,AJ,iZ,↓syP,syA,syD,Nat.reduceAdd,Nat.reduceSub,Nat.reduceMul,Nat.reduceLT,Nat.reduceLeDiff,Nat.reduceEqDiff,Nat.reduceBEq,Nat.reduceBNe,Int.reduceBEq,Int.reduceBNe,Int.reduceLT,Int.reduceLE,Int.reduceAdd,Int.reduceSub,Int.reduceNeg,syE,ai,ag,af,syW,xQ,l8,Pn,ih]
  all_goals simp -implicitDefEqProofs only [List.map_nil]
def dp (k:Nat) (v0:((Int×Int×Int×Int)×List (Int×List Int)×List Int×List (Int×List (Int×Int×Int)×(Int×Int×Int×Int×Int×Int×Int)×Int×Int)×List (Int×List Int×Int×Int×Int×Int×Int×Int×Int)))  : Nat→Int→Option Bool
 | 0,_=>none
 | n+1,s67=>
 bif decide (s67<(↑v0.2.2.2.1.length:Int)) then
 ob (idx v0.2.2.2.1 s67) fun x75=>
 ob (go (k+(9:Nat)) (v0.1.1,v0.1.2.1,v0.1.2.2.1,v0.1.2.2.2) v0.2.1 v0.2.2.1 s67 (x75.1,x75.2.1,(x75.2.2.1.1,x75.2.2.1.2.1,x75.2.2.1.2.2.1,x75.2.2.1.2.2.2.1,x75.2.2.1.2.2.2.2.1,x75.2.2.1.2.2.2.2.2.1,x75.2.2.1.2.2.2.2.2.2),x75.2.2.2.1,x75.2.2.2.2)) fun x76=>
 bif !x76 then
 some (false)
 else
 dp k v0  n (IntKind.i64.wrap (s67+(1:Int)))
 else
 ob (bz k (k+(32:Nat)) v0.2.2.2.2 (↑v0.2.2.2.2.length:Int) v0.2.1 (0:Int)) fun x77=>
 some (!decide ((0:Int)≤x77))
theorem oD (k:Nat) (v0_0_0 v0_0_1 v0_0_2 v0_0_3:Int) (v0_1:List (Int×List Int)) (v0_2:List Int) (v0_3:List (Int×List (Int×Int×Int)×(Int×Int×Int×Int×Int×Int×Int)×Int×Int)) (v0_4:List (Int×List Int×Int×Int×Int×Int×Int×Int×Int)):∀ (n:Nat) (s67:Int) ⦃s3:Bool⦄ ⦃s4:Bool⦄ ⦃j65 j66:V⦄,rt none (bq (itX (xX (xS (k+(33:Nat))) (94:Nat) (0:Nat) (k+(33:Nat)) false) ol ((4:Nat)) (au (xX (xS (k+(33:Nat))) (94:Nat) (0:Nat) (k+(33:Nat)) false) (aA (xS (k+(33:Nat))).P Tryz.f94) EH) n ⟨[V.yld (3:Nat),V.ptr (2:Nat) (0:Nat) (0:Nat) (0:Nat),uu,j65,j66,V.ptr (2:Nat) (0:Nat) (0:Nat) (6:Nat),V.ro (List.map aH v0_3),V.lit (Value.int IntKind.i64 (↑v0_3.length:Int)),V.lit (Value.int IntKind.i64 s67),V.junk,V.junk,V.junk,V.junk,V.junk,V.junk,V.junk,V.junk,V.junk,V.junk,V.junk,V.junk,V.junk,V.junk,V.junk,V.junk,V.junk,V.junk,V.junk,V.junk,V.junk],[B.box [V.lit (Value.int IntKind.i64 v0_0_0),V.lit (Value.int IntKind.i64 v0_0_1),V.lit (Value.int IntKind.i64 v0_0_2),V.lit (Value.int IntKind.i64 v0_0_3),V.ro (List.map an v0_1),V.ro (List.map (aG IntKind.u64) v0_2),V.ro (List.map aH v0_3),V.ro (List.map bL v0_4)],B.box [V.lit (Value.bool false)],B.box [V.lit (Value.int IntKind.i64 v0_0_0),V.lit (Value.int IntKind.i64 v0_0_1),V.lit (Value.int IntKind.i64 v0_0_2),V.lit (Value.int IntKind.i64 v0_0_3),V.ro (List.map an v0_1),V.ro (List.map (aG IntKind.u64) v0_2),V.ro (List.map aH v0_3),V.ro (List.map bL v0_4)],(B.loop ⟨LoopState.ready,none,(20:Nat),[V.agg [V.lit (Value.int IntKind.i64 v0_0_0),V.lit (Value.int IntKind.i64 v0_0_1),V.lit (Value.int IntKind.i64 v0_0_2),V.lit (Value.int IntKind.i64 v0_0_3),V.ro (List.map an v0_1),V.ro (List.map (aG IntKind.u64) v0_2),V.ro (List.map aH v0_3),V.ro (List.map bL v0_4)],V.ptr (0:Nat) (0:Nat) (0:Nat) (0:Nat),V.ptr (1:Nat) (0:Nat) (0:Nat) (0:Nat),V.ptr (0:Nat) (0:Nat) (0:Nat) (0:Nat),V.agg [V.lit (Value.int IntKind.i64 v0_0_0),V.lit (Value.int IntKind.i64 v0_0_1),V.lit (Value.int IntKind.i64 v0_0_2),V.lit (Value.int IntKind.i64 v0_0_3)],V.lit (Value.bool s3),V.lit (Value.bool s4),V.lit (Value.bool false),V.ptr (0:Nat) (0:Nat) (0:Nat) (6:Nat),V.ro (List.map aH v0_3),V.lit (Value.int IntKind.i64 (↑v0_3.length:Int)),V.ptr (0:Nat) (0:Nat) (0:Nat) (0:Nat),V.ptr (0:Nat) (0:Nat) (0:Nat) (0:Nat),V.lit (Value.int IntKind.i64 v0_0_0),V.lit (Value.bool ((↑v0_3.length:Int)!=v0_0_0)),V.lit (Value.bool ((↑v0_3.length:Int)!=v0_0_0)),V.lit (Value.bool false),V.ptr (0:Nat) (0:Nat) (0:Nat) (7:Nat),V.ro (List.map bL v0_4),V.lit (Value.int IntKind.i64 (↑v0_4.length:Int)),V.lit (Value.bool (decide ((3:Int)<(↑v0_4.length:Int)))),V.lit (Value.bool (decide ((3:Int)<(↑v0_4.length:Int)))),V.agg [V.lit (Value.int IntKind.i64 v0_0_0),V.lit (Value.int IntKind.i64 v0_0_1),V.lit (Value.int IntKind.i64 v0_0_2),V.lit (Value.int IntKind.i64 v0_0_3),V.ro (List.map an v0_1),V.ro (List.map (aG IntKind.u64) v0_2),V.ro (List.map aH v0_3),V.ro (List.map bL v0_4)],V.fn (Fn.func (94:FuncId)) [] [V.ptr (2:Nat) (0:Nat) (0:Nat) (0:Nat)],uu,uu,uu,uu,uu,uu],[(24:Tmp)],Jt,II⟩)]⟩) (rfK (au (xX (xS (k+(34:Nat))) (20:Nat) (0:Nat) (k+(34:Nat)) false) (aA (xS (k+(34:Nat))).P Tryz.f20) En) [V.agg [V.lit (Value.int IntKind.i64 v0_0_0),V.lit (Value.int IntKind.i64 v0_0_1),V.lit (Value.int IntKind.i64 v0_0_2),V.lit (Value.int IntKind.i64 v0_0_3),V.ro (List.map an v0_1),V.ro (List.map (aG IntKind.u64) v0_2),V.ro (List.map aH v0_3),V.ro (List.map bL v0_4)],V.ptr (0:Nat) (0:Nat) (0:Nat) (0:Nat),V.ptr (1:Nat) (0:Nat) (0:Nat) (0:Nat),V.ptr (0:Nat) (0:Nat) (0:Nat) (0:Nat),V.agg [V.lit (Value.int IntKind.i64 v0_0_0),V.lit (Value.int IntKind.i64 v0_0_1),V.lit (Value.int IntKind.i64 v0_0_2),V.lit (Value.int IntKind.i64 v0_0_3)],V.lit (Value.bool s3),V.lit (Value.bool s4),V.lit (Value.bool false),V.ptr (0:Nat) (0:Nat) (0:Nat) (6:Nat),V.ro (List.map aH v0_3),V.lit (Value.int IntKind.i64 (↑v0_3.length:Int)),V.ptr (0:Nat) (0:Nat) (0:Nat) (0:Nat),V.ptr (0:Nat) (0:Nat) (0:Nat) (0:Nat),V.lit (Value.int IntKind.i64 v0_0_0),V.lit (Value.bool ((↑v0_3.length:Int)!=v0_0_0)),V.lit (Value.bool ((↑v0_3.length:Int)!=v0_0_0)),V.lit (Value.bool false),V.ptr (0:Nat) (0:Nat) (0:Nat) (7:Nat),V.ro (List.map bL v0_4),V.lit (Value.int IntKind.i64 (↑v0_4.length:Int)),V.lit (Value.bool (decide ((3:Int)<(↑v0_4.length:Int)))),V.lit (Value.bool (decide ((3:Int)<(↑v0_4.length:Int)))),V.agg [V.lit (Value.int IntKind.i64 v0_0_0),V.lit (Value.int IntKind.i64 v0_0_1),V.lit (Value.int IntKind.i64 v0_0_2),V.lit (Value.int IntKind.i64 v0_0_3),V.ro (List.map an v0_1),V.ro (List.map (aG IntKind.u64) v0_2),V.ro (List.map aH v0_3),V.ro (List.map bL v0_4)],V.fn (Fn.func (94:FuncId)) [] [V.ptr (2:Nat) (0:Nat) (0:Nat) (0:Nat)],uu,uu,uu,uu,uu,uu] ((3:Nat))))=ob (dp k ((v0_0_0,v0_0_1,v0_0_2,v0_0_3),v0_1,v0_2,v0_3,v0_4)  n s67) fun r=>some ((.lit (.bool r)),[]):=by
 intro n
 induction n with
 | zero=>intros;rfl
 | succ n ih=>
  intro s67 s3 s4 j65 j66
  rw [dp]
  simp (maxSteps:=2000000) -implicitDefEqProofs only [YV,Yk,Uu,A5,By,BM,dw,dy,iM,iQ,m7,Y1,XV,aM (g:=51),Za,Vh,Y3,Ut,Aa,Av,xO,BN,Bd,xZ,xK,Ar,iw,Y7,W5,Al,iU,YZ,Wj,Y8,X0,Us,Bl,Bu,ix,iC,Zc,WS,V2,Bx,iO,Y5,Wx,Yf,AJ,iZ,↓syP,syA,syD,Nat.reduceAdd,Nat.reduceSub,Nat.reduceMul,Nat.reduceLT,Nat.reduceLeDiff,Nat.reduceEqDiff,Nat.reduceBEq,Nat.reduceBNe,Int.reduceBEq,Int.reduceBNe,Int.reduceLT,Int.reduceLE,Int.reduceAdd,Int.reduceSub,Int.reduceNeg,syE,ai,ag,af,syW,xQ,bT,us,lU,OU,ih]
  all_goals simp -implicitDefEqProofs only [List.map_nil]
def iE (k:Nat) (v0:((Int×Int×Int×Int)×List (Int×List Int)×List Int×List (Int×List (Int×Int×Int)×(Int×Int×Int×Int×Int×Int×Int)×Int×Int)×List (Int×List Int×Int×Int×Int×Int×Int×Int×Int))):Option Bool:=
 ob (bK v0.1) fun x78=>
 bif !x78 then
 some false
 else
 bif (↑v0.2.2.2.1.length:Int)!=v0.1.1 then
 some false
 else
 bif decide (3<(↑v0.2.2.2.2.length:Int)) then
 some false
 else
 dp k v0 (k+33) 0
theorem uG (k:Nat) (v0_0_0 v0_0_1 v0_0_2 v0_0_3:Int) (v0_1:List (Int×List Int)) (v0_2:List Int) (v0_3:List (Int×List (Int×Int×Int)×(Int×Int×Int×Int×Int×Int×Int)×Int×Int)) (v0_4:List (Int×List Int×Int×Int×Int×Int×Int×Int×Int)):xC (k+35) none 20 [.agg [.lit (.int .i64 v0_0_0),.lit (.int .i64 v0_0_1),.lit (.int .i64 v0_0_2),.lit (.int .i64 v0_0_3),.ro (List.map an v0_1),.ro (List.map (aG .u64) v0_2),.ro (List.map aH v0_3),.ro (List.map bL v0_4)]]=ob (iE k ((v0_0_0,v0_0_1,v0_0_2,v0_0_3),v0_1,v0_2,v0_3,v0_4)) fun r=>some ((.lit (.bool r)),[]):=by
 rw [aM]
 unfold iE
 simp (maxSteps:=2000000) -implicitDefEqProofs only [YV,Yk,Uu,A5,By,BM,dw,dy,iM,iQ,m7,Y1,XV,aM (g:=51),Za,Vh,Y3,Ut,Aa,Av,xO,BN,Bd,xZ,xK,Ar,iw,Y7,W5,Al,iU,YZ,Wj,Y8,X0,Us,Bl,Bu,ix,iC,Zc,WS,V2,Bx,iO,Y5,Wx,Yf,AJ,iZ,↓syP,syA,syD,Nat.reduceAdd,Nat.reduceSub,Nat.reduceMul,Nat.reduceLT,Nat.reduceLeDiff,Nat.reduceEqDiff,Nat.reduceBEq,Nat.reduceBNe,Int.reduceBEq,Int.reduceBNe,Int.reduceLT,Int.reduceLE,Int.reduceAdd,Int.reduceSub,Int.reduceNeg,syE,ai,ag,af,syW,xQ,bT,oD k v0_0_0 v0_0_1 v0_0_2 v0_0_3 v0_1 v0_2 v0_3 v0_4]
 all_goals simp -implicitDefEqProofs only [List.map_nil]
end Go.Ab
set_option maxRecDepth 100000
set_option linter.unusedVariables false
set_option linter.unusedSimpArgs false
namespace Go.Ab
open Go.Proofs
def cg (k:Nat)   : Nat→Int→Int→Int→Int→List (Int×List Int)→List Int→List (Int×List (Int×Int×Int)×(Int×Int×Int×Int×Int×Int×Int)×Int×Int)→List (Int×List Int×Int×Int×Int×Int×Int×Int×Int)→Int→List (Int×List (Int×Int×Int)×(Int×Int×Int×Int×Int×Int×Int)×Int×Int)→Int→List (Int×List Int×Int×Int×Int×Int×Int×Int×Int)→Option (Int×Int×Int×Int×List (Int×List Int)×List Int×List (Int×List (Int×Int×Int)×(Int×Int×Int×Int×Int×Int×Int)×Int×Int)×List (Int×List Int×Int×Int×Int×Int×Int×Int×Int)×List (Int×List (Int×Int×Int)×(Int×Int×Int×Int×Int×Int×Int)×Int×Int)×List (Int×List Int×Int×Int×Int×Int×Int×Int×Int))
 | 0,_,_,_,_,_,_,_,_,_,_,_,_=>none
 | n+1,s26,s27,s28,s29,s34,s35,s36,s37,s39,s47,s49,s50=>
 bif decide (s49<s39) then
 bif decide ((0:Int)≤s49∧s49.toNat<s37.length) then
 ob (s50[s49.toNat]?) fun x76=>
 ob (aJ (8:Nat) x76.2.1) fun x77=>
 bif decide ((0:Int)≤s49∧s49.toNat<s37.length) then
 ob (s50[s49.toNat]?) fun x78=>
 cg k   n (s26) (s27) (s28) (s29) (s34) (s35) (s36) (s37) (s39) (s47) (IntKind.i64.wrap (s49+(1:Int))) (s50.set s49.toNat (x78.1,x77,x78.2.2.1,x78.2.2.2.1,x78.2.2.2.2.1,x78.2.2.2.2.2.1,x78.2.2.2.2.2.2.1,x78.2.2.2.2.2.2.2.1,x78.2.2.2.2.2.2.2.2))
 else
 none
 else
 none
 else
 some (s26,s27,s28,s29,s34,s35,s36,s37,s47,s50)
theorem mi (k:Nat)  : ∀ (n:Nat) (s26:Int) (s27:Int) (s28:Int) (s29:Int) (s34:List (Int×List Int)) (s35:List Int) (s36:List (Int×List (Int×Int×Int)×(Int×Int×Int×Int×Int×Int×Int)×Int×Int)) (s37:List (Int×List Int×Int×Int×Int×Int×Int×Int×Int)) (s39:Int) (s47:List (Int×List (Int×Int×Int)×(Int×Int×Int×Int×Int×Int×Int)×Int×Int)) (s49:Int) (s50:List (Int×List Int×Int×Int×Int×Int×Int×Int×Int)) ⦃s30:List (Int×List Int)⦄ ⦃s31:List Int⦄ ⦃s32:List (Int×List (Int×Int×Int)×(Int×Int×Int×Int×Int×Int×Int)×Int×Int)⦄ ⦃s33:List (Int×List Int×Int×Int×Int×Int×Int×Int×Int)⦄ ⦃s38:Int⦄ ⦃j46 j48:V⦄,itX (xX (xS (k+(61:Nat))) (41:Nat) (0:Nat) (k+(61:Nat)) false) EW ((8:Nat)) (au (xX (xS (k+(61:Nat))) (41:Nat) (0:Nat) (k+(61:Nat)) false) (aA (xS (k+(61:Nat))).P Tryz.f41) Ek) n ⟨[V.agg [V.lit (Value.int IntKind.i64 s26),V.lit (Value.int IntKind.i64 s27),V.lit (Value.int IntKind.i64 s28),V.lit (Value.int IntKind.i64 s29),V.ro (List.map an s30),V.ro (List.map (aG IntKind.u64) s31),V.ro (List.map aH s32),V.ro (List.map bL s33)],V.ptr (0:Nat) (0:Nat) (0:Nat) (0:Nat),V.ptr (5:Nat) (0:Nat) (0:Nat) (0:Nat),j46,j48,V.ptr (0:Nat) (0:Nat) (0:Nat) (4:Nat),V.ro (List.map an s30),V.ro (List.map an s34),V.ptr (0:Nat) (0:Nat) (0:Nat) (5:Nat),V.ro (List.map (aG IntKind.u64) s31),V.ro (List.map (aG IntKind.u64) s35),V.ptr (0:Nat) (0:Nat) (0:Nat) (4:Nat),V.ptr (0:Nat) (0:Nat) (0:Nat) (5:Nat),V.ptr (0:Nat) (0:Nat) (0:Nat) (6:Nat),V.ro (List.map aH s32),V.own (6:Nat) (0:Nat) s36.length,V.ptr (0:Nat) (0:Nat) (0:Nat) (7:Nat),V.ro (List.map bL s33),V.own (7:Nat) (0:Nat) s37.length,V.ptr (0:Nat) (0:Nat) (0:Nat) (6:Nat),V.ptr (0:Nat) (0:Nat) (0:Nat) (7:Nat),V.ptr (0:Nat) (0:Nat) (0:Nat) (6:Nat),V.own (6:Nat) (0:Nat) s36.length,V.lit (Value.int IntKind.i64 s38),V.junk,V.junk,V.junk,V.junk,V.junk,V.junk,V.junk,V.junk,V.junk,V.junk,V.junk,V.junk,V.junk,V.junk,V.junk,V.junk,V.ptr (0:Nat) (0:Nat) (0:Nat) (7:Nat),V.own (7:Nat) (0:Nat) s37.length,V.lit (Value.int IntKind.i64 s39),V.lit (Value.int IntKind.i64 s49),V.junk,V.junk,V.junk,V.junk,V.junk,V.junk,V.junk,V.junk,V.junk,V.junk,V.junk,V.junk,V.junk,V.junk,V.junk,uu],[B.box [V.lit (Value.int IntKind.i64 s26),V.lit (Value.int IntKind.i64 s27),V.lit (Value.int IntKind.i64 s28),V.lit (Value.int IntKind.i64 s29),V.ro (List.map an s34),V.ro (List.map (aG IntKind.u64) s35),V.own (6:Nat) (0:Nat) s36.length,V.own (7:Nat) (0:Nat) s37.length],B.rows (0:Nat) [] (0:Nat) true,B.rows (0:Nat) [] (0:Nat) true,B.rows (0:Nat) [] (0:Nat) true,B.rows (0:Nat) [] (0:Nat) true,B.box [V.lit (Value.int IntKind.i64 (0:Int)),V.lit (Value.int IntKind.i64 (0:Int)),V.lit (Value.int IntKind.i64 (0:Int)),V.lit (Value.int IntKind.i64 (0:Int)),V.own (1:Nat) (0:Nat) (0:Nat),V.own (2:Nat) (0:Nat) (0:Nat),V.own (3:Nat) (0:Nat) (0:Nat),V.own (4:Nat) (0:Nat) (0:Nat)],B.rows (11:Nat) (List.map aH s47) (0:Nat) true,B.rows (9:Nat) (List.map bL s50) (0:Nat) true]⟩=ob (cg k   n s26 s27 s28 s29 s34 s35 s36 s37 s39 s47 s49 s50) fun r=>some ((V.agg [V.lit (Value.int IntKind.i64 r.1),V.lit (Value.int IntKind.i64 r.2.1),V.lit (Value.int IntKind.i64 r.2.2.1),V.lit (Value.int IntKind.i64 r.2.2.2.1),V.ro (List.map an r.2.2.2.2.1),V.ro (List.map (aG IntKind.u64) r.2.2.2.2.2.1),V.own (6:Nat) (0:Nat) r.2.2.2.2.2.2.1.length,V.own (7:Nat) (0:Nat) r.2.2.2.2.2.2.2.1.length],[B.box [V.lit (Value.int IntKind.i64 r.1),V.lit (Value.int IntKind.i64 r.2.1),V.lit (Value.int IntKind.i64 r.2.2.1),V.lit (Value.int IntKind.i64 r.2.2.2.1),V.ro (List.map an r.2.2.2.2.1),V.ro (List.map (aG IntKind.u64) r.2.2.2.2.2.1),V.own (6:Nat) (0:Nat) r.2.2.2.2.2.2.1.length,V.own (7:Nat) (0:Nat) r.2.2.2.2.2.2.2.1.length],B.rows (0:Nat) [] (0:Nat) true,B.rows (0:Nat) [] (0:Nat) true,B.rows (0:Nat) [] (0:Nat) true,B.rows (0:Nat) [] (0:Nat) true,B.box [V.lit (Value.int IntKind.i64 r.1),V.lit (Value.int IntKind.i64 r.2.1),V.lit (Value.int IntKind.i64 r.2.2.1),V.lit (Value.int IntKind.i64 r.2.2.2.1),V.ro (List.map an r.2.2.2.2.1),V.ro (List.map (aG IntKind.u64) r.2.2.2.2.2.1),V.own (6:Nat) (0:Nat) r.2.2.2.2.2.2.1.length,V.own (7:Nat) (0:Nat) r.2.2.2.2.2.2.2.1.length],B.rows (11:Nat) (List.map aH r.2.2.2.2.2.2.2.2.1) (0:Nat) true,B.rows (9:Nat) (List.map bL r.2.2.2.2.2.2.2.2.2) (0:Nat) true])):=by
 intro n
 induction n with
 | zero=>intros;rfl
 | succ n ih=>
  intro s26 s27 s28 s29 s34 s35 s36 s37 s39 s47 s49 s50 s30 s31 s32 s33 s38 j46 j48
  rw [cg]
  simp (maxSteps:=2000000) -implicitDefEqProofs only [Zj,Yd,Vc,AV,io,Zf,T6,UJ,xU,AB,iH,iD,aM (g:=41),YX,Vw,AS,iJ,YU,Xp,Zi,XY,Zd,Vt,↓syP,syA,syD,Nat.reduceAdd,Nat.reduceSub,Nat.reduceMul,Nat.reduceLT,Nat.reduceLeDiff,Nat.reduceEqDiff,Nat.reduceBEq,Nat.reduceBNe,Int.reduceBEq,Int.reduceBNe,Int.reduceLT,Int.reduceLE,Int.reduceAdd,Int.reduceSub,Int.reduceNeg,syE,ai,ag,af,syW,xQ,O3,ih]
  all_goals simp -implicitDefEqProofs only [List.map_nil]
def b8 (k:Nat)   : Nat→Int→Int→Int→Int→List (Int×List Int)→List Int→List (Int×List (Int×Int×Int)×(Int×Int×Int×Int×Int×Int×Int)×Int×Int)→List (Int×List Int×Int×Int×Int×Int×Int×Int×Int)→Int→Int→List (Int×List (Int×Int×Int)×(Int×Int×Int×Int×Int×Int×Int)×Int×Int)→Option (Int×Int×Int×Int×List (Int×List Int)×List Int×List (Int×List (Int×Int×Int)×(Int×Int×Int×Int×Int×Int×Int)×Int×Int)×List (Int×List Int×Int×Int×Int×Int×Int×Int×Int)×List (Int×List (Int×Int×Int)×(Int×Int×Int×Int×Int×Int×Int)×Int×Int)×List (Int×List Int×Int×Int×Int×Int×Int×Int×Int))
 | 0,_,_,_,_,_,_,_,_,_,_,_=>none
 | n+1,s6,s7,s8,s9,s14,s15,s16,s17,s18,s23,s24=>
 bif decide (s23<s18) then
 bif decide ((0:Int)≤s23∧s23.toNat<s16.length) then
 ob (s24[s23.toNat]?) fun x70=>
 ob (aJ (24:Nat) x70.2.1) fun x71=>
 bif decide ((0:Int)≤s23∧s23.toNat<s16.length) then
 ob (s24[s23.toNat]?) fun x72=>
 b8 k   n (s6) (s7) (s8) (s9) (s14) (s15) (s16) (s17) (s18) (IntKind.i64.wrap (s23+(1:Int))) (s24.set s23.toNat (x72.1,x71,(x72.2.2.1.1,x72.2.2.1.2.1,x72.2.2.1.2.2.1,x72.2.2.1.2.2.2.1,x72.2.2.1.2.2.2.2.1,x72.2.2.1.2.2.2.2.2.1,x72.2.2.1.2.2.2.2.2.2),x72.2.2.2.1,x72.2.2.2.2))
 else
 none
 else
 none
 else
 cg k  (k+(61:Nat)) (s6) (s7) (s8) (s9) (s14) (s15) (s16) (s17) ((↑s17.length:Int)) (s24) ((0:Int)) (s17)
theorem gF (k:Nat)  : ∀ (n:Nat) (s6:Int) (s7:Int) (s8:Int) (s9:Int) (s14:List (Int×List Int)) (s15:List Int) (s16:List (Int×List (Int×Int×Int)×(Int×Int×Int×Int×Int×Int×Int)×Int×Int)) (s17:List (Int×List Int×Int×Int×Int×Int×Int×Int×Int)) (s18:Int) (s23:Int) (s24:List (Int×List (Int×Int×Int)×(Int×Int×Int×Int×Int×Int×Int)×Int×Int)) ⦃s10:List (Int×List Int)⦄ ⦃s11:List Int⦄ ⦃s12:List (Int×List (Int×Int×Int)×(Int×Int×Int×Int×Int×Int×Int)×Int×Int)⦄ ⦃s13:List (Int×List Int×Int×Int×Int×Int×Int×Int×Int)⦄ ⦃j22:V⦄,itX (xX (xS (k+(61:Nat))) (41:Nat) (0:Nat) (k+(61:Nat)) false) EN ((8:Nat)) (au (xX (xS (k+(61:Nat))) (41:Nat) (0:Nat) (k+(61:Nat)) false) (aA (xS (k+(61:Nat))).P Tryz.f41) Eo) n ⟨[V.agg [V.lit (Value.int IntKind.i64 s6),V.lit (Value.int IntKind.i64 s7),V.lit (Value.int IntKind.i64 s8),V.lit (Value.int IntKind.i64 s9),V.ro (List.map an s10),V.ro (List.map (aG IntKind.u64) s11),V.ro (List.map aH s12),V.ro (List.map bL s13)],V.ptr (0:Nat) (0:Nat) (0:Nat) (0:Nat),V.ptr (5:Nat) (0:Nat) (0:Nat) (0:Nat),j22,uu,V.ptr (0:Nat) (0:Nat) (0:Nat) (4:Nat),V.ro (List.map an s10),V.ro (List.map an s14),V.ptr (0:Nat) (0:Nat) (0:Nat) (5:Nat),V.ro (List.map (aG IntKind.u64) s11),V.ro (List.map (aG IntKind.u64) s15),V.ptr (0:Nat) (0:Nat) (0:Nat) (4:Nat),V.ptr (0:Nat) (0:Nat) (0:Nat) (5:Nat),V.ptr (0:Nat) (0:Nat) (0:Nat) (6:Nat),V.ro (List.map aH s12),V.own (6:Nat) (0:Nat) s16.length,V.ptr (0:Nat) (0:Nat) (0:Nat) (7:Nat),V.ro (List.map bL s13),V.own (7:Nat) (0:Nat) s17.length,V.ptr (0:Nat) (0:Nat) (0:Nat) (6:Nat),V.ptr (0:Nat) (0:Nat) (0:Nat) (7:Nat),V.ptr (0:Nat) (0:Nat) (0:Nat) (6:Nat),V.own (6:Nat) (0:Nat) s16.length,V.lit (Value.int IntKind.i64 s18),V.lit (Value.int IntKind.i64 s23),V.junk,V.junk,V.junk,V.junk,V.junk,V.junk,V.junk,V.junk,V.junk,V.junk,V.junk,V.junk,V.junk,V.junk,V.junk,uu,uu,uu,uu,uu,uu,uu,uu,uu,uu,uu,uu,uu,uu,uu,uu,uu,uu,uu,uu],[B.box [V.lit (Value.int IntKind.i64 s6),V.lit (Value.int IntKind.i64 s7),V.lit (Value.int IntKind.i64 s8),V.lit (Value.int IntKind.i64 s9),V.ro (List.map an s14),V.ro (List.map (aG IntKind.u64) s15),V.own (6:Nat) (0:Nat) s16.length,V.own (7:Nat) (0:Nat) s17.length],B.rows (0:Nat) [] (0:Nat) true,B.rows (0:Nat) [] (0:Nat) true,B.rows (0:Nat) [] (0:Nat) true,B.rows (0:Nat) [] (0:Nat) true,B.box [V.lit (Value.int IntKind.i64 (0:Int)),V.lit (Value.int IntKind.i64 (0:Int)),V.lit (Value.int IntKind.i64 (0:Int)),V.lit (Value.int IntKind.i64 (0:Int)),V.own (1:Nat) (0:Nat) (0:Nat),V.own (2:Nat) (0:Nat) (0:Nat),V.own (3:Nat) (0:Nat) (0:Nat),V.own (4:Nat) (0:Nat) (0:Nat)],B.rows (11:Nat) (List.map aH s24) (0:Nat) true,B.rows (9:Nat) (List.map bL s17) (0:Nat) true]⟩=ob (b8 k   n s6 s7 s8 s9 s14 s15 s16 s17 s18 s23 s24) fun r=>some ((V.agg [V.lit (Value.int IntKind.i64 r.1),V.lit (Value.int IntKind.i64 r.2.1),V.lit (Value.int IntKind.i64 r.2.2.1),V.lit (Value.int IntKind.i64 r.2.2.2.1),V.ro (List.map an r.2.2.2.2.1),V.ro (List.map (aG IntKind.u64) r.2.2.2.2.2.1),V.own (6:Nat) (0:Nat) r.2.2.2.2.2.2.1.length,V.own (7:Nat) (0:Nat) r.2.2.2.2.2.2.2.1.length],[B.box [V.lit (Value.int IntKind.i64 r.1),V.lit (Value.int IntKind.i64 r.2.1),V.lit (Value.int IntKind.i64 r.2.2.1),V.lit (Value.int IntKind.i64 r.2.2.2.1),V.ro (List.map an r.2.2.2.2.1),V.ro (List.map (aG IntKind.u64) r.2.2.2.2.2.1),V.own (6:Nat) (0:Nat) r.2.2.2.2.2.2.1.length,V.own (7:Nat) (0:Nat) r.2.2.2.2.2.2.2.1.length],B.rows (0:Nat) [] (0:Nat) true,B.rows (0:Nat) [] (0:Nat) true,B.rows (0:Nat) [] (0:Nat) true,B.rows (0:Nat) [] (0:Nat) true,B.box [V.lit (Value.int IntKind.i64 r.1),V.lit (Value.int IntKind.i64 r.2.1),V.lit (Value.int IntKind.i64 r.2.2.1),V.lit (Value.int IntKind.i64 r.2.2.2.1),V.ro (List.map an r.2.2.2.2.1),V.ro (List.map (aG IntKind.u64) r.2.2.2.2.2.1),V.own (6:Nat) (0:Nat) r.2.2.2.2.2.2.1.length,V.own (7:Nat) (0:Nat) r.2.2.2.2.2.2.2.1.length],B.rows (11:Nat) (List.map aH r.2.2.2.2.2.2.2.2.1) (0:Nat) true,B.rows (9:Nat) (List.map bL r.2.2.2.2.2.2.2.2.2) (0:Nat) true])):=by
 intro n
 induction n with
 | zero=>intros;rfl
 | succ n ih=>
  intro s6 s7 s8 s9 s14 s15 s16 s17 s18 s23 s24 s10 s11 s12 s13 j22
  rw [b8]
  simp (maxSteps:=2000000) -implicitDefEqProofs only [Zj,Yd,Vc,AV,io,Zf,T6,UJ,xU,AB,iH,iD,aM (g:=41),YX,Vw,AS,iJ,YU,Xp,Zi,XY,Zd,Vt,↓syP,syA,syD,Nat.reduceAdd,Nat.reduceSub,Nat.reduceMul,Nat.reduceLT,Nat.reduceLeDiff,Nat.reduceEqDiff,Nat.reduceBEq,Nat.reduceBNe,Int.reduceBEq,Int.reduceBNe,Int.reduceLT,Int.reduceLE,Int.reduceAdd,Int.reduceSub,Int.reduceNeg,syE,ai,ag,af,syW,xQ,Ov,ih,mi k ]
  all_goals simp -implicitDefEqProofs only [List.map_nil]
def bo (k:Nat) (v0:((Int×Int×Int×Int)×List (Int×List Int)×List Int×List (Int×List (Int×Int×Int)×(Int×Int×Int×Int×Int×Int×Int)×Int×Int)×List (Int×List Int×Int×Int×Int×Int×Int×Int×Int))) (v1:(List (Int×Int×Int)))  : Nat→Int→Int→Int→Int→List (Int×List Int)→List (Int×List (Int×Int×Int)×(Int×Int×Int×Int×Int×Int×Int)×Int×Int)→List (Int×List Int×Int×Int×Int×Int×Int×Int×Int)→List (Int×List (Int×Int×Int)×(Int×Int×Int×Int×Int×Int×Int)×Int×Int)→List (Int×List Int×Int×Int×Int×Int×Int×Int×Int)→List (Int×Int×Int)→Int→List Int→Nat→Option (((Int×Int×Int×Int)×List (Int×List Int)×List Int×List (Int×List (Int×Int×Int)×(Int×Int×Int×Int×Int×Int×Int)×Int×Int)×List (Int×List Int×Int×Int×Int×Int×Int×Int×Int))×(List (Int×Int×Int)))
 | 0,_,_,_,_,_,_,_,_,_,_,_,_,_=>none
 | n+1,s86,s87,s88,s89,s90,s92,s93,s96,s97,s116,s118,s119,s120=>
 bif decide (s118<(↑v1.length:Int)) then
 ob (idx v1 s118) fun x149=>
 ob (gP (x149.1,x149.2.1,x149.2.2) v0.1.1 (↑v0.2.2.2.2.length:Int)) fun x150=>
 bif x150 then
 bif x149.1==(0:Int) then
 bif decide ((0:Int)≤x149.2.1∧x149.2.1.toNat<s92.length) then
 ob (s96[x149.2.1.toNat]?) fun x151=>
 ob (gK k (s86,s87,s88,s89) s90 s119 x149.2.1 (x151.1,x151.2.1,(x151.2.2.1.1,x151.2.2.1.2.1,x151.2.2.1.2.2.1,x151.2.2.1.2.2.2.1,x151.2.2.1.2.2.2.2.1,x151.2.2.1.2.2.2.2.2.1,x151.2.2.1.2.2.2.2.2.2),x151.2.2.2.1,x151.2.2.2.2) x149.2.2) fun x152=>
 bif decide ((0:Int)≤x149.2.1∧x149.2.1.toNat<s92.length) then
 ob (s96[x149.2.1.toNat]?) fun x153=>
 ck (s120==(3:Nat)||s120==(0:Nat)) (
 bif room (s116++x152.2.2).length (24:Nat) then
 bo k v0 v1  n (s86) (s87) (s88) (s89) (s90) (s92) (s93) (s96.set x149.2.1.toNat (x152.2.1.1,x152.2.1.2.1,(x152.2.1.2.2.1.1,x152.2.1.2.2.1.2.1,x152.2.1.2.2.1.2.2.1,x152.2.1.2.2.1.2.2.2.1,x152.2.1.2.2.1.2.2.2.2.1,x152.2.1.2.2.1.2.2.2.2.2.1,x152.2.1.2.2.1.2.2.2.2.2.2),x152.2.1.2.2.2.1,x152.2.1.2.2.2.2)) (s97) (s116++x152.2.2) (IntKind.i64.wrap (s118+(1:Int))) (x152.1) ((3:Nat))
 else
 none)
 else
 none
 else
 none
 else
 bif x149.1==(1:Int) then
 bif decide ((0:Int)≤x149.2.1∧x149.2.1.toNat<s93.length) then
 ob (s97[x149.2.1.toNat]?) fun x154=>
 ob (eL (k+(36:Nat)) (s86,s87,s88,s89) s90 s119 (x154.1,x154.2.1,x154.2.2.1,x154.2.2.2.1,x154.2.2.2.2.1,x154.2.2.2.2.2.1,x154.2.2.2.2.2.2.1,x154.2.2.2.2.2.2.2.1,x154.2.2.2.2.2.2.2.2)) fun x155=>
 bif x155 then
 bif decide ((0:Int)≤x149.2.1∧x149.2.1.toNat<s93.length) then
 ob (s97[x149.2.1.toNat]?) fun x156=>
 ob (eY (k+(20:Nat)) (s86,s87,s88,s89) s90 s119 x149.2.1 (x156.1,x156.2.1,x156.2.2.1,x156.2.2.2.1,x156.2.2.2.2.1,x156.2.2.2.2.2.1,x156.2.2.2.2.2.2.1,x156.2.2.2.2.2.2.2.1,x156.2.2.2.2.2.2.2.2)) fun x157=>
 bif decide ((0:Int)≤x149.2.1∧x149.2.1.toNat<s93.length) then
 ob (s97[x149.2.1.toNat]?) fun x158=>
 ck (s120==(3:Nat)||s120==(0:Nat)) (
 bif room (s116++x157.2.2).length (24:Nat) then
 bo k v0 v1  n (s86) (s87) (s88) (s89) (s90) (s92) (s93) (s96) (s97.set x149.2.1.toNat (x157.2.1.1,x157.2.1.2.1,x157.2.1.2.2.1,x157.2.1.2.2.2.1,x157.2.1.2.2.2.2.1,x157.2.1.2.2.2.2.2.1,x157.2.1.2.2.2.2.2.2.1,x157.2.1.2.2.2.2.2.2.2.1,x157.2.1.2.2.2.2.2.2.2.2)) (s116++x157.2.2) (IntKind.i64.wrap (s118+(1:Int))) (x157.1) ((3:Nat))
 else
 none)
 else
 none
 else
 none
 else
 ck (s120==(3:Nat)||s120==(0:Nat)) (
 bif room s116.length (24:Nat) then
 bo k v0 v1  n (s86) (s87) (s88) (s89) (s90) (s92) (s93) (s96) (s97) (s116) (IntKind.i64.wrap (s118+(1:Int))) (s119) ((3:Nat))
 else
 none)
 else
 none
 else
 bif x149.1==(2:Int) then
 ob (bk s119 (3:Int) (1:Int)) fun x159=>
 ck (s120==(3:Nat)||s120==(0:Nat)) (
 bif room s116.length (24:Nat) then
 bo k v0 v1  n (s86) (s87) (s88) (s89) (s90) (s92) (s93) (s96) (s97) (s116) (IntKind.i64.wrap (s118+(1:Int))) (x159) ((3:Nat))
 else
 none)
 else
 ck (s120==(3:Nat)||s120==(0:Nat)) (
 bif room s116.length (24:Nat) then
 bo k v0 v1  n (s86) (s87) (s88) (s89) (s90) (s92) (s93) (s96) (s97) (s116) (IntKind.i64.wrap (s118+(1:Int))) (s119) ((3:Nat))
 else
 none)
 else
 bo k v0 v1  n (s86) (s87) (s88) (s89) (s90) (s92) (s93) (s96) (s97) (s116) (IntKind.i64.wrap (s118+(1:Int))) (s119) (s120)
 else
 ck (decide (s92.length≤s96.length)) (
 ck (decide (s93.length≤s97.length)) (
 some ((((s86),(s87),(s88),(s89)),(s90),(s119),(List.take s92.length s96),(List.take s93.length s97)),(s116))))
theorem kx (k:Nat) (v0_0_0 v0_0_1 v0_0_2 v0_0_3:Int) (v0_1:List (Int×List Int)) (v0_2:List Int) (v0_3:List (Int×List (Int×Int×Int)×(Int×Int×Int×Int×Int×Int×Int)×Int×Int)) (v0_4:List (Int×List Int×Int×Int×Int×Int×Int×Int×Int)) (v1:List (Int×Int×Int)):∀ (n:Nat) (s86:Int) (s87:Int) (s88:Int) (s89:Int) (s90:List (Int×List Int)) (s92:List (Int×List (Int×Int×Int)×(Int×Int×Int×Int×Int×Int×Int)×Int×Int)) (s93:List (Int×List Int×Int×Int×Int×Int×Int×Int×Int)) (s96:List (Int×List (Int×Int×Int)×(Int×Int×Int×Int×Int×Int×Int)×Int×Int)) (s97:List (Int×List Int×Int×Int×Int×Int×Int×Int×Int)) (s116:List (Int×Int×Int)) (s118:Int) (s119:List Int) (s120:Nat) ⦃s91:List Int⦄ ⦃s94:Bool⦄ ⦃s95:Bool⦄ ⦃s115:Nat⦄ ⦃j117:V⦄,rt none (itX (xX (xS (k+(62:Nat))) (17:Nat) (0:Nat) (k+(62:Nat)) false) xT ((15:Nat)) (au (xX (xS (k+(62:Nat))) (17:Nat) (0:Nat) (k+(62:Nat)) false) (aA (xS (k+(62:Nat))).P Tryz.f17) Ee) n ⟨[V.agg [V.lit (Value.int IntKind.i64 v0_0_0),V.lit (Value.int IntKind.i64 v0_0_1),V.lit (Value.int IntKind.i64 v0_0_2),V.lit (Value.int IntKind.i64 v0_0_3),V.ro (List.map an v0_1),V.ro (List.map (aG IntKind.u64) v0_2),V.ro (List.map aH v0_3),V.ro (List.map bL v0_4)],V.ro (List.map dg v1),V.ptr (0:Nat) (0:Nat) (0:Nat) (0:Nat),uu,V.ptr (5:Nat) (0:Nat) (0:Nat) (0:Nat),V.own (6:Nat) (0:Nat) (0:Nat),V.ptr (13:Nat) (0:Nat) (0:Nat) (0:Nat),V.own (14:Nat) s115 s116.length,uu,j117,V.agg [V.lit (Value.int IntKind.i64 v0_0_0),V.lit (Value.int IntKind.i64 v0_0_1),V.lit (Value.int IntKind.i64 v0_0_2),V.lit (Value.int IntKind.i64 v0_0_3),V.ro (List.map an v0_1),V.ro (List.map (aG IntKind.u64) v0_2),V.ro (List.map aH v0_3),V.ro (List.map bL v0_4)],V.agg [V.lit (Value.int IntKind.i64 s86),V.lit (Value.int IntKind.i64 s87),V.lit (Value.int IntKind.i64 s88),V.lit (Value.int IntKind.i64 s89),V.ro (List.map an s90),V.ro (List.map (aG IntKind.u64) s91),V.own (7:Nat) (0:Nat) s92.length,V.own (8:Nat) (0:Nat) s93.length],V.agg [V.lit (Value.int IntKind.i64 v0_0_0),V.lit (Value.int IntKind.i64 v0_0_1),V.lit (Value.int IntKind.i64 v0_0_2),V.lit (Value.int IntKind.i64 v0_0_3),V.ro (List.map an v0_1),V.ro (List.map (aG IntKind.u64) v0_2),V.ro (List.map aH v0_3),V.ro (List.map bL v0_4)],V.lit (Value.bool s94),V.lit (Value.bool s95),uu,V.ro (List.map dg v1),V.lit (Value.int IntKind.i64 (↑v1.length:Int)),V.lit (Value.int IntKind.i64 s118),V.junk,V.junk,V.junk,V.junk,V.junk,V.junk,V.junk,V.junk,V.junk,V.junk,V.junk,V.junk,V.junk,V.junk,V.junk,V.junk,uu,uu],[B.box [V.lit (Value.int IntKind.i64 v0_0_0),V.lit (Value.int IntKind.i64 v0_0_1),V.lit (Value.int IntKind.i64 v0_0_2),V.lit (Value.int IntKind.i64 v0_0_3),V.ro (List.map an v0_1),V.ro (List.map (aG IntKind.u64) v0_2),V.ro (List.map aH v0_3),V.ro (List.map bL v0_4)],B.rows (0:Nat) [] (0:Nat) true,B.rows (0:Nat) [] (0:Nat) true,B.rows (0:Nat) [] (0:Nat) true,B.rows (0:Nat) [] (0:Nat) true,B.box [V.lit (Value.int IntKind.i64 (0:Int)),V.lit (Value.int IntKind.i64 (0:Int)),V.lit (Value.int IntKind.i64 (0:Int)),V.lit (Value.int IntKind.i64 (0:Int)),V.own (1:Nat) (0:Nat) (0:Nat),V.own (2:Nat) (0:Nat) (0:Nat),V.own (3:Nat) (0:Nat) (0:Nat),V.own (4:Nat) (0:Nat) (0:Nat)],B.rows (0:Nat) [] (0:Nat) true,B.rows (11:Nat) (List.map aH s96) (0:Nat) true,B.rows (9:Nat) (List.map bL s97) (0:Nat) true,B.rows (0:Nat) [] (0:Nat) true,B.rows (0:Nat) [] (0:Nat) true,B.rows (0:Nat) [] (0:Nat) true,B.rows (0:Nat) [] (0:Nat) true,B.box [V.lit (Value.int IntKind.i64 s86),V.lit (Value.int IntKind.i64 s87),V.lit (Value.int IntKind.i64 s88),V.lit (Value.int IntKind.i64 s89),V.ro (List.map an s90),V.ro (List.map (aG IntKind.u64) s119),V.own (7:Nat) (0:Nat) s92.length,V.own (8:Nat) (0:Nat) s93.length],B.rows s120 (List.map aE s116) s115 true]⟩)=ob (bo k ((v0_0_0,v0_0_1,v0_0_2,v0_0_3),v0_1,v0_2,v0_3,v0_4) v1  n s86 s87 s88 s89 s90 s92 s93 s96 s97 s116 s118 s119 s120) fun r=>some ((.tup [.agg [.lit (.int .i64 r.1.1.1),.lit (.int .i64 r.1.1.2.1),.lit (.int .i64 r.1.1.2.2.1),.lit (.int .i64 r.1.1.2.2.2),.ro (List.map an r.1.2.1),.ro (List.map (aG .u64) r.1.2.2.1),.ro (List.map aH r.1.2.2.2.1),.ro (List.map bL r.1.2.2.2.2)],.ro (List.map aE r.2)]),[]):=by
 intro n
 induction n with
 | zero=>intros;rfl
 | succ n ih=>
  intro s86 s87 s88 s89 s90 s92 s93 s96 s97 s116 s118 s119 s120 s91 s94 s95 s115 j117
  rw [bo]
  simp (maxSteps:=2000000) -implicitDefEqProofs only [Zj,Yd,Vc,AV,io,Zf,T6,UJ,xU,AB,iH,iD,aM (g:=41),YX,Vw,AS,iJ,YU,Xp,Zi,XY,Zd,Vt,↓syP,syA,syD,Nat.reduceAdd,Nat.reduceSub,Nat.reduceMul,Nat.reduceLT,Nat.reduceLeDiff,Nat.reduceEqDiff,Nat.reduceBEq,Nat.reduceBNe,Int.reduceBEq,Int.reduceBNe,Int.reduceLT,Int.reduceLE,Int.reduceAdd,Int.reduceSub,Int.reduceNeg,syE,ai,ag,af,syW,xQ,dL,oq,xv,Dt,eH,uG,C8,gF,Ot,ih]
  all_goals simp -implicitDefEqProofs only [List.map_nil]
def cI (k:Nat) (v0:((Int×Int×Int×Int)×List (Int×List Int)×List Int×List (Int×List (Int×Int×Int)×(Int×Int×Int×Int×Int×Int×Int)×Int×Int)×List (Int×List Int×Int×Int×Int×Int×Int×Int×Int))) (v1:(List (Int×Int×Int))):Option (((Int×Int×Int×Int)×List (Int×List Int)×List Int×List (Int×List (Int×Int×Int)×(Int×Int×Int×Int×Int×Int×Int)×Int×Int)×List (Int×List Int×Int×Int×Int×Int×Int×Int×Int))×(List (Int×Int×Int))):=
 ob (dN (k+59) v0.2.1) fun x160=>
 ob (aJ 8 v0.2.2.1) fun x161=>
 ob (aJ 104 v0.2.2.2.1) fun x162=>
 ob (aJ 88 v0.2.2.2.2) fun x163=>
 ob (b8 k (k+61) v0.1.1 v0.1.2.1 v0.1.2.2.1 v0.1.2.2.2 x160 x161 x162 x163 (↑x162.length:Int) 0 x162) fun x164=>
 ck (decide (x164.2.2.2.2.2.2.1.length≤x164.2.2.2.2.2.2.2.2.1.length)) (
 ck (decide (x164.2.2.2.2.2.2.2.1.length≤x164.2.2.2.2.2.2.2.2.2.length)) (
 ob (iE (k+27) v0) fun x165=>
 bif !x165 then
 ck (decide (x164.2.2.2.2.2.2.1.length≤(List.take x164.2.2.2.2.2.2.1.length x164.2.2.2.2.2.2.2.2.1).length)) (
 ck (decide (x164.2.2.2.2.2.2.2.1.length≤(List.take x164.2.2.2.2.2.2.2.1.length x164.2.2.2.2.2.2.2.2.2).length)) (
 some (((x164.1,x164.2.1,x164.2.2.1,x164.2.2.2.1),x164.2.2.2.2.1,x164.2.2.2.2.2.1,(List.take x164.2.2.2.2.2.2.1.length (List.take x164.2.2.2.2.2.2.1.length x164.2.2.2.2.2.2.2.2.1)),(List.take x164.2.2.2.2.2.2.2.1.length (List.take x164.2.2.2.2.2.2.2.1.length x164.2.2.2.2.2.2.2.2.2))),[])))
 else
 bo k v0 v1 (k+62) x164.1 x164.2.1 x164.2.2.1 x164.2.2.2.1 x164.2.2.2.2.1 x164.2.2.2.2.2.2.1 x164.2.2.2.2.2.2.2.1 (List.take x164.2.2.2.2.2.2.1.length x164.2.2.2.2.2.2.2.2.1) (List.take x164.2.2.2.2.2.2.2.1.length x164.2.2.2.2.2.2.2.2.2) ([]) 0 x164.2.2.2.2.2.1 0))
theorem iT (k:Nat) (v0_0_0 v0_0_1 v0_0_2 v0_0_3:Int) (v0_1:List (Int×List Int)) (v0_2:List Int) (v0_3:List (Int×List (Int×Int×Int)×(Int×Int×Int×Int×Int×Int×Int)×Int×Int)) (v0_4:List (Int×List Int×Int×Int×Int×Int×Int×Int×Int)) (v1:List (Int×Int×Int)):xC (k+63) none 17 [.agg [.lit (.int .i64 v0_0_0),.lit (.int .i64 v0_0_1),.lit (.int .i64 v0_0_2),.lit (.int .i64 v0_0_3),.ro (List.map an v0_1),.ro (List.map (aG .u64) v0_2),.ro (List.map aH v0_3),.ro (List.map bL v0_4)],.ro (List.map dg v1)]=ob (cI k ((v0_0_0,v0_0_1,v0_0_2,v0_0_3),v0_1,v0_2,v0_3,v0_4) v1) fun r=>some ((.tup [.agg [.lit (.int .i64 r.1.1.1),.lit (.int .i64 r.1.1.2.1),.lit (.int .i64 r.1.1.2.2.1),.lit (.int .i64 r.1.1.2.2.2),.ro (List.map an r.1.2.1),.ro (List.map (aG .u64) r.1.2.2.1),.ro (List.map aH r.1.2.2.2.1),.ro (List.map bL r.1.2.2.2.2)],.ro (List.map aE r.2)]),[]):=by
 rw [aM]
 unfold cI
 have hl0:=fun (x170:Int×Int×Int×Int×List (Int×List Int)×List Int×List (Int×List (Int×Int×Int)×(Int×Int×Int×Int×Int×Int×Int)×Int×Int)×List (Int×List Int×Int×Int×Int×Int×Int×Int×Int)×List (Int×List (Int×Int×Int)×(Int×Int×Int×Int×Int×Int×Int)×Int×Int)×List (Int×List Int×Int×Int×Int×Int×Int×Int×Int))=>kx k v0_0_0 v0_0_1 v0_0_2 v0_0_3 v0_1 v0_2 v0_3 v0_4 v1 (k+(62:Nat)) (x170.fst) (x170.snd.fst) (x170.snd.snd.fst) (x170.snd.snd.snd.fst) (x170.snd.snd.snd.snd.fst) (x170.snd.snd.snd.snd.snd.snd.fst) (x170.snd.snd.snd.snd.snd.snd.snd.fst) (List.take x170.snd.snd.snd.snd.snd.snd.fst.length x170.snd.snd.snd.snd.snd.snd.snd.snd.fst) (List.take x170.snd.snd.snd.snd.snd.snd.snd.fst.length x170.snd.snd.snd.snd.snd.snd.snd.snd.snd) ([]) ((0:Int)) (x170.snd.snd.snd.snd.snd.fst) ((0:Nat))
 try simp -implicitDefEqProofs only [List.map_nil,List.length_nil] at hl0
 simp (maxSteps:=2000000) -implicitDefEqProofs only [Zj,Yd,Vc,AV,io,Zf,T6,UJ,xU,AB,iH,iD,aM (g:=41),YX,Vw,AS,iJ,YU,Xp,Zi,XY,Zd,Vt,↓syP,syA,syD,Nat.reduceAdd,Nat.reduceSub,Nat.reduceMul,Nat.reduceLT,Nat.reduceLeDiff,Nat.reduceEqDiff,Nat.reduceBEq,Nat.reduceBNe,Int.reduceBEq,Int.reduceBNe,Int.reduceLT,Int.reduceLE,Int.reduceAdd,Int.reduceSub,Int.reduceNeg,syE,ai,ag,af,syW,xQ,eH,uG,gF,kx k v0_0_0 v0_0_1 v0_0_2 v0_0_3 v0_1 v0_2 v0_3 v0_4 v1,hl0]
 all_goals simp -implicitDefEqProofs only [List.map_nil]
end Go.Ab
set_option maxRecDepth 100000
set_option linter.unusedVariables false
set_option linter.unusedSimpArgs false
namespace Go.Ab
open Go.Proofs
def bn (k:Nat)   : Nat→List (Int×List Int)→Int→Nat→List Int→Int→Nat→Option (Nat×List Int×Nat)
 | 0,_,_,_,_,_,_=>none
 | n+1,s7,s10,s12,s13,s15,s17=>
 bif decide (s15<s10) then
 ob (dR k s7 s15) fun x24=>
 bif x24==(-1:Int) then
 ck (s17==(1:Nat)||s17==(0:Nat)) (
 bif room (s13++[s15]).length (8:Nat) then
 bn k   n (s7) (s10) (s12+(1:Nat)) (s13++[s15]) (IntKind.i64.wrap (s15+(1:Int))) ((1:Nat))
 else
 none)
 else
 bn k   n (s7) (s10) (s12) (s13) (IntKind.i64.wrap (s15+(1:Int))) (s17)
 else
 some (s12,s13,s17)
theorem cC (k:Nat)  : ∀ (n:Nat) (s7:List (Int×List Int)) (s10:Int) (s12:Nat) (s13:List Int) (s15:Int) (s17:Nat) ⦃s8:Bool⦄ ⦃s9:Bool⦄ ⦃j14:V⦄,itX (xX (xS (k+(20:Nat))) (57:Nat) (0:Nat) (k+(20:Nat)) false) uC ((2:Nat)) (au (xX (xS (k+(20:Nat))) (57:Nat) (0:Nat) (k+(20:Nat)) false) (aA (xS (k+(20:Nat))).P Tryz.f57) AC) n ⟨[V.ro (List.map an s7),uu,V.own (0:Nat) (0:Nat) (0:Nat),V.own (1:Nat) s12 s13.length,j14,V.ro (List.map an s7),V.lit (Value.bool s8),V.lit (Value.bool s9),V.ro (List.map an s7),V.lit (Value.int IntKind.i64 s10),V.lit (Value.int IntKind.i64 s15),V.junk,V.junk,V.junk,V.junk,V.junk,V.junk,V.junk,V.junk,V.junk,V.junk,V.junk,uu],[B.rows (0:Nat) [] (0:Nat) true,B.rows s17 (List.map (aG IntKind.i64) s13) s12 true]⟩=ob (bn k   n s7 s10 s12 s13 s15 s17) fun r=>some ((V.own (1:Nat) r.1 r.2.1.length,[B.rows (0:Nat) [] (0:Nat) true,B.rows r.2.2 (List.map (aG IntKind.i64) r.2.1) r.1 true])):=by
 intro n
 induction n with
 | zero=>intros;rfl
 | succ n ih=>
  intro s7 s10 s12 s13 s15 s17 s8 s9 j14
  rw [bn]
  simp (maxSteps:=2000000) -implicitDefEqProofs only [Uo,T4,T0,uw,u4,uV,uO,u2,gq,gl,gg,gc,Ub,TZ,T3,ud,gi,aM (g:=57),↓syP,syA,syD,Nat.reduceAdd,Nat.reduceSub,Nat.reduceMul,Nat.reduceLT,Nat.reduceLeDiff,Nat.reduceEqDiff,Nat.reduceBEq,Nat.reduceBNe,Int.reduceBEq,Int.reduceBNe,Int.reduceLT,Int.reduceLE,Int.reduceAdd,Int.reduceSub,Int.reduceNeg,syE,ai,ag,af,syW,xQ,pD,Pv,ih]
  all_goals simp -implicitDefEqProofs only [List.map_nil]
theorem er (k:Nat) (v1:List (Int×List Int)):∀ ⦃s8 s9:Bool⦄ ⦃j14:V⦄,itX (xX (xS (k+(20:Nat))) (57:Nat) (0:Nat) (k+(20:Nat)) false) uC (2:Nat) (au (xX (xS (k+(20:Nat))) (57:Nat) (0:Nat) (k+(20:Nat)) false) (aA (xS (k+(20:Nat))).P Tryz.f57) AC) (k+(20:Nat)) (St.mk [V.ro (List.map an v1),uu,V.own (0:Nat) (0:Nat) (0:Nat),V.own (1:Nat) (0:Nat) (0:Nat),j14,V.ro (List.map an v1),V.lit (Value.bool s8),V.lit (Value.bool s9),V.ro (List.map an v1),V.lit (Value.int IntKind.i64 (↑v1.length:Int)),V.lit (Value.int IntKind.i64 (0:Int)),V.junk,V.junk,V.junk,V.junk,V.junk,V.junk,V.junk,V.junk,V.junk,V.junk,V.junk,uu] [B.rows (0:Nat) [] (0:Nat) true,B.rows (0:Nat) [] (0:Nat) true])=ob (bn k (k+(20:Nat)) v1 (↑v1.length:Int) (0:Nat) [] (0:Int) (0:Nat)) fun r ↦ some (V.own (1:Nat) r.fst r.snd.fst.length,[B.rows (0:Nat) [] (0:Nat) true,B.rows r.snd.snd (List.map (aG IntKind.i64) r.snd.fst) r.fst true]):=by
 have h:=cC k  (k+(20:Nat)) (v1) ((↑v1.length:Int)) ((0:Nat)) ([]) ((0:Int)) ((0:Nat))
 simp -implicitDefEqProofs only [List.map_nil,List.length_nil] at h
 exact h
def cp (k:Nat) (v0:(Int×Int×Int×Int)) (v1:(List (Int×List Int))) (v2:(List (List Int))) (o0:List (Int×List Int)→List Int→Nat→List (Int×List (Int×Int×Int)×(Int×Int×Int×Int×Int×Int×Int)×Int×Int)→Int→List (Int×List Int×Int×Int×Int×Int×Int×Int×Int)→Nat→Nat→List Int→Option (((Int×Int×Int×Int)×List (Int×List Int)×List Int×List (Int×List (Int×Int×Int)×(Int×Int×Int×Int×Int×Int×Int)×Int×Int)×List (Int×List Int×Int×Int×Int×Int×Int×Int×Int))×Bool)):Nat→List Int→List (Int×List Int)→List Int→Int→Nat→List (Int×List (Int×Int×Int)×(Int×Int×Int×Int×Int×Int×Int)×Int×Int)→Nat→Int→List Int→Int→List (Int×List Int×Int×Int×Int×Int×Int×Int×Int)→Nat→Option (((Int×Int×Int×Int)×List (Int×List Int)×List Int×List (Int×List (Int×Int×Int)×(Int×Int×Int×Int×Int×Int×Int)×Int×Int)×List (Int×List Int×Int×Int×Int×Int×Int×Int×Int))×Bool)
 | 0,_,_,_,_,_,_,_,_,_,_,_,_=>none
 | n+1,s81,s86,s87,s88,s89,s105,s107,s110,s111,s130,s133,s134=>
 bif decide (s110<s88) then
 ob (idx s81 s110) fun x159=>
 ck (decide (s107≤s111.length)) (
 ob (cL (k+(20:Nat)) (List.take s107 s111) x159) fun x160=>
 bif decide (x160<(0:Int)) then
 some (((((0:Int)),((0:Int)),((0:Int)),((0:Int))),[],[],[],[]),(false))
 else
 ck (s89==(1:Nat)) (
 ck (decide (s107≤s111.length∧(0:Int)≤x160∧x160<IntKind.i64.wrap (x160+(1:Int))∧(IntKind.i64.wrap (x160+(1:Int))).toNat≤s107∧s107≤(9223372036854775807:Nat))) (
 cp k v0 v1 v2 o0 n (s81) (s86) (s87) (s88) ((1:Nat)) (s105) (s107 - ((IntKind.i64.wrap (x160+(1:Int))).toNat - x160.toNat)) (IntKind.i64.wrap (s110+(1:Int))) (CN (List.take s107 s111) x160.toNat (IntKind.i64.wrap (x160+(1:Int))).toNat++List.drop s107 s111) (s130) (s133) (s134))))
 else
 ob (fE s81) fun x161=>
 ck (s134==(9:Nat)||s134==(0:Nat)) (
 bif room (s133++[(x161.1,x161.2.1,x161.2.2.1,x161.2.2.2.1,x161.2.2.2.2.1,x161.2.2.2.2.2.1,x161.2.2.2.2.2.2.1,x161.2.2.2.2.2.2.2.1,x161.2.2.2.2.2.2.2.2)]).length (88:Nat) then
 o0 (s86) (s87) (s89) (s105) (IntKind.i64.wrap (s130+(1:Int))) (s133++[(x161.1,x161.2.1,x161.2.2.1,x161.2.2.2.1,x161.2.2.2.2.1,x161.2.2.2.2.2.1,x161.2.2.2.2.2.2.1,x161.2.2.2.2.2.2.2.1,x161.2.2.2.2.2.2.2.2)]) ((9:Nat)) (s107) (s111)
 else
 none)
theorem oA (k:Nat) (v0_0 v0_1 v0_2 v0_3:Int) (v1:List (Int×List Int)) (v2:List (List Int)) (n56:Nat) (o0:List (Int×List Int)→List Int→Nat→List (Int×List (Int×Int×Int)×(Int×Int×Int×Int×Int×Int×Int)×Int×Int)→Int→List (Int×List Int×Int×Int×Int×Int×Int×Int×Int)→Nat→Nat→List Int→Option (((Int×Int×Int×Int)×List (Int×List Int)×List Int×List (Int×List (Int×Int×Int)×(Int×Int×Int×Int×Int×Int×Int)×Int×Int)×List (Int×List Int×Int×Int×Int×Int×Int×Int×Int))×Bool)) (ho0:∀ (s62:List (Int×List Int)) (s63:List Int) (s64:Nat) (s77:List (Int×List (Int×Int×Int)×(Int×Int×Int×Int×Int×Int×Int)×Int×Int)) (s113:Int) (s115:List (Int×List Int×Int×Int×Int×Int×Int×Int×Int)) (s116:Nat) (s135:Nat) (s138:List Int) ⦃s57:List Int⦄ ⦃s58:Bool⦄ ⦃s59:Bool⦄ ⦃s60:Bool⦄ ⦃s61:Bool⦄ ⦃s76:Nat⦄ ⦃s78:Nat⦄ ⦃s114:Nat⦄ ⦃j75 j112 j136 j137:V⦄,rt none (itX (xX (xS (k+(21:Nat))) (23:Nat) (0:Nat) (k+(21:Nat)) false) oa ((14:Nat)) (au (xX (xS (k+(21:Nat))) (23:Nat) (0:Nat) (k+(21:Nat)) false) (aA (xS (k+(21:Nat))).P Tryz.f23) uF) n56 ⟨(V.agg [V.lit (Value.int IntKind.i64 v0_0),V.lit (Value.int IntKind.i64 v0_1),V.lit (Value.int IntKind.i64 v0_2),V.lit (Value.int IntKind.i64 v0_3)]::V.ro (List.map an v1)::V.ro (List.map cU v2)::V.ptr (0:Nat) (0:Nat) (0:Nat) (0:Nat)::uu::uu::V.ptr (5:Nat) (0:Nat) (0:Nat) (0:Nat)::V.lit (Value.bool false)::V.own (6:Nat) (0:Nat) s135::V.ptr (11:Nat) (0:Nat) (0:Nat) (0:Nat)::j75::uu::j112::uu::j136::j137::V.agg [V.lit (Value.int IntKind.i64 v0_0),V.lit (Value.int IntKind.i64 v0_1),V.lit (Value.int IntKind.i64 v0_2),V.lit (Value.int IntKind.i64 v0_3)]::V.lit (Value.bool s58)::V.lit (Value.bool s59)::V.lit (Value.bool false)::V.ro (List.map an v1)::V.lit (Value.bool s60)::V.lit (Value.bool s61)::V.lit (Value.bool s61)::V.lit (Value.bool false)::V.ro (List.map cU v2)::V.lit (Value.int IntKind.i64 (↑v2.length:Int))::V.lit (Value.bool (decide ((3:Int)<(↑v2.length:Int))))::V.lit (Value.bool (decide ((3:Int)<(↑v2.length:Int))))::uu::V.ro (List.map an v1)::V.own (6:Nat) (0:Nat) s57.length::V.agg [V.lit (Value.int IntKind.i64 v0_0),V.lit (Value.int IntKind.i64 v0_1),V.lit (Value.int IntKind.i64 v0_2),V.lit (Value.int IntKind.i64 v0_3)]::V.ro (List.map an v1)::V.ro (List.map an s62)::V.agg [V.lit (Value.int IntKind.i64 v0_0),V.lit (Value.int IntKind.i64 v0_1),V.lit (Value.int IntKind.i64 v0_2),V.lit (Value.int IntKind.i64 v0_3)]::V.ro (List.map (aG IntKind.u64) s63)::V.agg [V.lit (Value.int IntKind.i64 v0_0),V.lit (Value.int IntKind.i64 v0_1),V.lit (Value.int IntKind.i64 v0_2),V.lit (Value.int IntKind.i64 v0_3),V.ro (List.map an s62),V.ro (List.map (aG IntKind.u64) s63),V.nil,V.nil]::V.ptr (0:Nat) (0:Nat) (0:Nat) (0:Nat)::V.lit (Value.int IntKind.i64 v0_0)::V.junk::V.junk::V.junk::V.junk::V.junk::V.junk::V.junk::V.junk::V.junk::V.junk::V.junk::V.ro (List.map cU v2)::V.lit (Value.int IntKind.i64 (↑v2.length:Int))::V.lit (Value.int IntKind.i64 s113)::V.junk::V.junk::V.junk::V.junk::V.junk::V.junk::V.junk::V.junk::V.junk::V.junk::V.junk::V.junk::V.junk::V.junk::V.junk::V.junk::V.junk::V.junk::V.junk::V.junk::V.junk::V.junk::V.junk::V.junk::V.junk::V.junk::V.junk::V.junk::V.junk::uu::[]),[B.box [V.lit (Value.int IntKind.i64 v0_0),V.lit (Value.int IntKind.i64 v0_1),V.lit (Value.int IntKind.i64 v0_2),V.lit (Value.int IntKind.i64 v0_3)],B.rows (0:Nat) [] (0:Nat) true,B.rows (0:Nat) [] (0:Nat) true,B.rows (0:Nat) [] (0:Nat) true,B.rows (0:Nat) [] (0:Nat) true,B.box [V.lit (Value.int IntKind.i64 (0:Int)),V.lit (Value.int IntKind.i64 (0:Int)),V.lit (Value.int IntKind.i64 (0:Int)),V.lit (Value.int IntKind.i64 (0:Int)),V.own (1:Nat) (0:Nat) (0:Nat),V.own (2:Nat) (0:Nat) (0:Nat),V.own (3:Nat) (0:Nat) (0:Nat),V.own (4:Nat) (0:Nat) (0:Nat)],B.rows s64 (List.map (aG IntKind.i64) s138) (0:Nat) true,B.rows (0:Nat) [] (0:Nat) true,B.rows (0:Nat) [] (0:Nat) true,B.rows (0:Nat) [] (0:Nat) true,B.rows (0:Nat) [] (0:Nat) true,B.box [V.lit (Value.int IntKind.i64 v0_0),V.lit (Value.int IntKind.i64 v0_1),V.lit (Value.int IntKind.i64 v0_2),V.lit (Value.int IntKind.i64 v0_3),V.ro (List.map an s62),V.ro (List.map (aG IntKind.u64) s63),V.own (12:Nat) s76 s77.length,V.own (13:Nat) s114 s115.length],B.rows s78 (List.map aH s77) s76 true,B.rows s116 (List.map bL s115) s114 true]⟩)=ob (o0 s62 s63 s64 s77 s113 s115 s116 s135 s138) fun r=>some ((.tup [.agg [.lit (.int .i64 r.1.1.1),.lit (.int .i64 r.1.1.2.1),.lit (.int .i64 r.1.1.2.2.1),.lit (.int .i64 r.1.1.2.2.2),.ro (List.map an r.1.2.1),.ro (List.map (aG .u64) r.1.2.2.1),.ro (List.map aH r.1.2.2.2.1),.ro (List.map bL r.1.2.2.2.2)],.lit (.bool r.2)]),[])):∀ (n:Nat) (s81:List Int) (s86:List (Int×List Int)) (s87:List Int) (s88:Int) (s89:Nat) (s105:List (Int×List (Int×Int×Int)×(Int×Int×Int×Int×Int×Int×Int)×Int×Int)) (s107:Nat) (s110:Int) (s111:List Int) (s130:Int) (s133:List (Int×List Int×Int×Int×Int×Int×Int×Int×Int)) (s134:Nat) ⦃s80:List Int⦄ ⦃s82:Bool⦄ ⦃s83:Bool⦄ ⦃s84:Bool⦄ ⦃s85:Bool⦄ ⦃s104:Nat⦄ ⦃s106:Nat⦄ ⦃s131:Bool⦄ ⦃s132:Nat⦄ ⦃j103 j108 j109:V⦄,rt none (itX (xX (xS (k+(21:Nat))) (23:Nat) (0:Nat) (k+(21:Nat)) false) E9 ((14:Nat)) (au (xX (xS (k+(21:Nat))) (23:Nat) (0:Nat) (k+(21:Nat)) false) (eg (xX (xS (k+(21:Nat))) (23:Nat) (0:Nat) (k+(21:Nat)) false) oa (14:Nat) (au (xX (xS (k+(21:Nat))) (23:Nat) (0:Nat) (k+(21:Nat)) false) (aA (xS (k+(21:Nat))).P Tryz.f23) uF) n56) D3) n ⟨(V.agg [V.lit (Value.int IntKind.i64 v0_0),V.lit (Value.int IntKind.i64 v0_1),V.lit (Value.int IntKind.i64 v0_2),V.lit (Value.int IntKind.i64 v0_3)]::V.ro (List.map an v1)::V.ro (List.map cU v2)::V.ptr (0:Nat) (0:Nat) (0:Nat) (0:Nat)::uu::uu::V.ptr (5:Nat) (0:Nat) (0:Nat) (0:Nat)::V.lit (Value.bool false)::V.own (6:Nat) (0:Nat) s107::V.ptr (11:Nat) (0:Nat) (0:Nat) (0:Nat)::j103::uu::V.ro (List.map (aG IntKind.i64) s81)::uu::j108::j109::V.agg [V.lit (Value.int IntKind.i64 v0_0),V.lit (Value.int IntKind.i64 v0_1),V.lit (Value.int IntKind.i64 v0_2),V.lit (Value.int IntKind.i64 v0_3)]::V.lit (Value.bool s82)::V.lit (Value.bool s83)::V.lit (Value.bool false)::V.ro (List.map an v1)::V.lit (Value.bool s84)::V.lit (Value.bool s85)::V.lit (Value.bool s85)::V.lit (Value.bool false)::V.ro (List.map cU v2)::V.lit (Value.int IntKind.i64 (↑v2.length:Int))::V.lit (Value.bool (decide ((3:Int)<(↑v2.length:Int))))::V.lit (Value.bool (decide ((3:Int)<(↑v2.length:Int))))::uu::V.ro (List.map an v1)::V.own (6:Nat) (0:Nat) s80.length::V.agg [V.lit (Value.int IntKind.i64 v0_0),V.lit (Value.int IntKind.i64 v0_1),V.lit (Value.int IntKind.i64 v0_2),V.lit (Value.int IntKind.i64 v0_3)]::V.ro (List.map an v1)::V.ro (List.map an s86)::V.agg [V.lit (Value.int IntKind.i64 v0_0),V.lit (Value.int IntKind.i64 v0_1),V.lit (Value.int IntKind.i64 v0_2),V.lit (Value.int IntKind.i64 v0_3)]::V.ro (List.map (aG IntKind.u64) s87)::V.agg [V.lit (Value.int IntKind.i64 v0_0),V.lit (Value.int IntKind.i64 v0_1),V.lit (Value.int IntKind.i64 v0_2),V.lit (Value.int IntKind.i64 v0_3),V.ro (List.map an s86),V.ro (List.map (aG IntKind.u64) s87),V.nil,V.nil]::V.ptr (0:Nat) (0:Nat) (0:Nat) (0:Nat)::V.lit (Value.int IntKind.i64 v0_0)::V.junk::V.junk::V.junk::V.junk::V.junk::V.junk::V.junk::V.junk::V.junk::V.junk::V.junk::V.ro (List.map cU v2)::V.lit (Value.int IntKind.i64 (↑v2.length:Int))::V.lit (Value.int IntKind.i64 s130)::V.lit (Value.bool s131)::V.rp [V.ro (List.map (aG IntKind.i64) s81)]::V.ro (List.map (aG IntKind.i64) s81)::V.ro (List.map (aG IntKind.i64) s81)::V.lit (Value.int IntKind.i64 s88)::V.lit (Value.int IntKind.i64 s110)::V.junk::V.junk::V.junk::V.junk::V.junk::V.junk::V.junk::V.junk::V.junk::V.junk::V.junk::V.junk::V.junk::V.junk::V.junk::V.junk::V.junk::V.junk::V.junk::V.junk::V.junk::V.junk::V.junk::uu::[]),[B.box [V.lit (Value.int IntKind.i64 v0_0),V.lit (Value.int IntKind.i64 v0_1),V.lit (Value.int IntKind.i64 v0_2),V.lit (Value.int IntKind.i64 v0_3)],B.rows (0:Nat) [] (0:Nat) true,B.rows (0:Nat) [] (0:Nat) true,B.rows (0:Nat) [] (0:Nat) true,B.rows (0:Nat) [] (0:Nat) true,B.box [V.lit (Value.int IntKind.i64 (0:Int)),V.lit (Value.int IntKind.i64 (0:Int)),V.lit (Value.int IntKind.i64 (0:Int)),V.lit (Value.int IntKind.i64 (0:Int)),V.own (1:Nat) (0:Nat) (0:Nat),V.own (2:Nat) (0:Nat) (0:Nat),V.own (3:Nat) (0:Nat) (0:Nat),V.own (4:Nat) (0:Nat) (0:Nat)],B.rows s89 (List.map (aG IntKind.i64) s111) (0:Nat) true,B.rows (0:Nat) [] (0:Nat) true,B.rows (0:Nat) [] (0:Nat) true,B.rows (0:Nat) [] (0:Nat) true,B.rows (0:Nat) [] (0:Nat) true,B.box [V.lit (Value.int IntKind.i64 v0_0),V.lit (Value.int IntKind.i64 v0_1),V.lit (Value.int IntKind.i64 v0_2),V.lit (Value.int IntKind.i64 v0_3),V.ro (List.map an s86),V.ro (List.map (aG IntKind.u64) s87),V.own (12:Nat) s104 s105.length,V.own (13:Nat) s132 s133.length],B.rows s106 (List.map aH s105) s104 true,B.rows s134 (List.map bL s133) s132 true]⟩)=ob (cp k (v0_0,v0_1,v0_2,v0_3) v1 v2 o0 n s81 s86 s87 s88 s89 s105 s107 s110 s111 s130 s133 s134) fun r=>some ((.tup [.agg [.lit (.int .i64 r.1.1.1),.lit (.int .i64 r.1.1.2.1),.lit (.int .i64 r.1.1.2.2.1),.lit (.int .i64 r.1.1.2.2.2),.ro (List.map an r.1.2.1),.ro (List.map (aG .u64) r.1.2.2.1),.ro (List.map aH r.1.2.2.2.1),.ro (List.map bL r.1.2.2.2.2)],.lit (.bool r.2)]),[]):=by
 intro n
 induction n with
 | zero=>intros;rfl
 | succ n ih=>
  intro s81 s86 s87 s88 s89 s105 s107 s110 s111 s130 s133 s134 s80 s82 s83 s84 s85 s104 s106 s131 s132 j103 j108 j109
  rw [cp]
  simp (maxSteps:=2000000) -implicitDefEqProofs only [Uo,T4,T0,uw,u4,uV,uO,u2,gq,gl,gg,gc,Ub,TZ,T3,ud,gi,aM (g:=57),↓syP,syA,syD,Nat.reduceAdd,Nat.reduceSub,Nat.reduceMul,Nat.reduceLT,Nat.reduceLeDiff,Nat.reduceEqDiff,Nat.reduceBEq,Nat.reduceBNe,Int.reduceBEq,Int.reduceBNe,Int.reduceLT,Int.reduceLE,Int.reduceAdd,Int.reduceSub,Int.reduceNeg,syE,ai,ag,af,syW,xQ,cr,bT,mQ,eQ,ny,kT,eH,cC,er,Or,ih,ho0]
  all_goals simp -implicitDefEqProofs only [List.map_nil]
def bE (k:Nat) (v0:(Int×Int×Int×Int)) (v1:(List (Int×List Int))) (v2:(List (List Int)))  : Nat→List (Int×List Int)→List Int→Nat→List (Int×List (Int×Int×Int)×(Int×Int×Int×Int×Int×Int×Int)×Int×Int)→Int→List (Int×List Int×Int×Int×Int×Int×Int×Int×Int)→Nat→Nat→List Int→Option (((Int×Int×Int×Int)×List (Int×List Int)×List Int×List (Int×List (Int×Int×Int)×(Int×Int×Int×Int×Int×Int×Int)×Int×Int)×List (Int×List Int×Int×Int×Int×Int×Int×Int×Int))×Bool)
 | 0,_,_,_,_,_,_,_,_,_=>none
 | n+1,s62,s63,s64,s77,s113,s115,s116,s135,s138=>
 bif decide (s113<(↑v2.length:Int)) then
 ob (idx v2 s113) fun x155=>
 cp k v0 v1 v2 (fun s62 s63 s64 s77 s113 s115 s116 s135 s138=>bE k v0 v1 v2  n s62 s63 s64 s77 s113 s115 s116 s135 s138) (k+(21:Nat)) (x155) (s62) (s63) ((↑x155.length:Int)) (s64) (s77) (s135) ((0:Int)) (s138) (s113) (s115) (s116)
 else
 some ((((v0.1),(v0.2.1),(v0.2.2.1),(v0.2.2.2)),(s62),(s63),(s77),(s115)),(true))
theorem kE (k:Nat) (v0_0 v0_1 v0_2 v0_3:Int) (v1:List (Int×List Int)) (v2:List (List Int)):∀ (n:Nat) (s62:List (Int×List Int)) (s63:List Int) (s64:Nat) (s77:List (Int×List (Int×Int×Int)×(Int×Int×Int×Int×Int×Int×Int)×Int×Int)) (s113:Int) (s115:List (Int×List Int×Int×Int×Int×Int×Int×Int×Int)) (s116:Nat) (s135:Nat) (s138:List Int) ⦃s57:List Int⦄ ⦃s58:Bool⦄ ⦃s59:Bool⦄ ⦃s60:Bool⦄ ⦃s61:Bool⦄ ⦃s76:Nat⦄ ⦃s78:Nat⦄ ⦃s114:Nat⦄ ⦃j75 j112 j136 j137:V⦄,rt none (itX (xX (xS (k+(21:Nat))) (23:Nat) (0:Nat) (k+(21:Nat)) false) oa ((14:Nat)) (au (xX (xS (k+(21:Nat))) (23:Nat) (0:Nat) (k+(21:Nat)) false) (aA (xS (k+(21:Nat))).P Tryz.f23) uF) n ⟨(V.agg [V.lit (Value.int IntKind.i64 v0_0),V.lit (Value.int IntKind.i64 v0_1),V.lit (Value.int IntKind.i64 v0_2),V.lit (Value.int IntKind.i64 v0_3)]::V.ro (List.map an v1)::V.ro (List.map cU v2)::V.ptr (0:Nat) (0:Nat) (0:Nat) (0:Nat)::uu::uu::V.ptr (5:Nat) (0:Nat) (0:Nat) (0:Nat)::V.lit (Value.bool false)::V.own (6:Nat) (0:Nat) s135::V.ptr (11:Nat) (0:Nat) (0:Nat) (0:Nat)::j75::uu::j112::uu::j136::j137::V.agg [V.lit (Value.int IntKind.i64 v0_0),V.lit (Value.int IntKind.i64 v0_1),V.lit (Value.int IntKind.i64 v0_2),V.lit (Value.int IntKind.i64 v0_3)]::V.lit (Value.bool s58)::V.lit (Value.bool s59)::V.lit (Value.bool false)::V.ro (List.map an v1)::V.lit (Value.bool s60)::V.lit (Value.bool s61)::V.lit (Value.bool s61)::V.lit (Value.bool false)::V.ro (List.map cU v2)::V.lit (Value.int IntKind.i64 (↑v2.length:Int))::V.lit (Value.bool (decide ((3:Int)<(↑v2.length:Int))))::V.lit (Value.bool (decide ((3:Int)<(↑v2.length:Int))))::uu::V.ro (List.map an v1)::V.own (6:Nat) (0:Nat) s57.length::V.agg [V.lit (Value.int IntKind.i64 v0_0),V.lit (Value.int IntKind.i64 v0_1),V.lit (Value.int IntKind.i64 v0_2),V.lit (Value.int IntKind.i64 v0_3)]::V.ro (List.map an v1)::V.ro (List.map an s62)::V.agg [V.lit (Value.int IntKind.i64 v0_0),V.lit (Value.int IntKind.i64 v0_1),V.lit (Value.int IntKind.i64 v0_2),V.lit (Value.int IntKind.i64 v0_3)]::V.ro (List.map (aG IntKind.u64) s63)::V.agg [V.lit (Value.int IntKind.i64 v0_0),V.lit (Value.int IntKind.i64 v0_1),V.lit (Value.int IntKind.i64 v0_2),V.lit (Value.int IntKind.i64 v0_3),V.ro (List.map an s62),V.ro (List.map (aG IntKind.u64) s63),V.nil,V.nil]::V.ptr (0:Nat) (0:Nat) (0:Nat) (0:Nat)::V.lit (Value.int IntKind.i64 v0_0)::V.junk::V.junk::V.junk::V.junk::V.junk::V.junk::V.junk::V.junk::V.junk::V.junk::V.junk::V.ro (List.map cU v2)::V.lit (Value.int IntKind.i64 (↑v2.length:Int))::V.lit (Value.int IntKind.i64 s113)::V.junk::V.junk::V.junk::V.junk::V.junk::V.junk::V.junk::V.junk::V.junk::V.junk::V.junk::V.junk::V.junk::V.junk::V.junk::V.junk::V.junk::V.junk::V.junk::V.junk::V.junk::V.junk::V.junk::V.junk::V.junk::V.junk::V.junk::V.junk::V.junk::uu::[]),[B.box [V.lit (Value.int IntKind.i64 v0_0),V.lit (Value.int IntKind.i64 v0_1),V.lit (Value.int IntKind.i64 v0_2),V.lit (Value.int IntKind.i64 v0_3)],B.rows (0:Nat) [] (0:Nat) true,B.rows (0:Nat) [] (0:Nat) true,B.rows (0:Nat) [] (0:Nat) true,B.rows (0:Nat) [] (0:Nat) true,B.box [V.lit (Value.int IntKind.i64 (0:Int)),V.lit (Value.int IntKind.i64 (0:Int)),V.lit (Value.int IntKind.i64 (0:Int)),V.lit (Value.int IntKind.i64 (0:Int)),V.own (1:Nat) (0:Nat) (0:Nat),V.own (2:Nat) (0:Nat) (0:Nat),V.own (3:Nat) (0:Nat) (0:Nat),V.own (4:Nat) (0:Nat) (0:Nat)],B.rows s64 (List.map (aG IntKind.i64) s138) (0:Nat) true,B.rows (0:Nat) [] (0:Nat) true,B.rows (0:Nat) [] (0:Nat) true,B.rows (0:Nat) [] (0:Nat) true,B.rows (0:Nat) [] (0:Nat) true,B.box [V.lit (Value.int IntKind.i64 v0_0),V.lit (Value.int IntKind.i64 v0_1),V.lit (Value.int IntKind.i64 v0_2),V.lit (Value.int IntKind.i64 v0_3),V.ro (List.map an s62),V.ro (List.map (aG IntKind.u64) s63),V.own (12:Nat) s76 s77.length,V.own (13:Nat) s114 s115.length],B.rows s78 (List.map aH s77) s76 true,B.rows s116 (List.map bL s115) s114 true]⟩)=ob (bE k (v0_0,v0_1,v0_2,v0_3) v1 v2  n s62 s63 s64 s77 s113 s115 s116 s135 s138) fun r=>some ((.tup [.agg [.lit (.int .i64 r.1.1.1),.lit (.int .i64 r.1.1.2.1),.lit (.int .i64 r.1.1.2.2.1),.lit (.int .i64 r.1.1.2.2.2),.ro (List.map an r.1.2.1),.ro (List.map (aG .u64) r.1.2.2.1),.ro (List.map aH r.1.2.2.2.1),.ro (List.map bL r.1.2.2.2.2)],.lit (.bool r.2)]),[]):=by
 intro n
 induction n with
 | zero=>intros;rfl
 | succ n ih=>
  intro s62 s63 s64 s77 s113 s115 s116 s135 s138 s57 s58 s59 s60 s61 s76 s78 s114 j75 j112 j136 j137
  rw [bE]
  simp (maxSteps:=2000000) -implicitDefEqProofs only [Uo,T4,T0,uw,u4,uV,uO,u2,gq,gl,gg,gc,Ub,TZ,T3,ud,gi,aM (g:=57),↓syP,syA,syD,Nat.reduceAdd,Nat.reduceSub,Nat.reduceMul,Nat.reduceLT,Nat.reduceLeDiff,Nat.reduceEqDiff,Nat.reduceBEq,Nat.reduceBNe,Int.reduceBEq,Int.reduceBNe,Int.reduceLT,Int.reduceLE,Int.reduceAdd,Int.reduceSub,Int.reduceNeg,syE,ai,ag,af,syW,xQ,cr,bT,mQ,eQ,ny,kT,eH,cC,er,Pa,ih,oA k v0_0 v0_1 v0_2 v0_3 v1 v2 _ (fun s62 s63 s64 s77 s113 s115 s116 s135 s138=>bE k (v0_0,v0_1,v0_2,v0_3) v1 v2  n s62 s63 s64 s77 s113 s115 s116 s135 s138) ih]
  all_goals simp -implicitDefEqProofs only [List.map_nil]
def co (k:Nat) (v0:(Int×Int×Int×Int)) (v1:(List (Int×List Int))) (v2:(List (List Int)))  : Nat→List (Int×List Int)→List Int→List Int→Nat→Int→List (Int×List (Int×Int×Int)×(Int×Int×Int×Int×Int×Int×Int)×Int×Int)→Nat→Option (((Int×Int×Int×Int)×List (Int×List Int)×List Int×List (Int×List (Int×Int×Int)×(Int×Int×Int×Int×Int×Int×Int)×Int×Int)×List (Int×List Int×Int×Int×Int×Int×Int×Int×Int))×Bool)
 | 0,_,_,_,_,_,_,_=>none
 | n+1,s38,s39,s40,s41,s52,s54,s55=>
 bif decide (s52<v0.1) then
 ob (li s52) fun x153=>
 ck (s55==(11:Nat)||s55==(0:Nat)) (
 bif room (s54++[(x153.1,x153.2.1,(x153.2.2.1.1,x153.2.2.1.2.1,x153.2.2.1.2.2.1,x153.2.2.1.2.2.2.1,x153.2.2.1.2.2.2.2.1,x153.2.2.1.2.2.2.2.2.1,x153.2.2.1.2.2.2.2.2.2),x153.2.2.2.1,x153.2.2.2.2)]).length (104:Nat) then
 co k v0 v1 v2  n (s38) (s39) (s40) (s41) (IntKind.i64.wrap (s52+(1:Int))) (s54++[(x153.1,x153.2.1,(x153.2.2.1.1,x153.2.2.1.2.1,x153.2.2.1.2.2.1,x153.2.2.1.2.2.2.1,x153.2.2.1.2.2.2.2.1,x153.2.2.1.2.2.2.2.2.1,x153.2.2.1.2.2.2.2.2.2),x153.2.2.2.1,x153.2.2.2.2)]) ((11:Nat))
 else
 none)
 else
 bE k v0 v1 v2 (k+(21:Nat)) (s38) (s39) (s41) (s54) ((0:Int)) ([]) ((0:Nat)) (s40.length) (s40)
theorem fL (k:Nat) (v0_0 v0_1 v0_2 v0_3:Int) (v1:List (Int×List Int)) (v2:List (List Int)):∀ (n:Nat) (s38:List (Int×List Int)) (s39:List Int) (s40:List Int) (s41:Nat) (s52:Int) (s54:List (Int×List (Int×Int×Int)×(Int×Int×Int×Int×Int×Int×Int)×Int×Int)) (s55:Nat) ⦃s34:Bool⦄ ⦃s35:Bool⦄ ⦃s36:Bool⦄ ⦃s37:Bool⦄ ⦃s53:Nat⦄ ⦃j51:V⦄,rt none (itX (xX (xS (k+(21:Nat))) (23:Nat) (0:Nat) (k+(21:Nat)) false) EY ((14:Nat)) (au (xX (xS (k+(21:Nat))) (23:Nat) (0:Nat) (k+(21:Nat)) false) (aA (xS (k+(21:Nat))).P Tryz.f23) Fc) n ⟨(V.agg [V.lit (Value.int IntKind.i64 v0_0),V.lit (Value.int IntKind.i64 v0_1),V.lit (Value.int IntKind.i64 v0_2),V.lit (Value.int IntKind.i64 v0_3)]::V.ro (List.map an v1)::V.ro (List.map cU v2)::V.ptr (0:Nat) (0:Nat) (0:Nat) (0:Nat)::uu::uu::V.ptr (5:Nat) (0:Nat) (0:Nat) (0:Nat)::V.lit (Value.bool false)::V.own (6:Nat) (0:Nat) s40.length::V.ptr (11:Nat) (0:Nat) (0:Nat) (0:Nat)::j51::uu::uu::uu::uu::uu::V.agg [V.lit (Value.int IntKind.i64 v0_0),V.lit (Value.int IntKind.i64 v0_1),V.lit (Value.int IntKind.i64 v0_2),V.lit (Value.int IntKind.i64 v0_3)]::V.lit (Value.bool s34)::V.lit (Value.bool s35)::V.lit (Value.bool false)::V.ro (List.map an v1)::V.lit (Value.bool s36)::V.lit (Value.bool s37)::V.lit (Value.bool s37)::V.lit (Value.bool false)::V.ro (List.map cU v2)::V.lit (Value.int IntKind.i64 (↑v2.length:Int))::V.lit (Value.bool (decide ((3:Int)<(↑v2.length:Int))))::V.lit (Value.bool (decide ((3:Int)<(↑v2.length:Int))))::uu::V.ro (List.map an v1)::V.own (6:Nat) (0:Nat) s40.length::V.agg [V.lit (Value.int IntKind.i64 v0_0),V.lit (Value.int IntKind.i64 v0_1),V.lit (Value.int IntKind.i64 v0_2),V.lit (Value.int IntKind.i64 v0_3)]::V.ro (List.map an v1)::V.ro (List.map an s38)::V.agg [V.lit (Value.int IntKind.i64 v0_0),V.lit (Value.int IntKind.i64 v0_1),V.lit (Value.int IntKind.i64 v0_2),V.lit (Value.int IntKind.i64 v0_3)]::V.ro (List.map (aG IntKind.u64) s39)::V.agg [V.lit (Value.int IntKind.i64 v0_0),V.lit (Value.int IntKind.i64 v0_1),V.lit (Value.int IntKind.i64 v0_2),V.lit (Value.int IntKind.i64 v0_3),V.ro (List.map an s38),V.ro (List.map (aG IntKind.u64) s39),V.nil,V.nil]::V.ptr (0:Nat) (0:Nat) (0:Nat) (0:Nat)::V.lit (Value.int IntKind.i64 v0_0)::V.lit (Value.int IntKind.i64 s52)::V.junk::V.junk::V.junk::V.junk::V.junk::V.junk::V.junk::V.junk::V.junk::V.junk::uu::uu::uu::uu::uu::uu::uu::uu::uu::uu::uu::uu::uu::uu::uu::uu::uu::uu::uu::uu::uu::uu::uu::uu::uu::uu::uu::uu::uu::uu::uu::uu::uu::[]),[B.box [V.lit (Value.int IntKind.i64 v0_0),V.lit (Value.int IntKind.i64 v0_1),V.lit (Value.int IntKind.i64 v0_2),V.lit (Value.int IntKind.i64 v0_3)],B.rows (0:Nat) [] (0:Nat) true,B.rows (0:Nat) [] (0:Nat) true,B.rows (0:Nat) [] (0:Nat) true,B.rows (0:Nat) [] (0:Nat) true,B.box [V.lit (Value.int IntKind.i64 (0:Int)),V.lit (Value.int IntKind.i64 (0:Int)),V.lit (Value.int IntKind.i64 (0:Int)),V.lit (Value.int IntKind.i64 (0:Int)),V.own (1:Nat) (0:Nat) (0:Nat),V.own (2:Nat) (0:Nat) (0:Nat),V.own (3:Nat) (0:Nat) (0:Nat),V.own (4:Nat) (0:Nat) (0:Nat)],B.rows s41 (List.map (aG IntKind.i64) s40) (0:Nat) true,B.rows (0:Nat) [] (0:Nat) true,B.rows (0:Nat) [] (0:Nat) true,B.rows (0:Nat) [] (0:Nat) true,B.rows (0:Nat) [] (0:Nat) true,B.box [V.lit (Value.int IntKind.i64 v0_0),V.lit (Value.int IntKind.i64 v0_1),V.lit (Value.int IntKind.i64 v0_2),V.lit (Value.int IntKind.i64 v0_3),V.ro (List.map an s38),V.ro (List.map (aG IntKind.u64) s39),V.own (12:Nat) s53 s54.length,V.own (13:Nat) (0:Nat) (0:Nat)],B.rows s55 (List.map aH s54) s53 true,B.rows (0:Nat) [] (0:Nat) true]⟩)=ob (co k (v0_0,v0_1,v0_2,v0_3) v1 v2  n s38 s39 s40 s41 s52 s54 s55) fun r=>some ((.tup [.agg [.lit (.int .i64 r.1.1.1),.lit (.int .i64 r.1.1.2.1),.lit (.int .i64 r.1.1.2.2.1),.lit (.int .i64 r.1.1.2.2.2),.ro (List.map an r.1.2.1),.ro (List.map (aG .u64) r.1.2.2.1),.ro (List.map aH r.1.2.2.2.1),.ro (List.map bL r.1.2.2.2.2)],.lit (.bool r.2)]),[]):=by
 intro n
 induction n with
 | zero=>intros;rfl
 | succ n ih=>
  intro s38 s39 s40 s41 s52 s54 s55 s34 s35 s36 s37 s53 j51
  rw [co]
  have hu2:=kE k v0_0 v0_1 v0_2 v0_3 v1 v2 (k+(21:Nat)) (s38) (s39) (s41) (s54) ((0:Int)) ([]) ((0:Nat)) (s40.length) (s40)
  try simp -implicitDefEqProofs only [List.map_nil,List.length_nil] at hu2
  simp (maxSteps:=2000000) -implicitDefEqProofs only [Uo,T4,T0,uw,u4,uV,uO,u2,gq,gl,gg,gc,Ub,TZ,T3,ud,gi,aM (g:=57),↓syP,syA,syD,Nat.reduceAdd,Nat.reduceSub,Nat.reduceMul,Nat.reduceLT,Nat.reduceLeDiff,Nat.reduceEqDiff,Nat.reduceBEq,Nat.reduceBNe,Int.reduceBEq,Int.reduceBNe,Int.reduceLT,Int.reduceLE,Int.reduceAdd,Int.reduceSub,Int.reduceNeg,syE,ai,ag,af,syW,xQ,cr,bT,mQ,eQ,ny,kT,eH,cC,er,Ou,ih,kE k v0_0 v0_1 v0_2 v0_3 v1 v2,hu2]
  all_goals simp -implicitDefEqProofs only [List.map_nil]
def gh (k:Nat) (v0:(Int×Int×Int×Int)) (v1:(List (Int×List Int))) (v2:(List (List Int))):Option (((Int×Int×Int×Int)×List (Int×List Int)×List Int×List (Int×List (Int×Int×Int)×(Int×Int×Int×Int×Int×Int×Int)×Int×Int)×List (Int×List Int×Int×Int×Int×Int×Int×Int×Int))×Bool):=
 ob (bK v0) fun x162=>
 bif !x162 then
 some (((0,0,0,0),[],[],[],[]),false)
 else
 ob (cw (k+2) v1) fun x163=>
 bif !x163 then
 some (((0,0,0,0),[],[],[],[]),false)
 else
 bif decide (3<(↑v2.length:Int)) then
 some (((0,0,0,0),[],[],[],[]),false)
 else
 ob (cw (k+1) v1) fun x164=>
 bif !x164 then
 ob (dN (k+19) v1) fun x165=>
 ob (iY (k+17) v0) fun x166=>
 co k v0 v1 v2 (k+21) x165 x166 ([]) 0 0 ([]) 0
 else
 ob (bn k (k+20) v1 (↑v1.length:Int) 0 [] 0 0) fun x167=>
 ob (dN (k+19) v1) fun x168=>
 ob (iY (k+17) v0) fun x169=>
 co k v0 v1 v2 (k+21) x168 x169 x167.2.1 x167.2.2 0 ([]) 0
theorem nh (k:Nat) (v0_0 v0_1 v0_2 v0_3:Int) (v1:List (Int×List Int)) (v2:List (List Int)):xC (k+22) none 23 [.agg [.lit (.int .i64 v0_0),.lit (.int .i64 v0_1),.lit (.int .i64 v0_2),.lit (.int .i64 v0_3)],.ro (List.map an v1),.ro (List.map cU v2)]=ob (gh k (v0_0,v0_1,v0_2,v0_3) v1 v2) fun r=>some ((.tup [.agg [.lit (.int .i64 r.1.1.1),.lit (.int .i64 r.1.1.2.1),.lit (.int .i64 r.1.1.2.2.1),.lit (.int .i64 r.1.1.2.2.2),.ro (List.map an r.1.2.1),.ro (List.map (aG .u64) r.1.2.2.1),.ro (List.map aH r.1.2.2.2.1),.ro (List.map bL r.1.2.2.2.2)],.lit (.bool r.2)]),[]):=by
 rw [aM]
 unfold gh
 have hl0:=fun (x173:List (Int×List Int)) (x174:List Int)=>fL k v0_0 v0_1 v0_2 v0_3 v1 v2 (k+(21:Nat)) (x173) (x174) ([]) ((0:Nat)) ((0:Int)) ([]) ((0:Nat))
 try simp -implicitDefEqProofs only [List.map_nil,List.length_nil] at hl0
 have hl1:=fun (x176:List (Int×List Int)) (x177:List Int) (x175:Nat×List Int×Nat)=>fL k v0_0 v0_1 v0_2 v0_3 v1 v2 (k+(21:Nat)) (x176) (x177) (x175.snd.fst) (x175.snd.snd) ((0:Int)) ([]) ((0:Nat))
 try simp -implicitDefEqProofs only [List.map_nil,List.length_nil] at hl1
 simp (maxSteps:=2000000) -implicitDefEqProofs only [Uo,T4,T0,uw,u4,uV,uO,u2,gq,gl,gg,gc,Ub,TZ,T3,ud,gi,aM (g:=57),↓syP,syA,syD,Nat.reduceAdd,Nat.reduceSub,Nat.reduceMul,Nat.reduceLT,Nat.reduceLeDiff,Nat.reduceEqDiff,Nat.reduceBEq,Nat.reduceBNe,Int.reduceBEq,Int.reduceBNe,Int.reduceLT,Int.reduceLE,Int.reduceAdd,Int.reduceSub,Int.reduceNeg,syE,ai,ag,af,syW,xQ,cr,bT,mQ,eH,cC,er,fL k v0_0 v0_1 v0_2 v0_3 v1 v2,hl0,hl1]
 all_goals simp -implicitDefEqProofs only [List.map_nil]
end Go.Ab
set_option maxRecDepth 100000
set_option linter.unusedVariables false
set_option linter.unusedSimpArgs false
namespace Go.Ab
open Go.Proofs
def eA (k:Nat) (v0:((Int×Int×Int×Int)×List (Int×List Int)×List Int×List (Int×List (Int×Int×Int)×(Int×Int×Int×Int×Int×Int×Int)×Int×Int)×List (Int×List Int×Int×Int×Int×Int×Int×Int×Int))) (v1:(Int×Int×Int)):Option (((Int×Int×Int×Int)×List (Int×List Int)×List Int×List (Int×List (Int×Int×Int)×(Int×Int×Int×Int×Int×Int×Int)×Int×Int)×List (Int×List Int×Int×Int×Int×Int×Int×Int×Int))×(List (Int×Int×Int))):=
 ob (cI k v0 [v1]) fun x2=>
 some (((x2.1.1.1,x2.1.1.2.1,x2.1.1.2.2.1,x2.1.1.2.2.2),x2.1.2),x2.2)
theorem i8 (k:Nat) (v0_0_0 v0_0_1 v0_0_2 v0_0_3:Int) (v0_1:List (Int×List Int)) (v0_2:List Int) (v0_3:List (Int×List (Int×Int×Int)×(Int×Int×Int×Int×Int×Int×Int)×Int×Int)) (v0_4:List (Int×List Int×Int×Int×Int×Int×Int×Int×Int)) (v1_0 v1_1 v1_2:Int):xC (k+64) none 24 [.agg [.lit (.int .i64 v0_0_0),.lit (.int .i64 v0_0_1),.lit (.int .i64 v0_0_2),.lit (.int .i64 v0_0_3),.ro (List.map an v0_1),.ro (List.map (aG .u64) v0_2),.ro (List.map aH v0_3),.ro (List.map bL v0_4)],.agg [.lit (.int .i64 v1_0),.lit (.int .i64 v1_1),.lit (.int .u64 v1_2)]]=ob (eA k ((v0_0_0,v0_0_1,v0_0_2,v0_0_3),v0_1,v0_2,v0_3,v0_4) (v1_0,v1_1,v1_2)) fun r=>some ((.tup [.agg [.lit (.int .i64 r.1.1.1),.lit (.int .i64 r.1.1.2.1),.lit (.int .i64 r.1.1.2.2.1),.lit (.int .i64 r.1.1.2.2.2),.ro (List.map an r.1.2.1),.ro (List.map (aG .u64) r.1.2.2.1),.ro (List.map aH r.1.2.2.2.1),.ro (List.map bL r.1.2.2.2.2)],.ro (List.map aE r.2)]),[]):=by
 rw [aM]
 unfold eA
 simp (maxSteps:=2000000) -implicitDefEqProofs only [aee,ac5,↓syP,syA,syD,Nat.reduceAdd,Nat.reduceSub,Nat.reduceMul,Nat.reduceLT,Nat.reduceLeDiff,Nat.reduceEqDiff,Nat.reduceBEq,Nat.reduceBNe,Int.reduceBEq,Int.reduceBNe,Int.reduceLT,Int.reduceLE,Int.reduceAdd,Int.reduceSub,Int.reduceNeg,syE,ai,ag,af,syW,xQ,iT]
 all_goals simp -implicitDefEqProofs only [List.map_nil]
end Go.Ab
set_option maxRecDepth 100000
set_option linter.unusedVariables false
set_option linter.unusedSimpArgs false
namespace Go.Ab
open Go.Proofs
def aU (k:Nat) (v0:(List (List Int)))  : Nat→Int→Option Bool
 | 0,_=>none
 | n+1,s3=>
 bif decide (s3<(↑v0.length:Int)) then
 bif decide (s3≤(10:Int)) then
 ob (idx v0 s3) fun x6=>
 bif decide ((60:Int)<(↑x6.length:Int)) then
 some (false)
 else
 aU k v0  n (IntKind.i64.wrap (s3+(1:Int)))
 else
 some (decide ((↑v0.length:Int)≤(10:Int)))
 else
 some (decide ((↑v0.length:Int)≤(10:Int)))
theorem fN (k:Nat) (v0:List (List Int)):∀ (n:Nat) (s3:Int),rt none (itX (xX (xS k) (22:Nat) (0:Nat) k false) n9 ((0:Nat)) (au (xX (xS k) (22:Nat) (0:Nat) k false) (aA (xS k).P Tryz.f22) Eg) n ⟨[V.ro (List.map cU v0),uu,V.lit (Value.bool false),V.lit (Value.int IntKind.i64 s3),V.junk,V.junk,V.junk,V.junk,V.junk,V.junk,V.junk,V.junk,V.junk,V.junk,V.junk,V.junk,V.junk,V.junk,V.junk,V.junk,uu,uu,uu],[]⟩)=ob (aU k v0  n s3) fun r=>some ((.lit (.bool r)),[]):=by
 intro n
 induction n with
 | zero=>intros;rfl
 | succ n ih=>
  intro s3
  rw [aU]
  simp (maxSteps:=2000000) -implicitDefEqProofs only [ac8,abP,acN,Iz,HD,nE,nG,↓syP,syA,syD,Nat.reduceAdd,Nat.reduceSub,Nat.reduceMul,Nat.reduceLT,Nat.reduceLeDiff,Nat.reduceEqDiff,Nat.reduceBEq,Nat.reduceBNe,Int.reduceBEq,Int.reduceBNe,Int.reduceLT,Int.reduceLE,Int.reduceAdd,Int.reduceSub,Int.reduceNeg,syE,ai,ag,af,syW,xQ,Ps,ih]
  all_goals simp -implicitDefEqProofs only [List.map_nil]
def bJ (k:Nat) (v0:(List (List Int))):Option Bool:=
 aU k v0 k 0
theorem dl (k:Nat) (v0:List (List Int)):xC (k+1) none 22 [.ro (List.map cU v0)]=ob (bJ k v0) fun r=>some ((.lit (.bool r)),[]):=by
 rw [aM]
 unfold bJ
 simp (maxSteps:=2000000) -implicitDefEqProofs only [ac8,abP,acN,Iz,HD,nE,nG,↓syP,syA,syD,Nat.reduceAdd,Nat.reduceSub,Nat.reduceMul,Nat.reduceLT,Nat.reduceLeDiff,Nat.reduceEqDiff,Nat.reduceBEq,Nat.reduceBNe,Int.reduceBEq,Int.reduceBNe,Int.reduceLT,Int.reduceLE,Int.reduceAdd,Int.reduceSub,Int.reduceNeg,syE,ai,ag,af,syW,xQ,fN k v0]
 all_goals simp -implicitDefEqProofs only [List.map_nil]
end Go.Ab
set_option maxRecDepth 100000
set_option linter.unusedVariables false
set_option linter.unusedSimpArgs false
namespace Go.Ab
open Go.Proofs
end Go.Ab
set_option maxRecDepth 100000
set_option linter.unusedVariables false
set_option linter.unusedSimpArgs false
namespace Go.Ab
open Go.Proofs
end Go.Ab
set_option maxRecDepth 100000
set_option maxHeartbeats 4000000
set_option linter.unusedVariables false
set_option linter.unusedSimpArgs false
namespace Go.Ab
open Go.Proofs
def awS:Nat→(Int×Int×Int×Int)×List (Int×List Int)×List Int×List (Int×List (Int×Int×Int)×(Int×Int×Int×Int×Int×Int×Int)×Int×Int)×List (Int×List Int×Int×Int×Int×Int×Int×Int×Int)
 | 0=>((1,1,1,0),[],List.replicate 12 0,[(0,[],(1,0,0,0,0,0,0),0,0)],[])
 | n+1=>match eA 0 (awS n) (0,0,0) with | some r=>r.1 | none=>((0,0,0,0),[],[],[],[])
def awR:=match cI 0 (awS 20) [(0,0,0),(2,0,0)] with | some r=>r.1 | none=>awS 0
abbrev awC (x:(Int×Int×Int×Int)×List (Int×List Int)×List Int×List (Int×List (Int×Int×Int)×(Int×Int×Int×Int×Int×Int×Int)×Int×Int)×List (Int×List Int×Int×Int×Int×Int×Int×Int×Int)):List V:=
 [.lit (.int .i64 x.1.1),.lit (.int .i64 x.1.2.1),.lit (.int .i64 x.1.2.2.1),.lit (.int .i64 x.1.2.2.2),.ro (List.map an x.2.1),.ro (List.map (aG .u64) x.2.2.1),.ro (List.map aH x.2.2.2.1),.ro (List.map bL x.2.2.2.2)]
section
variable (j:Nat)
theorem ad5:xC (j+79) none 23 [.agg [.lit (.int .i64 1),.lit (.int .i64 1),.lit (.int .i64 1),.lit (.int .i64 0)],.nil,.nil]=some (.tup [.agg (awC (awS 0)),.lit (.bool true)],[]):=by kernel_rfl
theorem ad1:xC (j+79) none 26 [.agg (awC (awS 0))]=some (.lit (.int .i64 0),[]):=by kernel_rfl
theorem aea:xC (j+79) none 25 [.agg (awC (awS 0))]=some (.lit (.bool false),[]):=by kernel_rfl
theorem adS:xC (j+79) none 29 [.agg (awC (awS 0))]=some (.lit (.bool false),[]):=by kernel_rfl
theorem adC:xC (j+79) none 20 [.agg (awC (awS 0))]=some (.lit (.bool true),[]):=by kernel_rfl
def awM:List Int:=[0,0,1,0,0,0,0,0,0,0,0,0]
def awW:List (Int×List (Int×Int×Int)×(Int×Int×Int×Int×Int×Int×Int)×Int×Int):=[(8,[],(5,3,0,0,0,0,0),0,0)]
theorem JH:awS 20=((1,1,1,0),[],awM,awW,[]):=by kernel_rfl
theorem U5:awR=((1,1,1,0),[],[0,0,1,1,0,0,0,0,0,0,0,0],awW,[]):=by kernel_rfl
theorem abH:xC (j+79) none 25 [.agg (awC (awS 20))]=some (.lit (.bool true),[]):=by
 rw [JH]
 kernel_rfl
theorem abu:xC (j+79) none 29 [.agg (awC (awS 20))]=some (.lit (.bool true),[]):=by
 rw [JH]
 kernel_rfl
theorem ad8:xC (j+79) none 19 [.agg (awC (awS 20)),.agg (awC (awS 20))]=some (.lit (.bool true),[]):=by
 rw [JH]
 kernel_rfl
theorem acC:xC (j+79) none 20 [.agg (awC awR)]=some (.lit (.bool true),[]):=by
 rw [U5]
 kernel_rfl
theorem ad4:xC (j+79) none 17 [.agg (awC (awS 20)),.ro (List.map dg [(0,0,0),(2,0,0)])]=some (.tup [.agg (awC awR),.ro []],[]):=(iT (j+16) _ _ _ _ _ _ _ _ _).trans (by kernel_rfl)
theorem adX:∀ i:Nat,i<20→xC (j+79) none 24 [.agg (awC (awS i)),.agg [.lit (.int .i64 0),.lit (.int .i64 0),.lit (.int .u64 0)]]=some (.tup [.agg (awC (awS (i+1))),.ro []],[]):=by
 intro i hi
 refine (i8 (j+15) _ _ _ _ _ _ _ _ _ _ _).trans ?_
 iterate 20
  rcases i with _ | i
  ·kernel_rfl
 omega
end
theorem aww {z:Int} (h:0≤z) (h':z≤99):IntKind.i64.wrap z=z:=ID (by omega) (by omega)
theorem IM (j:Nat):xC (j+80) none 15 []=some (.lit (.bool true),[]):=by
 rw [aM]
 simp (maxSteps:=2000000) -implicitDefEqProofs only [aef,adp,ac1,Pw,PA,OW,Px,Pu,OJ,OA,O1,Pr,PF,uI,uQ,uk,↓syP,syA,syD,Nat.reduceAdd,Nat.reduceSub,Nat.reduceMul,Nat.reduceLT,Nat.reduceLeDiff,Nat.reduceEqDiff,Nat.reduceBEq,Nat.reduceBNe,Int.reduceBEq,Int.reduceBNe,Int.reduceLT,Int.reduceLE,Int.reduceAdd,Int.reduceSub,Int.reduceNeg,syE,ai,ag,af,syW,xQ,ad5,ad1,aea,adS,adC,abH,abu,ad8,acC,ad4,adX,Pf,awC,aww,decide_true,decide_false,cond_true,cond_false]
end Go.Ab
