/- Functions as they are walked: printed by Walk.lean. -/
import Derived.Test.YtcmdnjaenhbdpaaGreatR5GK
import Derived.Test.YtcmdnjaenhbdpaaGreatR5B6
import Derived.Test.YtcmdnjaenhbdpaaGreatR5BN
import Derived.Test.YtcmdnjaenhbdpaaGreatR5Awk
import Derived.Test.YtcmdnjaenhbdpaaGreatR5BL4
set_option linter.unusedVariables false
set_option linter.unusedSimpArgs false
set_option maxRecDepth 100000
set_option linter.unusedVariables false
set_option linter.unusedSimpArgs false
namespace Go.Ab
open Go.Proofs
def g_poacherlaw18_WorkCounts_L0 (k : Nat) (v0 : (Int × Int × Int × Int)) (v1 : (List (Int × List Int))) (v2 : (List Int)) (v3 : Int) (v4 : (Int × List (Int × Int × Int) × (Int × Int × Int × Int × Int × Int × Int) × Int × Int)) (v5 : Int)  : Nat → List Int → List (Int × Int × Int) → Int → Int → Bool → Int → Option Bool
 | 0,_,_,_,_,_,_ => none
 | n + 1,s14,s15,s16,s17,s61,s62 =>
 bif decide (s62 < (↑s15.length : Int)) then
 ob (idx s15 s62) fun x95 =>
 bif x95.1 == (3 : Int) then
 ob (idx s15 s62) fun x96 =>
 bif x96.1 == (4 : Int) then
 bif s61 then
 g_poacherlaw18_WorkCounts_L0 k v0 v1 v2 v3 v4 v5  n (s14) (s15) (s16) (IntKind.u64.wrap (IntKind.u64.wrap (s17 + (1 : Int)) - (1 : Int))) (true) (IntKind.i64.wrap (s62 + (1 : Int)))
 else
 ob (idx s15 s62) fun x97 =>
 g_poacherlaw18_WorkCounts_L0 k v0 v1 v2 v3 v4 v5  n (s14) (s15) (s16) (IntKind.u64.wrap (IntKind.u64.wrap (s17 + (1 : Int)) - (1 : Int))) (x97.1 == (5 : Int)) (IntKind.i64.wrap (s62 + (1 : Int)))
 else
 bif s61 then
 g_poacherlaw18_WorkCounts_L0 k v0 v1 v2 v3 v4 v5  n (s14) (s15) (s16) (IntKind.u64.wrap (s17 + (1 : Int))) (true) (IntKind.i64.wrap (s62 + (1 : Int)))
 else
 ob (idx s15 s62) fun x98 =>
 g_poacherlaw18_WorkCounts_L0 k v0 v1 v2 v3 v4 v5  n (s14) (s15) (s16) (IntKind.u64.wrap (s17 + (1 : Int))) (x98.1 == (5 : Int)) (IntKind.i64.wrap (s62 + (1 : Int)))
 else
 ob (idx s15 s62) fun x99 =>
 bif x99.1 == (4 : Int) then
 bif s61 then
 g_poacherlaw18_WorkCounts_L0 k v0 v1 v2 v3 v4 v5  n (s14) (s15) (s16) (IntKind.u64.wrap (s17 - (1 : Int))) (true) (IntKind.i64.wrap (s62 + (1 : Int)))
 else
 ob (idx s15 s62) fun x100 =>
 g_poacherlaw18_WorkCounts_L0 k v0 v1 v2 v3 v4 v5  n (s14) (s15) (s16) (IntKind.u64.wrap (s17 - (1 : Int))) (x100.1 == (5 : Int)) (IntKind.i64.wrap (s62 + (1 : Int)))
 else
 bif s61 then
 g_poacherlaw18_WorkCounts_L0 k v0 v1 v2 v3 v4 v5  n (s14) (s15) (s16) (s17) (true) (IntKind.i64.wrap (s62 + (1 : Int)))
 else
 ob (idx s15 s62) fun x101 =>
 g_poacherlaw18_WorkCounts_L0 k v0 v1 v2 v3 v4 v5  n (s14) (s15) (s16) (s17) (x101.1 == (5 : Int)) (IntKind.i64.wrap (s62 + (1 : Int)))
 else
 ob (g_cell_Load s14 (1 : Int)) fun x102 =>
 bif x102 == s16 then
 ob (g_cell_Load s14 (0 : Int)) fun x103 =>
 bif x103 == s17 then
 ob (g_cell_Load v2 (0 : Int)) fun x104 =>
 bif x104 == (1 : Int) then
 some (s61 == (s17 == (0 : Int)))
 else
 some (s61 == false)
 else
 some (false)
 else
 some (false)
theorem g_poacherlaw18_WorkCounts_L0_eq (k : Nat) (v0_0 v0_1 v0_2 v0_3 : Int) (v1 : List (Int × List Int)) (v2 : List Int) (v3 v4_0 : Int) (v4_1 : List (Int × Int × Int)) (v4_2_0 v4_2_1 v4_2_2 v4_2_3 v4_2_4 v4_2_5 v4_2_6 v4_3 v4_4 v5 : Int) : ∀ (n : Nat) (s14 : List Int) (s15 : List (Int × Int × Int)) (s16 : Int) (s17 : Int) (s61 : Bool) (s62 : Int) ⦃s13 : Bool⦄ ⦃s18 : Bool⦄ ⦃s19 : Bool⦄ ⦃s20 : Bool⦄ ⦃s21 : Int⦄ ⦃s22 : List (Int × Int × Int)⦄ ⦃s23 : Int⦄ ⦃s24 : Int⦄ ⦃s25 : Int⦄ ⦃s26 : Int⦄ ⦃s27 : Int⦄ ⦃s28 : Int⦄ ⦃s29 : Int⦄ ⦃s30 : Int⦄ ⦃s31 : Int⦄ ⦃s32 : Int⦄ ⦃s33 : Bool⦄ ⦃s35 : Bool⦄ ⦃s63 : Int⦄ ⦃j36 j37 j38 j39 : V⦄,rt none (itX (xX (xS (k + (60 : Nat))) (4 : Nat) (0 : Nat) (k + (60 : Nat)) false) xl4_0 ((4 : Nat)) (runK (xX (xS (k + (60 : Nat))) (4 : Nat) (0 : Nat) (k + (60 : Nat)) false) (bodyK (xS (k + (60 : Nat))).P Tryz.f4) xk4_3) n ⟨(V.agg [V.lit (Value.int IntKind.i64 v0_0),V.lit (Value.int IntKind.i64 v0_1),V.lit (Value.int IntKind.i64 v0_2),V.lit (Value.int IntKind.i64 v0_3)] :: V.ro (List.map taskV v1) :: V.ro (List.map (intR IntKind.u64) v2) :: V.lit (Value.int IntKind.i64 v3) :: V.agg [V.lit (Value.int IntKind.i64 v4_0),V.ro (List.map threeV v4_1),V.lit (Value.int IntKind.i64 v4_2_0),V.lit (Value.int IntKind.i64 v4_2_1),V.lit (Value.int IntKind.i64 v4_2_2),V.lit (Value.int IntKind.u64 v4_2_3),V.lit (Value.int IntKind.u64 v4_2_4),V.lit (Value.int IntKind.u64 v4_2_5),V.lit (Value.int IntKind.i64 v4_2_6),V.lit (Value.int IntKind.i64 v4_3),V.lit (Value.int IntKind.i64 v4_4)] :: V.lit (Value.int IntKind.u64 v5) :: V.ptr (0 : Nat) (0 : Nat) (0 : Nat) (0 : Nat) :: uu :: uu :: uu :: V.ptr (1 : Nat) (0 : Nat) (0 : Nat) (0 : Nat) :: uu :: V.lit (Value.bool false) :: V.lit (Value.bool true) :: V.lit (Value.bool s13) :: V.ro (List.map (intR IntKind.u64) s14) :: V.ptr (3 : Nat) (0 : Nat) (0 : Nat) (0 : Nat) :: V.ro (List.map threeV s15) :: V.lit (Value.int IntKind.u64 s16) :: V.lit (Value.int IntKind.u64 s17) :: V.lit (Value.bool s61) :: V.lit (Value.int IntKind.i64 s62) :: V.lit (Value.bool true) :: V.ro (List.map taskV v1) :: V.agg [V.lit (Value.int IntKind.i64 v4_0),V.ro (List.map threeV v4_1),V.lit (Value.int IntKind.i64 v4_2_0),V.lit (Value.int IntKind.i64 v4_2_1),V.lit (Value.int IntKind.i64 v4_2_2),V.lit (Value.int IntKind.u64 v4_2_3),V.lit (Value.int IntKind.u64 v4_2_4),V.lit (Value.int IntKind.u64 v4_2_5),V.lit (Value.int IntKind.i64 v4_2_6),V.lit (Value.int IntKind.i64 v4_3),V.lit (Value.int IntKind.i64 v4_4)] :: V.lit (Value.bool s13) :: V.lit (Value.bool true) :: V.lit (Value.bool false) :: V.lit (Value.bool false) :: V.lit (Value.bool s13) :: V.lit (Value.bool s18) :: V.lit (Value.bool s18) :: V.lit (Value.bool false) :: V.ro (List.map (intR IntKind.u64) v2) :: V.lit (Value.int IntKind.i64 (↑v2.length : Int)) :: V.lit (Value.bool (decide ((500 : Int) < (↑v2.length : Int)))) :: V.lit (Value.bool (decide ((500 : Int) < (↑v2.length : Int)))) :: V.lit (Value.bool false) :: V.agg [V.lit (Value.int IntKind.i64 v0_0),V.lit (Value.int IntKind.i64 v0_1),V.lit (Value.int IntKind.i64 v0_2),V.lit (Value.int IntKind.i64 v0_3)] :: V.ro (List.map taskV v1) :: V.ro (List.map (intR IntKind.u64) v2) :: V.lit (Value.int IntKind.i64 v3) :: V.agg [V.lit (Value.int IntKind.i64 v4_0),V.ro (List.map threeV v4_1),V.lit (Value.int IntKind.i64 v4_2_0),V.lit (Value.int IntKind.i64 v4_2_1),V.lit (Value.int IntKind.i64 v4_2_2),V.lit (Value.int IntKind.u64 v4_2_3),V.lit (Value.int IntKind.u64 v4_2_4),V.lit (Value.int IntKind.u64 v4_2_5),V.lit (Value.int IntKind.i64 v4_2_6),V.lit (Value.int IntKind.i64 v4_3),V.lit (Value.int IntKind.i64 v4_4)] :: V.lit (Value.bool s19) :: V.lit (Value.bool s20) :: V.lit (Value.bool s20) :: uu :: V.tup [V.ro (List.map (intR IntKind.u64) s14),V.agg [V.lit (Value.int IntKind.i64 s21),V.ro (List.map threeV s22),V.lit (Value.int IntKind.i64 s23),V.lit (Value.int IntKind.i64 s24),V.lit (Value.int IntKind.i64 s25),V.lit (Value.int IntKind.u64 s26),V.lit (Value.int IntKind.u64 s27),V.lit (Value.int IntKind.u64 s28),V.lit (Value.int IntKind.i64 s29),V.lit (Value.int IntKind.i64 s30),V.lit (Value.int IntKind.i64 s31)],V.ro (List.map threeV s15)] :: V.agg [V.lit (Value.int IntKind.i64 v0_0),V.lit (Value.int IntKind.i64 v0_1),V.lit (Value.int IntKind.i64 v0_2),V.lit (Value.int IntKind.i64 v0_3)] :: V.ro (List.map taskV v1) :: V.ro (List.map (intR IntKind.u64) v2) :: V.lit (Value.int IntKind.i64 v3) :: V.agg [V.lit (Value.int IntKind.i64 v4_0),V.ro (List.map threeV v4_1),V.lit (Value.int IntKind.i64 v4_2_0),V.lit (Value.int IntKind.i64 v4_2_1),V.lit (Value.int IntKind.i64 v4_2_2),V.lit (Value.int IntKind.u64 v4_2_3),V.lit (Value.int IntKind.u64 v4_2_4),V.lit (Value.int IntKind.u64 v4_2_5),V.lit (Value.int IntKind.i64 v4_2_6),V.lit (Value.int IntKind.i64 v4_3),V.lit (Value.int IntKind.i64 v4_4)] :: V.lit (Value.int IntKind.u64 v5) :: V.tup [V.ro (List.map (intR IntKind.u64) s14),V.agg [V.lit (Value.int IntKind.i64 s21),V.ro (List.map threeV s22),V.lit (Value.int IntKind.i64 s23),V.lit (Value.int IntKind.i64 s24),V.lit (Value.int IntKind.i64 s25),V.lit (Value.int IntKind.u64 s26),V.lit (Value.int IntKind.u64 s27),V.lit (Value.int IntKind.u64 s28),V.lit (Value.int IntKind.i64 s29),V.lit (Value.int IntKind.i64 s30),V.lit (Value.int IntKind.i64 s31)],V.ro (List.map threeV s15)] :: V.ro (List.map (intR IntKind.u64) s14) :: V.agg [V.lit (Value.int IntKind.i64 s21),V.ro (List.map threeV s22),V.lit (Value.int IntKind.i64 s23),V.lit (Value.int IntKind.i64 s24),V.lit (Value.int IntKind.i64 s25),V.lit (Value.int IntKind.u64 s26),V.lit (Value.int IntKind.u64 s27),V.lit (Value.int IntKind.u64 s28),V.lit (Value.int IntKind.i64 s29),V.lit (Value.int IntKind.i64 s30),V.lit (Value.int IntKind.i64 s31)] :: V.ro (List.map threeV s15) :: V.ro (List.map (intR IntKind.u64) v2) :: V.lit (Value.int IntKind.u64 s32) :: V.agg [V.lit (Value.int IntKind.i64 s21),V.ro (List.map threeV s22),V.lit (Value.int IntKind.i64 s23),V.lit (Value.int IntKind.i64 s24),V.lit (Value.int IntKind.i64 s25),V.lit (Value.int IntKind.u64 s26),V.lit (Value.int IntKind.u64 s27),V.lit (Value.int IntKind.u64 s28),V.lit (Value.int IntKind.i64 s29),V.lit (Value.int IntKind.i64 s30),V.lit (Value.int IntKind.i64 s31)] :: V.lit (Value.bool s33) :: j38 :: j39 :: V.agg [V.lit (Value.int IntKind.i64 v4_0),V.ro (List.map threeV v4_1),V.lit (Value.int IntKind.i64 v4_2_0),V.lit (Value.int IntKind.i64 v4_2_1),V.lit (Value.int IntKind.i64 v4_2_2),V.lit (Value.int IntKind.u64 v4_2_3),V.lit (Value.int IntKind.u64 v4_2_4),V.lit (Value.int IntKind.u64 v4_2_5),V.lit (Value.int IntKind.i64 v4_2_6),V.lit (Value.int IntKind.i64 v4_3),V.lit (Value.int IntKind.i64 v4_4)] :: V.lit (Value.bool s35) :: j36 :: j37 :: V.ro (List.map (intR IntKind.u64) v2) :: V.lit (Value.int IntKind.u64 s63) :: V.junk :: V.junk :: V.junk :: V.junk :: V.junk :: V.junk :: V.junk :: V.junk :: V.junk :: V.junk :: V.junk :: V.junk :: V.junk :: V.junk :: V.junk :: V.junk :: V.junk :: V.junk :: V.junk :: V.junk :: V.junk :: V.junk :: V.junk :: V.junk :: V.junk :: V.junk :: V.junk :: V.junk :: V.junk :: V.junk :: V.junk :: uu :: uu :: uu :: uu :: uu :: uu :: uu :: uu :: uu :: uu :: uu :: uu :: uu :: uu :: uu :: uu :: uu :: uu :: uu :: uu :: uu :: []),[B.box [V.lit (Value.int IntKind.i64 v0_0),V.lit (Value.int IntKind.i64 v0_1),V.lit (Value.int IntKind.i64 v0_2),V.lit (Value.int IntKind.i64 v0_3)],B.box [V.lit (Value.int IntKind.i64 v4_0),V.ro (List.map threeV v4_1),V.lit (Value.int IntKind.i64 v4_2_0),V.lit (Value.int IntKind.i64 v4_2_1),V.lit (Value.int IntKind.i64 v4_2_2),V.lit (Value.int IntKind.u64 v4_2_3),V.lit (Value.int IntKind.u64 v4_2_4),V.lit (Value.int IntKind.u64 v4_2_5),V.lit (Value.int IntKind.i64 v4_2_6),V.lit (Value.int IntKind.i64 v4_3),V.lit (Value.int IntKind.i64 v4_4)],B.rows (0 : Nat) [] (0 : Nat) true,B.box [V.lit (Value.int IntKind.i64 s21),V.ro (List.map threeV s22),V.lit (Value.int IntKind.i64 s23),V.lit (Value.int IntKind.i64 s24),V.lit (Value.int IntKind.i64 s25),V.lit (Value.int IntKind.u64 s26),V.lit (Value.int IntKind.u64 s27),V.lit (Value.int IntKind.u64 s28),V.lit (Value.int IntKind.i64 s29),V.lit (Value.int IntKind.i64 s30),V.lit (Value.int IntKind.i64 s31)]]⟩) = ob (g_poacherlaw18_WorkCounts_L0 k (v0_0,v0_1,v0_2,v0_3) v1 v2 v3 (v4_0,v4_1,(v4_2_0,v4_2_1,v4_2_2,v4_2_3,v4_2_4,v4_2_5,v4_2_6),v4_3,v4_4) v5  n s14 s15 s16 s17 s61 s62) fun r => some ((.lit (.bool r)),[]) := by
  intro n
  induction n with
  | zero => intros; rfl
  | succ n ih =>
    intro s14 s15 s16 s17 s61 s62 s13 s18 s19 s20 s21 s22 s23 s24 s25 s26 s27 s28 s29 s30 s31 s32 s33 s35 s63 j36 j37 j38 j39
    rw [g_poacherlaw18_WorkCounts_L0]
    simp (maxSteps := 2000000) -implicitDefEqProofs only [xe4,xb4,xz4,xm4_0,xm4_1,xm4_2,xj4_3,xj4_4,xj4_5,xj4_6,xm4_7,xj4_8,xm4_9,xm4_10,xm4_11,xm4_12,xm4_13,xk4_0_ret,xk4_1_ret,xk4_2_ret,xk4_3_ret,xk4_4_ret,xk4_5_ret,xk4_6_ret,xk4_7_ret,↓syP,syA,syD,Nat.reduceAdd,Nat.reduceSub,Nat.reduceMul,Nat.reduceLT,Nat.reduceLeDiff,Nat.reduceEqDiff,Nat.reduceBEq,Nat.reduceBNe,Int.reduceBEq,Int.reduceBNe,Int.reduceLT,Int.reduceLE,Int.reduceAdd,Int.reduceSub,Int.reduceNeg,syE,killR_cons,retype_intC,retype_threeC,xQ,awk18',h_cell_Load,h_work_May,h_work_Seeks,h_poacherlaw18_Few,h_work_Step,xr4_0,ih]
    all_goals simp -implicitDefEqProofs only [List.map_nil]
def g_poacherlaw18_WorkCounts (k : Nat) (v0 : (Int × Int × Int × Int)) (v1 : (List (Int × List Int))) (v2 : (List Int)) (v3 : Int) (v4 : (Int × List (Int × Int × Int) × (Int × Int × Int × Int × Int × Int × Int) × Int × Int)) (v5 : Int) : Option Bool :=
 ob (g_poacherlaw18_Few (k + (58 : Nat)) v1 (v4.1,v4.2.1,(v4.2.2.1.1,v4.2.2.1.2.1,v4.2.2.1.2.2.1,v4.2.2.1.2.2.2.1,v4.2.2.1.2.2.2.2.1,v4.2.2.1.2.2.2.2.2.1,v4.2.2.1.2.2.2.2.2.2),v4.2.2.2.1,v4.2.2.2.2)) fun x105 =>
 bif !x105 then
 some (true)
 else
 bif decide ((500 : Int) < (↑v2.length : Int)) then
 some (true)
 else
 ob (g_work_May (k + (36 : Nat)) (v0.1,v0.2.1,v0.2.2.1,v0.2.2.2) v1 v2 v3 (v4.1,v4.2.1,(v4.2.2.1.1,v4.2.2.1.2.1,v4.2.2.1.2.2.1,v4.2.2.1.2.2.2.1,v4.2.2.1.2.2.2.2.1,v4.2.2.1.2.2.2.2.2.1,v4.2.2.1.2.2.2.2.2.2),v4.2.2.2.1,v4.2.2.2.2)) fun x106 =>
 bif !x106 then
 some (true)
 else
 ob (g_work_Step k (v0.1,v0.2.1,v0.2.2.1,v0.2.2.2) v1 v2 v3 (v4.1,v4.2.1,(v4.2.2.1.1,v4.2.2.1.2.1,v4.2.2.1.2.2.1,v4.2.2.1.2.2.2.1,v4.2.2.1.2.2.2.2.1,v4.2.2.1.2.2.2.2.2.1,v4.2.2.1.2.2.2.2.2.2),v4.2.2.2.1,v4.2.2.2.2) v5) fun x107 =>
 ob (g_cell_Load v2 (1 : Int)) fun x108 =>
 ob (g_work_Seeks (k + (57 : Nat)) (x107.2.1.1,x107.2.1.2.1,(x107.2.1.2.2.1.1,x107.2.1.2.2.1.2.1,x107.2.1.2.2.1.2.2.1,x107.2.1.2.2.1.2.2.2.1,x107.2.1.2.2.1.2.2.2.2.1,x107.2.1.2.2.1.2.2.2.2.2.1,x107.2.1.2.2.1.2.2.2.2.2.2),x107.2.1.2.2.2.1,x107.2.1.2.2.2.2)) fun x109 =>
 bif x109 then
 ob (g_work_Seeks (k + (57 : Nat)) (v4.1,v4.2.1,(v4.2.2.1.1,v4.2.2.1.2.1,v4.2.2.1.2.2.1,v4.2.2.1.2.2.2.1,v4.2.2.1.2.2.2.2.1,v4.2.2.1.2.2.2.2.2.1,v4.2.2.1.2.2.2.2.2.2),v4.2.2.2.1,v4.2.2.2.2)) fun x110 =>
 bif x110 then
 ob (g_cell_Load v2 (0 : Int)) fun x111 =>
 g_poacherlaw18_WorkCounts_L0 k v0 v1 v2 v3 v4 v5 (k + (60 : Nat)) (x107.1) (x107.2.2) (IntKind.u64.wrap (IntKind.u64.wrap (x108 + (1 : Int)) - (1 : Int))) (x111) (false) ((0 : Int))
 else
 ob (g_cell_Load v2 (0 : Int)) fun x112 =>
 g_poacherlaw18_WorkCounts_L0 k v0 v1 v2 v3 v4 v5 (k + (60 : Nat)) (x107.1) (x107.2.2) (IntKind.u64.wrap (x108 + (1 : Int))) (x112) (false) ((0 : Int))
 else
 ob (g_work_Seeks (k + (57 : Nat)) (v4.1,v4.2.1,(v4.2.2.1.1,v4.2.2.1.2.1,v4.2.2.1.2.2.1,v4.2.2.1.2.2.2.1,v4.2.2.1.2.2.2.2.1,v4.2.2.1.2.2.2.2.2.1,v4.2.2.1.2.2.2.2.2.2),v4.2.2.2.1,v4.2.2.2.2)) fun x113 =>
 bif x113 then
 ob (g_cell_Load v2 (0 : Int)) fun x114 =>
 g_poacherlaw18_WorkCounts_L0 k v0 v1 v2 v3 v4 v5 (k + (60 : Nat)) (x107.1) (x107.2.2) (IntKind.u64.wrap (x108 - (1 : Int))) (x114) (false) ((0 : Int))
 else
 ob (g_cell_Load v2 (0 : Int)) fun x115 =>
 g_poacherlaw18_WorkCounts_L0 k v0 v1 v2 v3 v4 v5 (k + (60 : Nat)) (x107.1) (x107.2.2) (x108) (x115) (false) ((0 : Int))
theorem h_poacherlaw18_WorkCounts (k : Nat) (v0_0 v0_1 v0_2 v0_3 : Int) (v1 : List (Int × List Int)) (v2 : List Int) (v3 v4_0 : Int) (v4_1 : List (Int × Int × Int)) (v4_2_0 v4_2_1 v4_2_2 v4_2_3 v4_2_4 v4_2_5 v4_2_6 v4_3 v4_4 v5 : Int) : xC (k + 61) none 4 [.agg [.lit (.int .i64 v0_0),.lit (.int .i64 v0_1),.lit (.int .i64 v0_2),.lit (.int .i64 v0_3)],.ro (List.map taskV v1),.ro (List.map (intR .u64) v2),.lit (.int .i64 v3),.agg [.lit (.int .i64 v4_0),.ro (List.map threeV v4_1),.lit (.int .i64 v4_2_0),.lit (.int .i64 v4_2_1),.lit (.int .i64 v4_2_2),.lit (.int .u64 v4_2_3),.lit (.int .u64 v4_2_4),.lit (.int .u64 v4_2_5),.lit (.int .i64 v4_2_6),.lit (.int .i64 v4_3),.lit (.int .i64 v4_4)],.lit (.int .u64 v5)] = ob (g_poacherlaw18_WorkCounts k (v0_0,v0_1,v0_2,v0_3) v1 v2 v3 (v4_0,v4_1,(v4_2_0,v4_2_1,v4_2_2,v4_2_3,v4_2_4,v4_2_5,v4_2_6),v4_3,v4_4) v5) fun r => some ((.lit (.bool r)),[]) := by
  rw [xC_eq]
  unfold g_poacherlaw18_WorkCounts
  simp (maxSteps := 2000000) -implicitDefEqProofs only [xe4,xb4,xz4,xm4_0,xm4_1,xm4_2,xj4_3,xj4_4,xj4_5,xj4_6,xm4_7,xj4_8,xm4_9,xm4_10,xm4_11,xm4_12,xm4_13,xk4_0_ret,xk4_1_ret,xk4_2_ret,xk4_3_ret,xk4_4_ret,xk4_5_ret,xk4_6_ret,xk4_7_ret,↓syP,syA,syD,Nat.reduceAdd,Nat.reduceSub,Nat.reduceMul,Nat.reduceLT,Nat.reduceLeDiff,Nat.reduceEqDiff,Nat.reduceBEq,Nat.reduceBNe,Int.reduceBEq,Int.reduceBNe,Int.reduceLT,Int.reduceLE,Int.reduceAdd,Int.reduceSub,Int.reduceNeg,syE,killR_cons,retype_intC,retype_threeC,xQ,awk18',h_cell_Load,h_work_May,h_work_Seeks,h_poacherlaw18_Few,h_work_Step,g_poacherlaw18_WorkCounts_L0_eq k v0_0 v0_1 v0_2 v0_3 v1 v2 v3 v4_0 v4_1 v4_2_0 v4_2_1 v4_2_2 v4_2_3 v4_2_4 v4_2_5 v4_2_6 v4_3 v4_4 v5]
  all_goals simp -implicitDefEqProofs only [List.map_nil]
end Go.Ab
