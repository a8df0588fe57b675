/- Functions as they are walked: printed by Walk.lean. -/
import Derived.Test.YtcmdnjaenhbdpaaGreatR5GK
import Derived.Test.YtcmdnjaenhbdpaaGreatR5B6
import Derived.Test.YtcmdnjaenhbdpaaGreatR5BN
import Derived.Test.YtcmdnjaenhbdpaaGreatR5Awk
import Derived.Test.YtcmdnjaenhbdpaaGreatR5BL3
set_option linter.unusedVariables false
set_option linter.unusedSimpArgs false
set_option maxRecDepth 100000
set_option linter.unusedVariables false
set_option linter.unusedSimpArgs false
namespace Go.Ab
open Go.Proofs
def g_poacherlaw18_WorkCell_L0 (k : Nat) (v0 : (Int × Int × Int × Int)) (v1 : (List (Int × List Int))) (v2 : (List Int)) (v3 : Int) (v4 : (Int × List (Int × Int × Int) × (Int × Int × Int × Int × Int × Int × Int) × Int × Int)) (v5 : Int)  : Nat → List Int → List (Int × Int × Int) → Int → List (Int × Int × Int) → Int → Int → Int → Int → Int → Int → Int → Int → Int → Int → Int → Option Bool
 | 0,_,_,_,_,_,_,_,_,_,_,_,_,_,_,_ => none
 | n + 1,s5,s6,s8,s9,s10,s11,s12,s13,s14,s15,s16,s17,s18,s31,s32 =>
 bif decide (s32 < (↑v2.length : Int)) then
 ob (idx s5 s32) fun x47 =>
 ob (idx v2 s32) fun x48 =>
 bif x47 != x48 then
 g_poacherlaw18_WorkCell_L0 k v0 v1 v2 v3 v4 v5  n (s5) (s6) (s8) (s9) (s10) (s11) (s12) (s13) (s14) (s15) (s16) (s17) (s18) (IntKind.i64.wrap (s31 + (1 : Int))) (IntKind.i64.wrap (s32 + (1 : Int)))
 else
 g_poacherlaw18_WorkCell_L0 k v0 v1 v2 v3 v4 v5  n (s5) (s6) (s8) (s9) (s10) (s11) (s12) (s13) (s14) (s15) (s16) (s17) (s18) (s31) (IntKind.i64.wrap (s32 + (1 : Int)))
 else
 ob (g_work_May (k + (36 : Nat)) (v0.1,v0.2.1,v0.2.2.1,v0.2.2.2) v1 v2 v3 (v4.1,v4.2.1,(v4.2.2.1.1,v4.2.2.1.2.1,v4.2.2.1.2.2.1,v4.2.2.1.2.2.2.1,v4.2.2.1.2.2.2.2.1,v4.2.2.1.2.2.2.2.2.1,v4.2.2.1.2.2.2.2.2.2),v4.2.2.2.1,v4.2.2.2.2)) fun x49 =>
 bif decide (s31 ≤ (1 : Int)) then
 bif x49 then
 ob (g_work_May (k + (36 : Nat)) (v0.1,v0.2.1,v0.2.2.1,v0.2.2.2) v1 s5 v3 (s8,s9,(s10,s11,s12,s13,s14,s15,s16),s17,s18)) fun x50 =>
 bif x50 then
 some (true)
 else
 bif !x49 then
 bif s31 == (0 : Int) then
 bif (↑s6.length : Int) == (0 : Int) then
 ob (g_work_Same (k + (57 : Nat)) (v4.1,v4.2.1,(v4.2.2.1.1,v4.2.2.1.2.1,v4.2.2.1.2.2.1,v4.2.2.1.2.2.2.1,v4.2.2.1.2.2.2.2.1,v4.2.2.1.2.2.2.2.2.1,v4.2.2.1.2.2.2.2.2.2),v4.2.2.2.1,v4.2.2.2.2) (s8,s9,(s10,s11,s12,s13,s14,s15,s16),s17,s18)) fun x51 =>
 some (x51)
 else
 some (false)
 else
 some (false)
 else
 some (false)
 else
 bif !x49 then
 bif s31 == (0 : Int) then
 bif (↑s6.length : Int) == (0 : Int) then
 ob (g_work_Same (k + (57 : Nat)) (v4.1,v4.2.1,(v4.2.2.1.1,v4.2.2.1.2.1,v4.2.2.1.2.2.1,v4.2.2.1.2.2.2.1,v4.2.2.1.2.2.2.2.1,v4.2.2.1.2.2.2.2.2.1,v4.2.2.1.2.2.2.2.2.2),v4.2.2.2.1,v4.2.2.2.2) (s8,s9,(s10,s11,s12,s13,s14,s15,s16),s17,s18)) fun x52 =>
 some (x52)
 else
 some (false)
 else
 some (false)
 else
 some (false)
 else
 some (false)
theorem g_poacherlaw18_WorkCell_L0_eq (k : Nat) (v0_0 v0_1 v0_2 v0_3 : Int) (v1 : List (Int × List Int)) (v2 : List Int) (v3 v4_0 : Int) (v4_1 : List (Int × Int × Int)) (v4_2_0 v4_2_1 v4_2_2 v4_2_3 v4_2_4 v4_2_5 v4_2_6 v4_3 v4_4 v5 : Int) : ∀ (n : Nat) (s5 : List Int) (s6 : List (Int × Int × Int)) (s8 : Int) (s9 : List (Int × Int × Int)) (s10 : Int) (s11 : Int) (s12 : Int) (s13 : Int) (s14 : Int) (s15 : Int) (s16 : Int) (s17 : Int) (s18 : Int) (s31 : Int) (s32 : Int) ⦃s4 : Bool⦄ ⦃s7 : Bool⦄ ⦃s19 : Int⦄ ⦃s20 : Bool⦄ ⦃s21 : Int⦄ ⦃s22 : Bool⦄,rt none (itX (xX (xS (k + (60 : Nat))) (3 : Nat) (0 : Nat) (k + (60 : Nat)) false) xl3_0 ((4 : Nat)) (runK (xX (xS (k + (60 : Nat))) (3 : Nat) (0 : Nat) (k + (60 : Nat)) false) (bodyK (xS (k + (60 : Nat))).P Tryz.f3) xk3_2) n ⟨(V.agg [V.lit (Value.int IntKind.i64 v0_0),V.lit (Value.int IntKind.i64 v0_1),V.lit (Value.int IntKind.i64 v0_2),V.lit (Value.int IntKind.i64 v0_3)] :: V.ro (List.map taskV v1) :: V.ro (List.map (intR IntKind.u64) v2) :: V.lit (Value.int IntKind.i64 v3) :: V.agg [V.lit (Value.int IntKind.i64 v4_0),V.ro (List.map threeV v4_1),V.lit (Value.int IntKind.i64 v4_2_0),V.lit (Value.int IntKind.i64 v4_2_1),V.lit (Value.int IntKind.i64 v4_2_2),V.lit (Value.int IntKind.u64 v4_2_3),V.lit (Value.int IntKind.u64 v4_2_4),V.lit (Value.int IntKind.u64 v4_2_5),V.lit (Value.int IntKind.i64 v4_2_6),V.lit (Value.int IntKind.i64 v4_3),V.lit (Value.int IntKind.i64 v4_4)] :: V.lit (Value.int IntKind.u64 v5) :: V.ptr (0 : Nat) (0 : Nat) (0 : Nat) (0 : Nat) :: uu :: uu :: uu :: V.ptr (1 : Nat) (0 : Nat) (0 : Nat) (0 : Nat) :: uu :: V.lit (Value.bool false) :: V.lit (Value.bool true) :: V.lit (Value.bool s4) :: V.ro (List.map (intR IntKind.u64) s5) :: V.ptr (3 : Nat) (0 : Nat) (0 : Nat) (0 : Nat) :: V.ro (List.map threeV s6) :: V.lit (Value.int IntKind.i64 s31) :: V.lit (Value.int IntKind.i64 s32) :: uu :: V.lit (Value.bool true) :: V.ro (List.map taskV v1) :: V.agg [V.lit (Value.int IntKind.i64 v4_0),V.ro (List.map threeV v4_1),V.lit (Value.int IntKind.i64 v4_2_0),V.lit (Value.int IntKind.i64 v4_2_1),V.lit (Value.int IntKind.i64 v4_2_2),V.lit (Value.int IntKind.u64 v4_2_3),V.lit (Value.int IntKind.u64 v4_2_4),V.lit (Value.int IntKind.u64 v4_2_5),V.lit (Value.int IntKind.i64 v4_2_6),V.lit (Value.int IntKind.i64 v4_3),V.lit (Value.int IntKind.i64 v4_4)] :: V.lit (Value.bool s4) :: V.lit (Value.bool true) :: V.lit (Value.bool false) :: V.lit (Value.bool false) :: V.lit (Value.bool s4) :: V.lit (Value.bool s7) :: V.lit (Value.bool s7) :: V.lit (Value.bool false) :: V.ro (List.map (intR IntKind.u64) v2) :: V.lit (Value.int IntKind.i64 (↑v2.length : Int)) :: V.lit (Value.bool (decide ((500 : Int) < (↑v2.length : Int)))) :: V.lit (Value.bool (decide ((500 : Int) < (↑v2.length : Int)))) :: uu :: V.tup [V.ro (List.map (intR IntKind.u64) s5),V.agg [V.lit (Value.int IntKind.i64 s8),V.ro (List.map threeV s9),V.lit (Value.int IntKind.i64 s10),V.lit (Value.int IntKind.i64 s11),V.lit (Value.int IntKind.i64 s12),V.lit (Value.int IntKind.u64 s13),V.lit (Value.int IntKind.u64 s14),V.lit (Value.int IntKind.u64 s15),V.lit (Value.int IntKind.i64 s16),V.lit (Value.int IntKind.i64 s17),V.lit (Value.int IntKind.i64 s18)],V.ro (List.map threeV s6)] :: V.agg [V.lit (Value.int IntKind.i64 v0_0),V.lit (Value.int IntKind.i64 v0_1),V.lit (Value.int IntKind.i64 v0_2),V.lit (Value.int IntKind.i64 v0_3)] :: V.ro (List.map taskV v1) :: V.ro (List.map (intR IntKind.u64) v2) :: V.lit (Value.int IntKind.i64 v3) :: V.agg [V.lit (Value.int IntKind.i64 v4_0),V.ro (List.map threeV v4_1),V.lit (Value.int IntKind.i64 v4_2_0),V.lit (Value.int IntKind.i64 v4_2_1),V.lit (Value.int IntKind.i64 v4_2_2),V.lit (Value.int IntKind.u64 v4_2_3),V.lit (Value.int IntKind.u64 v4_2_4),V.lit (Value.int IntKind.u64 v4_2_5),V.lit (Value.int IntKind.i64 v4_2_6),V.lit (Value.int IntKind.i64 v4_3),V.lit (Value.int IntKind.i64 v4_4)] :: V.lit (Value.int IntKind.u64 v5) :: V.tup [V.ro (List.map (intR IntKind.u64) s5),V.agg [V.lit (Value.int IntKind.i64 s8),V.ro (List.map threeV s9),V.lit (Value.int IntKind.i64 s10),V.lit (Value.int IntKind.i64 s11),V.lit (Value.int IntKind.i64 s12),V.lit (Value.int IntKind.u64 s13),V.lit (Value.int IntKind.u64 s14),V.lit (Value.int IntKind.u64 s15),V.lit (Value.int IntKind.i64 s16),V.lit (Value.int IntKind.i64 s17),V.lit (Value.int IntKind.i64 s18)],V.ro (List.map threeV s6)] :: V.ro (List.map (intR IntKind.u64) s5) :: V.agg [V.lit (Value.int IntKind.i64 s8),V.ro (List.map threeV s9),V.lit (Value.int IntKind.i64 s10),V.lit (Value.int IntKind.i64 s11),V.lit (Value.int IntKind.i64 s12),V.lit (Value.int IntKind.u64 s13),V.lit (Value.int IntKind.u64 s14),V.lit (Value.int IntKind.u64 s15),V.lit (Value.int IntKind.i64 s16),V.lit (Value.int IntKind.i64 s17),V.lit (Value.int IntKind.i64 s18)] :: V.ro (List.map threeV s6) :: V.ro (List.map (intR IntKind.u64) s5) :: V.lit (Value.int IntKind.i64 s19) :: V.ro (List.map (intR IntKind.u64) v2) :: V.lit (Value.int IntKind.i64 (↑v2.length : Int)) :: V.lit (Value.bool s20) :: V.lit (Value.bool false) :: V.ro (List.map threeV s6) :: V.lit (Value.int IntKind.i64 s21) :: V.lit (Value.bool s22) :: V.lit (Value.bool s22) :: V.junk :: V.junk :: V.junk :: V.junk :: V.junk :: V.junk :: V.junk :: V.junk :: V.junk :: V.junk :: V.junk :: V.junk :: V.junk :: V.junk :: V.junk :: V.junk :: V.junk :: uu :: uu :: uu :: uu :: uu :: uu :: uu :: uu :: uu :: uu :: uu :: uu :: uu :: uu :: uu :: uu :: uu :: uu :: uu :: uu :: uu :: uu :: uu :: uu :: uu :: uu :: uu :: uu :: uu :: uu :: uu :: uu :: uu :: uu :: uu :: uu :: uu :: []),[B.box [V.lit (Value.int IntKind.i64 v0_0),V.lit (Value.int IntKind.i64 v0_1),V.lit (Value.int IntKind.i64 v0_2),V.lit (Value.int IntKind.i64 v0_3)],B.box [V.lit (Value.int IntKind.i64 v4_0),V.ro (List.map threeV v4_1),V.lit (Value.int IntKind.i64 v4_2_0),V.lit (Value.int IntKind.i64 v4_2_1),V.lit (Value.int IntKind.i64 v4_2_2),V.lit (Value.int IntKind.u64 v4_2_3),V.lit (Value.int IntKind.u64 v4_2_4),V.lit (Value.int IntKind.u64 v4_2_5),V.lit (Value.int IntKind.i64 v4_2_6),V.lit (Value.int IntKind.i64 v4_3),V.lit (Value.int IntKind.i64 v4_4)],B.rows (0 : Nat) [] (0 : Nat) true,B.box [V.lit (Value.int IntKind.i64 s8),V.ro (List.map threeV s9),V.lit (Value.int IntKind.i64 s10),V.lit (Value.int IntKind.i64 s11),V.lit (Value.int IntKind.i64 s12),V.lit (Value.int IntKind.u64 s13),V.lit (Value.int IntKind.u64 s14),V.lit (Value.int IntKind.u64 s15),V.lit (Value.int IntKind.i64 s16),V.lit (Value.int IntKind.i64 s17),V.lit (Value.int IntKind.i64 s18)]]⟩) = ob (g_poacherlaw18_WorkCell_L0 k (v0_0,v0_1,v0_2,v0_3) v1 v2 v3 (v4_0,v4_1,(v4_2_0,v4_2_1,v4_2_2,v4_2_3,v4_2_4,v4_2_5,v4_2_6),v4_3,v4_4) v5  n s5 s6 s8 s9 s10 s11 s12 s13 s14 s15 s16 s17 s18 s31 s32) fun r => some ((.lit (.bool r)),[]) := by
  intro n
  induction n with
  | zero => intros; rfl
  | succ n ih =>
    intro s5 s6 s8 s9 s10 s11 s12 s13 s14 s15 s16 s17 s18 s31 s32 s4 s7 s19 s20 s21 s22
    rw [g_poacherlaw18_WorkCell_L0]
    simp (maxSteps := 2000000) -implicitDefEqProofs only [xe3,xb3,xz3,xm3_0,xm3_1,xm3_2,xj3_3,xj3_4,xm3_5,xm3_6,xm3_7,xm3_8,xm3_9,xm3_10,xm3_11,xm3_12,xm3_13,xm3_14,xm3_15,xm3_16,xm3_17,xm3_18,xm3_19,xm3_20,xm3_21,xm3_22,xm3_23,xm3_24,xm3_25,xm3_26,xm3_27,xm3_28,xm3_29,xk3_0_ret,xk3_1_ret,xk3_2_ret,xk3_3_ret,xk3_4_ret,↓syP,syA,syD,Nat.reduceAdd,Nat.reduceSub,Nat.reduceMul,Nat.reduceLT,Nat.reduceLeDiff,Nat.reduceEqDiff,Nat.reduceBEq,Nat.reduceBNe,Int.reduceBEq,Int.reduceBNe,Int.reduceLT,Int.reduceLE,Int.reduceAdd,Int.reduceSub,Int.reduceNeg,syE,killR_cons,retype_intC,retype_threeC,xQ,awk18',h_work_May,h_work_Same,h_poacherlaw18_Few,h_work_Step,xr3_0,ih]
    all_goals simp -implicitDefEqProofs only [List.map_nil]
def g_poacherlaw18_WorkCell (k : Nat) (v0 : (Int × Int × Int × Int)) (v1 : (List (Int × List Int))) (v2 : (List Int)) (v3 : Int) (v4 : (Int × List (Int × Int × Int) × (Int × Int × Int × Int × Int × Int × Int) × Int × Int)) (v5 : Int) : Option Bool :=
 ob (g_poacherlaw18_Few (k + (58 : Nat)) v1 (v4.1,v4.2.1,(v4.2.2.1.1,v4.2.2.1.2.1,v4.2.2.1.2.2.1,v4.2.2.1.2.2.2.1,v4.2.2.1.2.2.2.2.1,v4.2.2.1.2.2.2.2.2.1,v4.2.2.1.2.2.2.2.2.2),v4.2.2.2.1,v4.2.2.2.2)) fun x53 =>
 bif !x53 then
 some (true)
 else
 bif decide ((500 : Int) < (↑v2.length : Int)) then
 some (true)
 else
 ob (g_work_Step k (v0.1,v0.2.1,v0.2.2.1,v0.2.2.2) v1 v2 v3 (v4.1,v4.2.1,(v4.2.2.1.1,v4.2.2.1.2.1,v4.2.2.1.2.2.1,v4.2.2.1.2.2.2.1,v4.2.2.1.2.2.2.2.1,v4.2.2.1.2.2.2.2.2.1,v4.2.2.1.2.2.2.2.2.2),v4.2.2.2.1,v4.2.2.2.2) v5) fun x54 =>
 bif (↑x54.1.length : Int) != (↑v2.length : Int) then
 some (false)
 else
 bif decide ((2 : Int) < (↑x54.2.2.length : Int)) then
 some (false)
 else
 g_poacherlaw18_WorkCell_L0 k v0 v1 v2 v3 v4 v5 (k + (60 : Nat)) (x54.1) (x54.2.2) (x54.2.1.1) (x54.2.1.2.1) (x54.2.1.2.2.1.1) (x54.2.1.2.2.1.2.1) (x54.2.1.2.2.1.2.2.1) (x54.2.1.2.2.1.2.2.2.1) (x54.2.1.2.2.1.2.2.2.2.1) (x54.2.1.2.2.1.2.2.2.2.2.1) (x54.2.1.2.2.1.2.2.2.2.2.2) (x54.2.1.2.2.2.1) (x54.2.1.2.2.2.2) ((0 : Int)) ((0 : Int))
theorem h_poacherlaw18_WorkCell (k : Nat) (v0_0 v0_1 v0_2 v0_3 : Int) (v1 : List (Int × List Int)) (v2 : List Int) (v3 v4_0 : Int) (v4_1 : List (Int × Int × Int)) (v4_2_0 v4_2_1 v4_2_2 v4_2_3 v4_2_4 v4_2_5 v4_2_6 v4_3 v4_4 v5 : Int) : xC (k + 61) none 3 [.agg [.lit (.int .i64 v0_0),.lit (.int .i64 v0_1),.lit (.int .i64 v0_2),.lit (.int .i64 v0_3)],.ro (List.map taskV v1),.ro (List.map (intR .u64) v2),.lit (.int .i64 v3),.agg [.lit (.int .i64 v4_0),.ro (List.map threeV v4_1),.lit (.int .i64 v4_2_0),.lit (.int .i64 v4_2_1),.lit (.int .i64 v4_2_2),.lit (.int .u64 v4_2_3),.lit (.int .u64 v4_2_4),.lit (.int .u64 v4_2_5),.lit (.int .i64 v4_2_6),.lit (.int .i64 v4_3),.lit (.int .i64 v4_4)],.lit (.int .u64 v5)] = ob (g_poacherlaw18_WorkCell k (v0_0,v0_1,v0_2,v0_3) v1 v2 v3 (v4_0,v4_1,(v4_2_0,v4_2_1,v4_2_2,v4_2_3,v4_2_4,v4_2_5,v4_2_6),v4_3,v4_4) v5) fun r => some ((.lit (.bool r)),[]) := by
  rw [xC_eq]
  unfold g_poacherlaw18_WorkCell
  simp (maxSteps := 2000000) -implicitDefEqProofs only [xe3,xb3,xz3,xm3_0,xm3_1,xm3_2,xj3_3,xj3_4,xm3_5,xm3_6,xm3_7,xm3_8,xm3_9,xm3_10,xm3_11,xm3_12,xm3_13,xm3_14,xm3_15,xm3_16,xm3_17,xm3_18,xm3_19,xm3_20,xm3_21,xm3_22,xm3_23,xm3_24,xm3_25,xm3_26,xm3_27,xm3_28,xm3_29,xk3_0_ret,xk3_1_ret,xk3_2_ret,xk3_3_ret,xk3_4_ret,↓syP,syA,syD,Nat.reduceAdd,Nat.reduceSub,Nat.reduceMul,Nat.reduceLT,Nat.reduceLeDiff,Nat.reduceEqDiff,Nat.reduceBEq,Nat.reduceBNe,Int.reduceBEq,Int.reduceBNe,Int.reduceLT,Int.reduceLE,Int.reduceAdd,Int.reduceSub,Int.reduceNeg,syE,killR_cons,retype_intC,retype_threeC,xQ,awk18',h_poacherlaw18_Few,h_work_Step,g_poacherlaw18_WorkCell_L0_eq k v0_0 v0_1 v0_2 v0_3 v1 v2 v3 v4_0 v4_1 v4_2_0 v4_2_1 v4_2_2 v4_2_3 v4_2_4 v4_2_5 v4_2_6 v4_3 v4_4 v5]
  all_goals simp -implicitDefEqProofs only [List.map_nil]
end Go.Ab
