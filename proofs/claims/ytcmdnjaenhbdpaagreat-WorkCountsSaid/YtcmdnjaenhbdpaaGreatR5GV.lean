/- Functions as they are walked: printed by Walk.lean. -/
import Derived.Test.YtcmdnjaenhbdpaaGreatR5GD
import Derived.Test.YtcmdnjaenhbdpaaGreatR5GT
import Derived.Test.YtcmdnjaenhbdpaaGreatR5GE
import Derived.Test.YtcmdnjaenhbdpaaGreatR5BV
import Derived.Test.YtcmdnjaenhbdpaaGreatR5B6
import Derived.Test.YtcmdnjaenhbdpaaGreatR5BW
set_option linter.unusedVariables false
set_option linter.unusedSimpArgs false
set_option maxRecDepth 100000
set_option linter.unusedVariables false
set_option linter.unusedSimpArgs false
namespace Go.Ab
open Go.Proofs
def g_work_May (k : Nat) (v0 : (Int × Int × Int × Int)) (v1 : (List (Int × List Int))) (v2 : (List Int)) (v3 : Int) (v4 : (Int × List (Int × Int × Int) × (Int × Int × Int × Int × Int × Int × Int) × Int × Int)) : Option Bool :=
 ob (g_lay_May v0) fun x5 =>
 bif x5 then
 ob (g_lay_Size v0) fun x6 =>
 bif (↑v2.length : Int) == x6 then
 ob (g_forest_May (k + 4) v1) fun x7 =>
 bif x7 then
 bif decide (0 ≤ v3) then
 bif decide (v3 < v0.1) then
 bif decide (0 ≤ v4.1) then
 bif decide (v4.1 < 16) then
 ob (g_think_May (k + 3) v1 v4.2.1) fun x8 =>
 some x8
 else
 some false
 else
 some false
 else
 some false
 else
 some false
 else
 some false
 else
 some false
 else
 some false
theorem h_work_May (k : Nat) (v0_0 v0_1 v0_2 v0_3 : Int) (v1 : List (Int × List Int)) (v2 : List Int) (v3 v4_0 : Int) (v4_1 : List (Int × Int × Int)) (v4_2_0 v4_2_1 v4_2_2 v4_2_3 v4_2_4 v4_2_5 v4_2_6 v4_3 v4_4 : Int) : xC (k + 24) none 11 [.agg [.lit (.int .i64 v0_0),.lit (.int .i64 v0_1),.lit (.int .i64 v0_2),.lit (.int .i64 v0_3)],.ro (List.map taskV v1),.ro (List.map (intR .u64) v2),.lit (.int .i64 v3),.agg [.lit (.int .i64 v4_0),.ro (List.map threeV v4_1),.lit (.int .i64 v4_2_0),.lit (.int .i64 v4_2_1),.lit (.int .i64 v4_2_2),.lit (.int .u64 v4_2_3),.lit (.int .u64 v4_2_4),.lit (.int .u64 v4_2_5),.lit (.int .i64 v4_2_6),.lit (.int .i64 v4_3),.lit (.int .i64 v4_4)]] = ob (g_work_May k (v0_0,v0_1,v0_2,v0_3) v1 v2 v3 (v4_0,v4_1,(v4_2_0,v4_2_1,v4_2_2,v4_2_3,v4_2_4,v4_2_5,v4_2_6),v4_3,v4_4)) fun r => some ((.lit (.bool r)),[]) := by
  rw [xC_eq]
  unfold g_work_May
  simp (maxSteps := 2000000) -implicitDefEqProofs only [xe11,xb11,xm11_0,xm11_1,xm11_2,xm11_3,xm11_4,xm11_5,xm11_6,xk11_0_ret,↓syP,syA,syD,Nat.reduceAdd,Nat.reduceSub,Nat.reduceMul,Nat.reduceLT,Nat.reduceLeDiff,Nat.reduceEqDiff,Nat.reduceBEq,Nat.reduceBNe,Int.reduceBEq,Int.reduceBNe,Int.reduceLT,Int.reduceLE,Int.reduceAdd,Int.reduceSub,Int.reduceNeg,syE,killR_cons,retype_intC,retype_threeC,xQ,h_forest_May,h_lay_May,h_lay_Size,h_think_May]
  all_goals simp -implicitDefEqProofs only [List.map_nil]
def g_slices_Index_int_L0 (k : Nat) (v0 : (List Int)) (v1 : Int)  : Nat → Int → Option Int
 | 0,_ => none
 | n + 1,s19 =>
 bif decide (s19 < (↑v0.length : Int)) then
 ob (idx v0 s19) fun x22 =>
 bif v1 == x22 then
 some (s19)
 else
 g_slices_Index_int_L0 k v0 v1  n (IntKind.i64.wrap (s19 + (1 : Int)))
 else
 some ((-1 : Int))
theorem g_slices_Index_int_L0_eq (k : Nat) (v0 : List Int) (v1 : Int) : ∀ (n : Nat) (s19 : Int) ⦃j18 : V⦄,rt none (itX (xX (xS k) (67 : Nat) (0 : Nat) k false) xl67_0 ((0 : Nat)) (runK (xX (xS k) (67 : Nat) (0 : Nat) k false) (bodyK (xS k).P Tryz.f67) xk67_0) n ⟨[V.ro (List.map (intR IntKind.i64) v0),V.lit (Value.int IntKind.i64 v1),uu,uu,V.lit (Value.int IntKind.i64 (0 : Int)),j18,V.ro (List.map (intR IntKind.i64) v0),V.lit (Value.int IntKind.i64 (↑v0.length : Int)),V.lit (Value.int IntKind.i64 s19),V.junk,V.junk,V.junk,V.junk,V.junk,V.junk,V.junk,V.junk,V.junk,V.junk],[]⟩) = ob (g_slices_Index_int_L0 k v0 v1  n s19) fun r => some ((.lit (.int .i64 r)),[]) := by
  intro n
  induction n with
  | zero => intros; rfl
  | succ n ih =>
    intro s19 j18
    rw [g_slices_Index_int_L0]
    simp (maxSteps := 2000000) -implicitDefEqProofs only [xe67,xb67,xz67,xj67_0,xk67_0_ret,↓syP,syA,syD,Nat.reduceAdd,Nat.reduceSub,Nat.reduceMul,Nat.reduceLT,Nat.reduceLeDiff,Nat.reduceEqDiff,Nat.reduceBEq,Nat.reduceBNe,Int.reduceBEq,Int.reduceBNe,Int.reduceLT,Int.reduceLE,Int.reduceAdd,Int.reduceSub,Int.reduceNeg,syE,killR_cons,retype_intC,retype_threeC,xQ,xr67_0,ih]
    all_goals simp -implicitDefEqProofs only [List.map_nil]
def g_slices_Index_int (k : Nat) (v0 : (List Int)) (v1 : Int) : Option Int :=
 g_slices_Index_int_L0 k v0 v1 k 0
theorem h_slices_Index_int (k : Nat) (v0 : List Int) (v1 : Int) : xC (k + 1) none 67 [.ro (List.map (intR .i64) v0),.lit (.int .i64 v1)] = ob (g_slices_Index_int k v0 v1) fun r => some ((.lit (.int .i64 r)),[]) := by
  rw [xC_eq]
  unfold g_slices_Index_int
  simp (maxSteps := 2000000) -implicitDefEqProofs only [xe67,xb67,xz67,xj67_0,xk67_0_ret,↓syP,syA,syD,Nat.reduceAdd,Nat.reduceSub,Nat.reduceMul,Nat.reduceLT,Nat.reduceLeDiff,Nat.reduceEqDiff,Nat.reduceBEq,Nat.reduceBNe,Int.reduceBEq,Int.reduceBNe,Int.reduceLT,Int.reduceLE,Int.reduceAdd,Int.reduceSub,Int.reduceNeg,syE,killR_cons,retype_intC,retype_threeC,xQ,g_slices_Index_int_L0_eq k v0 v1]
  all_goals simp -implicitDefEqProofs only [List.map_nil]
def g_slices_Contains_int (k : Nat) (v0 : (List Int)) (v1 : Int) : Option Bool :=
 ob (g_slices_Index_int k v0 v1) fun x24 =>
 some (decide (0 ≤ x24))
theorem h_slices_Contains_int (k : Nat) (v0 : List Int) (v1 : Int) : xC (k + 2) none 43 [.ro (List.map (intR .i64) v0),.lit (.int .i64 v1)] = ob (g_slices_Contains_int k v0 v1) fun r => some ((.lit (.bool r)),[]) := by
  rw [xC_eq]
  unfold g_slices_Contains_int
  simp (maxSteps := 2000000) -implicitDefEqProofs only [xe43,xb43,↓syP,syA,syD,Nat.reduceAdd,Nat.reduceSub,Nat.reduceMul,Nat.reduceLT,Nat.reduceLeDiff,Nat.reduceEqDiff,Nat.reduceBEq,Nat.reduceBNe,Int.reduceBEq,Int.reduceBNe,Int.reduceLT,Int.reduceLE,Int.reduceAdd,Int.reduceSub,Int.reduceNeg,syE,killR_cons,retype_intC,retype_threeC,xQ,h_slices_Index_int]
  all_goals simp -implicitDefEqProofs only [List.map_nil]
def g_work_Seeks (k : Nat) (v0 : (Int × List (Int × Int × Int) × (Int × Int × Int × Int × Int × Int × Int) × Int × Int)) : Option Bool :=
 ob (g_slices_Contains_int k [2,3,4,5,6] v0.1) fun x27 =>
 some x27
theorem h_work_Seeks (k : Nat) (v0_0 : Int) (v0_1 : List (Int × Int × Int)) (v0_2_0 v0_2_1 v0_2_2 v0_2_3 v0_2_4 v0_2_5 v0_2_6 v0_3 v0_4 : Int) : xC (k + 3) none 14 [.agg [.lit (.int .i64 v0_0),.ro (List.map threeV v0_1),.lit (.int .i64 v0_2_0),.lit (.int .i64 v0_2_1),.lit (.int .i64 v0_2_2),.lit (.int .u64 v0_2_3),.lit (.int .u64 v0_2_4),.lit (.int .u64 v0_2_5),.lit (.int .i64 v0_2_6),.lit (.int .i64 v0_3),.lit (.int .i64 v0_4)]] = ob (g_work_Seeks k (v0_0,v0_1,(v0_2_0,v0_2_1,v0_2_2,v0_2_3,v0_2_4,v0_2_5,v0_2_6),v0_3,v0_4)) fun r => some ((.lit (.bool r)),[]) := by
  rw [xC_eq]
  unfold g_work_Seeks
  simp (maxSteps := 2000000) -implicitDefEqProofs only [xe14,xb14,↓syP,syA,syD,Nat.reduceAdd,Nat.reduceSub,Nat.reduceMul,Nat.reduceLT,Nat.reduceLeDiff,Nat.reduceEqDiff,Nat.reduceBEq,Nat.reduceBNe,Int.reduceBEq,Int.reduceBNe,Int.reduceLT,Int.reduceLE,Int.reduceAdd,Int.reduceSub,Int.reduceNeg,syE,killR_cons,retype_intC,retype_threeC,xQ,h_slices_Contains_int]
  all_goals simp -implicitDefEqProofs only [List.map_nil]
def g_poacherlaw18_Few (k : Nat) (v0 : (List (Int × List Int))) (v1 : (Int × List (Int × Int × Int) × (Int × Int × Int × Int × Int × Int × Int) × Int × Int)) : Option Bool :=
 ob (g_poacherlaw04_Few k v0) fun x39 =>
 bif x39 then
 some (decide ((↑v1.2.1.length : Int) ≤ 40))
 else
 some false
theorem h_poacherlaw18_Few (k : Nat) (v0 : List (Int × List Int)) (v1_0 : Int) (v1_1 : List (Int × Int × Int)) (v1_2_0 v1_2_1 v1_2_2 v1_2_3 v1_2_4 v1_2_5 v1_2_6 v1_3 v1_4 : Int) : xC (k + 2) none 9 [.ro (List.map taskV v0),.agg [.lit (.int .i64 v1_0),.ro (List.map threeV v1_1),.lit (.int .i64 v1_2_0),.lit (.int .i64 v1_2_1),.lit (.int .i64 v1_2_2),.lit (.int .u64 v1_2_3),.lit (.int .u64 v1_2_4),.lit (.int .u64 v1_2_5),.lit (.int .i64 v1_2_6),.lit (.int .i64 v1_3),.lit (.int .i64 v1_4)]] = ob (g_poacherlaw18_Few k v0 (v1_0,v1_1,(v1_2_0,v1_2_1,v1_2_2,v1_2_3,v1_2_4,v1_2_5,v1_2_6),v1_3,v1_4)) fun r => some ((.lit (.bool r)),[]) := by
  rw [xC_eq]
  unfold g_poacherlaw18_Few
  simp (maxSteps := 2000000) -implicitDefEqProofs only [xe9,xb9,xm9_0,xk9_0_ret,↓syP,syA,syD,Nat.reduceAdd,Nat.reduceSub,Nat.reduceMul,Nat.reduceLT,Nat.reduceLeDiff,Nat.reduceEqDiff,Nat.reduceBEq,Nat.reduceBNe,Int.reduceBEq,Int.reduceBNe,Int.reduceLT,Int.reduceLE,Int.reduceAdd,Int.reduceSub,Int.reduceNeg,syE,killR_cons,retype_intC,retype_threeC,xQ,h_poacherlaw04_Few]
  all_goals simp -implicitDefEqProofs only [List.map_nil]
end Go.Ab
