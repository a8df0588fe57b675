/- Functions as they are walked: printed by Walk.lean. -/
import Derived.Test.YtcmdnjaenhbdpaaGreatR5GD
import Derived.Test.YtcmdnjaenhbdpaaGreatR5GT
import Derived.Test.YtcmdnjaenhbdpaaGreatR5GE
import Derived.Test.YtcmdnjaenhbdpaaGreatR5BV
import Derived.Test.YtcmdnjaenhbdpaaGreatR5B6
import Derived.Test.YtcmdnjaenhbdpaaGreatR5BW
set_option linter.unusedVariables false
set_option linter.unusedSimpArgs false
set_option maxRecDepth 100000
set_option linter.unusedVariables false
set_option linter.unusedSimpArgs false
namespace Go.Ab
open Go.Proofs
def g_work_May (k : Nat) (v0 : (Int × Int × Int × Int)) (v1 : (List (Int × List Int))) (v2 : (List Int)) (v3 : Int) (v4 : (Int × List (Int × Int × Int) × (Int × Int × Int × Int × Int × Int × Int) × Int × Int)) : Option Bool :=
 ob (g_lay_May v0) fun x5 =>
 bif x5 then
 ob (g_lay_Size v0) fun x6 =>
 bif (↑v2.length : Int) == x6 then
 ob (g_forest_May (k + 4) v1) fun x7 =>
 bif x7 then
 bif decide (0 ≤ v3) then
 bif decide (v3 < v0.1) then
 bif decide (0 ≤ v4.1) then
 bif decide (v4.1 < 16) then
 ob (g_think_May (k + 3) v1 v4.2.1) fun x8 =>
 some x8
 else
 some false
 else
 some false
 else
 some false
 else
 some false
 else
 some false
 else
 some false
 else
 some false
theorem h_work_May (k : Nat) (v0_0 v0_1 v0_2 v0_3 : Int) (v1 : List (Int × List Int)) (v2 : List Int) (v3 v4_0 : Int) (v4_1 : List (Int × Int × Int)) (v4_2_0 v4_2_1 v4_2_2 v4_2_3 v4_2_4 v4_2_5 v4_2_6 v4_3 v4_4 : Int) : xC (k + 24) none 11 [.agg [.lit (.int .i64 v0_0),.lit (.int .i64 v0_1),.lit (.int .i64 v0_2),.lit (.int .i64 v0_3)],.ro (List.map taskV v1),.ro (List.map (intR .u64) v2),.lit (.int .i64 v3),.agg [.lit (.int .i64 v4_0),.ro (List.map threeV v4_1),.lit (.int .i64 v4_2_0),.lit (.int .i64 v4_2_1),.lit (.int .i64 v4_2_2),.lit (.int .u64 v4_2_3),.lit (.int .u64 v4_2_4),.lit (.int .u64 v4_2_5),.lit (.int .i64 v4_2_6),.lit (.int .i64 v4_3),.lit (.int .i64 v4_4)]] = ob (g_work_May k (v0_0,v0_1,v0_2,v0_3) v1 v2 v3 (v4_0,v4_1,(v4_2_0,v4_2_1,v4_2_2,v4_2_3,v4_2_4,v4_2_5,v4_2_6),v4_3,v4_4)) fun r => some ((.lit (.bool r)),[]) := by
  rw [xC_eq]
  unfold g_work_May
  simp (maxSteps := 2000000) -implicitDefEqProofs only [xe11,xb11,xm11_0,xm11_1,xm11_2,xm11_3,xm11_4,xm11_5,xm11_6,xk11_0_ret,↓syP,syA,syD,Nat.reduceAdd,Nat.reduceSub,Nat.reduceMul,Nat.reduceLT,Nat.reduceLeDiff,Nat.reduceEqDiff,Nat.reduceBEq,Nat.reduceBNe,Int.reduceBEq,Int.reduceBNe,Int.reduceLT,Int.reduceLE,Int.reduceAdd,Int.reduceSub,Int.reduceNeg,syE,killR_cons,retype_intC,retype_threeC,xQ,h_forest_May,h_lay_May,h_lay_Size,h_think_May]
  all_goals simp -implicitDefEqProofs only [List.map_nil]
def g_work_Same (k : Nat) (v0 : (Int × List (Int × Int × Int) × (Int × Int × Int × Int × Int × Int × Int) × Int × Int)) (v1 : (Int × List (Int × Int × Int) × (Int × Int × Int × Int × Int × Int × Int) × Int × Int)) : Option Bool :=
 bif v0.1 == v1.1 then
 bif v0.2.2.1.1 == v1.2.2.1.1 && (v0.2.2.1.2.1 == v1.2.2.1.2.1 && (v0.2.2.1.2.2.1 == v1.2.2.1.2.2.1 && (v0.2.2.1.2.2.2.1 == v1.2.2.1.2.2.2.1 && (v0.2.2.1.2.2.2.2.1 == v1.2.2.1.2.2.2.2.1 && (v0.2.2.1.2.2.2.2.2.1 == v1.2.2.1.2.2.2.2.2.1 && v0.2.2.1.2.2.2.2.2.2 == v1.2.2.1.2.2.2.2.2.2))))) then
 bif v0.2.2.2.1 == v1.2.2.2.1 then
 bif v0.2.2.2.2 == v1.2.2.2.2 then
 ob (g_think_Same k v0.2.1 v1.2.1) fun x14 =>
 some x14
 else
 some false
 else
 some false
 else
 some false
 else
 some false
theorem h_work_Same (k : Nat) (v0_0 : Int) (v0_1 : List (Int × Int × Int)) (v0_2_0 v0_2_1 v0_2_2 v0_2_3 v0_2_4 v0_2_5 v0_2_6 v0_3 v0_4 v1_0 : Int) (v1_1 : List (Int × Int × Int)) (v1_2_0 v1_2_1 v1_2_2 v1_2_3 v1_2_4 v1_2_5 v1_2_6 v1_3 v1_4 : Int) : xC (k + 3) none 12 [.agg [.lit (.int .i64 v0_0),.ro (List.map threeV v0_1),.lit (.int .i64 v0_2_0),.lit (.int .i64 v0_2_1),.lit (.int .i64 v0_2_2),.lit (.int .u64 v0_2_3),.lit (.int .u64 v0_2_4),.lit (.int .u64 v0_2_5),.lit (.int .i64 v0_2_6),.lit (.int .i64 v0_3),.lit (.int .i64 v0_4)],.agg [.lit (.int .i64 v1_0),.ro (List.map threeV v1_1),.lit (.int .i64 v1_2_0),.lit (.int .i64 v1_2_1),.lit (.int .i64 v1_2_2),.lit (.int .u64 v1_2_3),.lit (.int .u64 v1_2_4),.lit (.int .u64 v1_2_5),.lit (.int .i64 v1_2_6),.lit (.int .i64 v1_3),.lit (.int .i64 v1_4)]] = ob (g_work_Same k (v0_0,v0_1,(v0_2_0,v0_2_1,v0_2_2,v0_2_3,v0_2_4,v0_2_5,v0_2_6),v0_3,v0_4) (v1_0,v1_1,(v1_2_0,v1_2_1,v1_2_2,v1_2_3,v1_2_4,v1_2_5,v1_2_6),v1_3,v1_4)) fun r => some ((.lit (.bool r)),[]) := by
  rw [xC_eq]
  unfold g_work_Same
  simp (maxSteps := 2000000) -implicitDefEqProofs only [xe12,xb12,xm12_0,xm12_1,xm12_2,xm12_3,xk12_0_ret,↓syP,syA,syD,Nat.reduceAdd,Nat.reduceSub,Nat.reduceMul,Nat.reduceLT,Nat.reduceLeDiff,Nat.reduceEqDiff,Nat.reduceBEq,Nat.reduceBNe,Int.reduceBEq,Int.reduceBNe,Int.reduceLT,Int.reduceLE,Int.reduceAdd,Int.reduceSub,Int.reduceNeg,syE,killR_cons,retype_intC,retype_threeC,xQ,h_think_Same]
  all_goals simp -implicitDefEqProofs only [List.map_nil]
def g_poacherlaw18_Few (k : Nat) (v0 : (List (Int × List Int))) (v1 : (Int × List (Int × Int × Int) × (Int × Int × Int × Int × Int × Int × Int) × Int × Int)) : Option Bool :=
 ob (g_poacherlaw04_Few k v0) fun x39 =>
 bif x39 then
 some (decide ((↑v1.2.1.length : Int) ≤ 40))
 else
 some false
theorem h_poacherlaw18_Few (k : Nat) (v0 : List (Int × List Int)) (v1_0 : Int) (v1_1 : List (Int × Int × Int)) (v1_2_0 v1_2_1 v1_2_2 v1_2_3 v1_2_4 v1_2_5 v1_2_6 v1_3 v1_4 : Int) : xC (k + 2) none 9 [.ro (List.map taskV v0),.agg [.lit (.int .i64 v1_0),.ro (List.map threeV v1_1),.lit (.int .i64 v1_2_0),.lit (.int .i64 v1_2_1),.lit (.int .i64 v1_2_2),.lit (.int .u64 v1_2_3),.lit (.int .u64 v1_2_4),.lit (.int .u64 v1_2_5),.lit (.int .i64 v1_2_6),.lit (.int .i64 v1_3),.lit (.int .i64 v1_4)]] = ob (g_poacherlaw18_Few k v0 (v1_0,v1_1,(v1_2_0,v1_2_1,v1_2_2,v1_2_3,v1_2_4,v1_2_5,v1_2_6),v1_3,v1_4)) fun r => some ((.lit (.bool r)),[]) := by
  rw [xC_eq]
  unfold g_poacherlaw18_Few
  simp (maxSteps := 2000000) -implicitDefEqProofs only [xe9,xb9,xm9_0,xk9_0_ret,↓syP,syA,syD,Nat.reduceAdd,Nat.reduceSub,Nat.reduceMul,Nat.reduceLT,Nat.reduceLeDiff,Nat.reduceEqDiff,Nat.reduceBEq,Nat.reduceBNe,Int.reduceBEq,Int.reduceBNe,Int.reduceLT,Int.reduceLE,Int.reduceAdd,Int.reduceSub,Int.reduceNeg,syE,killR_cons,retype_intC,retype_threeC,xQ,h_poacherlaw04_Few]
  all_goals simp -implicitDefEqProofs only [List.map_nil]
def g_poacherref18_Evs_L0 (k : Nat) (v0 : (List (Int × Int × Int))) (v1 : (List (Int × Int × Int)))  : Nat → Int → Option Bool
 | 0,_ => none
 | n + 1,s44 =>
 bif decide (s44 < (↑v0.length : Int)) then
 ob (idx v0 s44) fun x49 =>
 ob (idx v1 s44) fun x50 =>
 bif !(x49.1 == x50.1 && (x49.2.1 == x50.2.1 && x49.2.2 == x50.2.2)) then
 some (false)
 else
 g_poacherref18_Evs_L0 k v0 v1  n (IntKind.i64.wrap (s44 + (1 : Int)))
 else
 some (true)
theorem g_poacherref18_Evs_L0_eq (k : Nat) (v0 v1 : List (Int × Int × Int)) : ∀ (n : Nat) (s44 : Int),rt none (itX (xX (xS k) (15 : Nat) (0 : Nat) k false) xl15_0 ((0 : Nat)) (runK (xX (xS k) (15 : Nat) (0 : Nat) k false) (bodyK (xS k).P Tryz.f15) xk15_0) n ⟨[V.ro (List.map threeV v0),V.ro (List.map threeV v1),uu,uu,V.lit (Value.bool false),V.lit (Value.int IntKind.i64 s44),V.ro (List.map threeV v0),V.lit (Value.int IntKind.i64 (↑v0.length : Int)),V.ro (List.map threeV v1),V.lit (Value.int IntKind.i64 (↑v1.length : Int)),V.lit (Value.bool ((↑v0.length : Int) != (↑v1.length : Int))),V.junk,V.junk,V.junk,V.junk,V.junk,V.junk,V.junk,V.junk,V.junk,V.junk,V.junk,V.junk,V.junk,V.junk,V.junk],[]⟩) = ob (g_poacherref18_Evs_L0 k v0 v1  n s44) fun r => some ((.lit (.bool r)),[]) := by
  intro n
  induction n with
  | zero => intros; rfl
  | succ n ih =>
    intro s44
    rw [g_poacherref18_Evs_L0]
    simp (maxSteps := 2000000) -implicitDefEqProofs only [xe15,xb15,xz15,xj15_0,xk15_0_ret,↓syP,syA,syD,Nat.reduceAdd,Nat.reduceSub,Nat.reduceMul,Nat.reduceLT,Nat.reduceLeDiff,Nat.reduceEqDiff,Nat.reduceBEq,Nat.reduceBNe,Int.reduceBEq,Int.reduceBNe,Int.reduceLT,Int.reduceLE,Int.reduceAdd,Int.reduceSub,Int.reduceNeg,syE,killR_cons,retype_intC,retype_threeC,xQ,xr15_0,ih]
    all_goals simp -implicitDefEqProofs only [List.map_nil]
def g_poacherref18_Evs (k : Nat) (v0 : (List (Int × Int × Int))) (v1 : (List (Int × Int × Int))) : Option Bool :=
 bif (↑v0.length : Int) != (↑v1.length : Int) then
 some false
 else
 g_poacherref18_Evs_L0 k v0 v1 k 0
theorem h_poacherref18_Evs (k : Nat) (v0 v1 : List (Int × Int × Int)) : xC (k + 1) none 15 [.ro (List.map threeV v0),.ro (List.map threeV v1)] = ob (g_poacherref18_Evs k v0 v1) fun r => some ((.lit (.bool r)),[]) := by
  rw [xC_eq]
  unfold g_poacherref18_Evs
  simp (maxSteps := 2000000) -implicitDefEqProofs only [xe15,xb15,xz15,xj15_0,xk15_0_ret,↓syP,syA,syD,Nat.reduceAdd,Nat.reduceSub,Nat.reduceMul,Nat.reduceLT,Nat.reduceLeDiff,Nat.reduceEqDiff,Nat.reduceBEq,Nat.reduceBNe,Int.reduceBEq,Int.reduceBNe,Int.reduceLT,Int.reduceLE,Int.reduceAdd,Int.reduceSub,Int.reduceNeg,syE,killR_cons,retype_intC,retype_threeC,xQ,g_poacherref18_Evs_L0_eq k v0 v1]
  all_goals simp -implicitDefEqProofs only [List.map_nil]
end Go.Ab
