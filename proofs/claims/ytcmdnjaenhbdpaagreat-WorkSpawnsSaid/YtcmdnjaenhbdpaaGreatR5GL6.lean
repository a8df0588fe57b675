/- Functions as they are walked: printed by Walk.lean. -/
import Derived.Test.YtcmdnjaenhbdpaaGreatR5GK
import Derived.Test.YtcmdnjaenhbdpaaGreatR5B6
import Derived.Test.YtcmdnjaenhbdpaaGreatR5BN
import Derived.Test.YtcmdnjaenhbdpaaGreatR5Awk
import Derived.Test.YtcmdnjaenhbdpaaGreatR5BL6
set_option linter.unusedVariables false
set_option linter.unusedSimpArgs false
set_option maxRecDepth 100000
set_option linter.unusedVariables false
set_option linter.unusedSimpArgs false
namespace Go.Ab
open Go.Proofs
def g_poacherlaw18_WorkSpawns (k : Nat) (v0 : (Int × Int × Int × Int)) (v1 : (List (Int × List Int))) (v2 : (List Int)) (v3 : Int) (v4 : (Int × List (Int × Int × Int) × (Int × Int × Int × Int × Int × Int × Int) × Int × Int)) (v5 : Int) : Option Bool :=
 ob (g_poacherlaw18_Few (k + (58 : Nat)) v1 (v4.1,v4.2.1,(v4.2.2.1.1,v4.2.2.1.2.1,v4.2.2.1.2.2.1,v4.2.2.1.2.2.2.1,v4.2.2.1.2.2.2.2.1,v4.2.2.1.2.2.2.2.2.1,v4.2.2.1.2.2.2.2.2.2),v4.2.2.2.1,v4.2.2.2.2)) fun x15 =>
 bif !x15 then
 some (true)
 else
 bif decide ((500 : Int) < (↑v2.length : Int)) then
 some (true)
 else
 ob (g_work_May (k + (36 : Nat)) (v0.1,v0.2.1,v0.2.2.1,v0.2.2.2) v1 v2 v3 (v4.1,v4.2.1,(v4.2.2.1.1,v4.2.2.1.2.1,v4.2.2.1.2.2.1,v4.2.2.1.2.2.2.1,v4.2.2.1.2.2.2.2.1,v4.2.2.1.2.2.2.2.2.1,v4.2.2.1.2.2.2.2.2.2),v4.2.2.2.1,v4.2.2.2.2)) fun x16 =>
 bif !x16 then
 some (true)
 else
 ob (g_work_Step k (v0.1,v0.2.1,v0.2.2.1,v0.2.2.2) v1 v2 v3 (v4.1,v4.2.1,(v4.2.2.1.1,v4.2.2.1.2.1,v4.2.2.1.2.2.1,v4.2.2.1.2.2.2.1,v4.2.2.1.2.2.2.2.1,v4.2.2.1.2.2.2.2.2.1,v4.2.2.1.2.2.2.2.2.2),v4.2.2.2.1,v4.2.2.2.2) v5) fun x17 =>
 bif v4.1 == (10 : Int) then
 bif (↑x17.2.2.length : Int) == (1 : Int) then
 ob (idx x17.2.2 (0 : Int)) fun x18 =>
 bif x18.1 == (3 : Int) then
 ob (idx x17.2.2 (0 : Int)) fun x19 =>
 bif x19.2.2 == v3 then
 bif x17.2.1.1 == (11 : Int) then
 ob (idx x17.2.2 (0 : Int)) fun x20 =>
 some (x17.2.1.2.2.1.1 == (0 : Int) && (x17.2.1.2.2.1.2.1 == (0 : Int) && (x17.2.1.2.2.1.2.2.1 == v3 && (x17.2.1.2.2.1.2.2.2.1 == IntKind.u64.wrap x20.2.1 && (x17.2.1.2.2.1.2.2.2.2.1 == (0 : Int) && (x17.2.1.2.2.1.2.2.2.2.2.1 == (0 : Int) && x17.2.1.2.2.1.2.2.2.2.2.2 == (0 : Int)))))))
 else
 some (false)
 else
 some (false)
 else
 some (false)
 else
 bif v4.1 == (11 : Int) then
 bif x17.2.1.1 == (12 : Int) then
 bif (↑x17.2.2.length : Int) == (0 : Int) then
 bif x17.2.1.2.2.1.1 == (3 : Int) then
 bif x17.2.1.2.2.1.2.2.1 == v3 then
 some (x17.2.1.2.2.1.2.1 == (0 : Int))
 else
 some (false)
 else
 some (false)
 else
 some (false)
 else
 bif v4.1 == (12 : Int) then
 bif x17.2.1.1 == (9 : Int) then
 bif (↑x17.2.2.length : Int) == (1 : Int) then
 ob (idx x17.2.2 (0 : Int)) fun x21 =>
 bif x21.1 == (2 : Int) then
 ob (idx x17.2.2 (0 : Int)) fun x22 =>
 bif x22.2.2 == v3 then
 some (decide ((↑v4.2.1.length : Int) ≤ (↑x17.2.1.2.1.length : Int)))
 else
 some (false)
 else
 some (false)
 else
 some (false)
 else
 bif x17.2.1.1 != (11 : Int) then
 some (true)
 else
 some (v4.1 == (11 : Int))
 else
 bif x17.2.1.1 != (11 : Int) then
 some (true)
 else
 some (v4.1 == (11 : Int))
 else
 bif v4.1 == (12 : Int) then
 bif x17.2.1.1 == (9 : Int) then
 bif (↑x17.2.2.length : Int) == (1 : Int) then
 ob (idx x17.2.2 (0 : Int)) fun x23 =>
 bif x23.1 == (2 : Int) then
 ob (idx x17.2.2 (0 : Int)) fun x24 =>
 bif x24.2.2 == v3 then
 some (decide ((↑v4.2.1.length : Int) ≤ (↑x17.2.1.2.1.length : Int)))
 else
 some (false)
 else
 some (false)
 else
 some (false)
 else
 bif x17.2.1.1 != (11 : Int) then
 some (true)
 else
 some (v4.1 == (11 : Int))
 else
 bif x17.2.1.1 != (11 : Int) then
 some (true)
 else
 some (v4.1 == (11 : Int))
 else
 bif v4.1 == (11 : Int) then
 bif x17.2.1.1 == (12 : Int) then
 bif (↑x17.2.2.length : Int) == (0 : Int) then
 bif x17.2.1.2.2.1.1 == (3 : Int) then
 bif x17.2.1.2.2.1.2.2.1 == v3 then
 some (x17.2.1.2.2.1.2.1 == (0 : Int))
 else
 some (false)
 else
 some (false)
 else
 some (false)
 else
 bif v4.1 == (12 : Int) then
 bif x17.2.1.1 == (9 : Int) then
 bif (↑x17.2.2.length : Int) == (1 : Int) then
 ob (idx x17.2.2 (0 : Int)) fun x25 =>
 bif x25.1 == (2 : Int) then
 ob (idx x17.2.2 (0 : Int)) fun x26 =>
 bif x26.2.2 == v3 then
 some (decide ((↑v4.2.1.length : Int) ≤ (↑x17.2.1.2.1.length : Int)))
 else
 some (false)
 else
 some (false)
 else
 some (false)
 else
 bif x17.2.1.1 != (11 : Int) then
 some (true)
 else
 some (v4.1 == (11 : Int))
 else
 bif x17.2.1.1 != (11 : Int) then
 some (true)
 else
 some (v4.1 == (11 : Int))
 else
 bif v4.1 == (12 : Int) then
 bif x17.2.1.1 == (9 : Int) then
 bif (↑x17.2.2.length : Int) == (1 : Int) then
 ob (idx x17.2.2 (0 : Int)) fun x27 =>
 bif x27.1 == (2 : Int) then
 ob (idx x17.2.2 (0 : Int)) fun x28 =>
 bif x28.2.2 == v3 then
 some (decide ((↑v4.2.1.length : Int) ≤ (↑x17.2.1.2.1.length : Int)))
 else
 some (false)
 else
 some (false)
 else
 some (false)
 else
 bif x17.2.1.1 != (11 : Int) then
 some (true)
 else
 some (v4.1 == (11 : Int))
 else
 bif x17.2.1.1 != (11 : Int) then
 some (true)
 else
 some (v4.1 == (11 : Int))
theorem h_poacherlaw18_WorkSpawns (k : Nat) (v0_0 v0_1 v0_2 v0_3 : Int) (v1 : List (Int × List Int)) (v2 : List Int) (v3 v4_0 : Int) (v4_1 : List (Int × Int × Int)) (v4_2_0 v4_2_1 v4_2_2 v4_2_3 v4_2_4 v4_2_5 v4_2_6 v4_3 v4_4 v5 : Int) : xC (k + 61) none 6 [.agg [.lit (.int .i64 v0_0),.lit (.int .i64 v0_1),.lit (.int .i64 v0_2),.lit (.int .i64 v0_3)],.ro (List.map taskV v1),.ro (List.map (intR .u64) v2),.lit (.int .i64 v3),.agg [.lit (.int .i64 v4_0),.ro (List.map threeV v4_1),.lit (.int .i64 v4_2_0),.lit (.int .i64 v4_2_1),.lit (.int .i64 v4_2_2),.lit (.int .u64 v4_2_3),.lit (.int .u64 v4_2_4),.lit (.int .u64 v4_2_5),.lit (.int .i64 v4_2_6),.lit (.int .i64 v4_3),.lit (.int .i64 v4_4)],.lit (.int .u64 v5)] = ob (g_poacherlaw18_WorkSpawns k (v0_0,v0_1,v0_2,v0_3) v1 v2 v3 (v4_0,v4_1,(v4_2_0,v4_2_1,v4_2_2,v4_2_3,v4_2_4,v4_2_5,v4_2_6),v4_3,v4_4) v5) fun r => some ((.lit (.bool r)),[]) := by
  rw [xC_eq]
  unfold g_poacherlaw18_WorkSpawns
  simp (maxSteps := 2000000) -implicitDefEqProofs only [xe6,xb6,xm6_0,xm6_1,xm6_2,xm6_3,xm6_4,xm6_5,xm6_6,xm6_7,xm6_8,xm6_9,xm6_10,xm6_11,xm6_12,xm6_13,xm6_14,xm6_15,xk6_0_ret,xk6_1_ret,xk6_2_ret,xk6_3_ret,xk6_4_ret,xk6_5_ret,xk6_6_ret,xk6_7_ret,↓syP,syA,syD,Nat.reduceAdd,Nat.reduceSub,Nat.reduceMul,Nat.reduceLT,Nat.reduceLeDiff,Nat.reduceEqDiff,Nat.reduceBEq,Nat.reduceBNe,Int.reduceBEq,Int.reduceBNe,Int.reduceLT,Int.reduceLE,Int.reduceAdd,Int.reduceSub,Int.reduceNeg,syE,killR_cons,retype_intC,retype_threeC,xQ,awk18',h_work_May,h_poacherlaw18_Few,h_work_Step]
  all_goals simp -implicitDefEqProofs only [List.map_nil]
end Go.Ab
