/- Functions as they are walked: printed by Walk.lean. -/
import Derived.Test.YthnifkacfonhgaaR2GR
import Derived.Test.YthnifkacfonhgaaR2Awk
import Derived.Test.YthnifkacfonhgaaR2BL3
set_option maxRecDepth 100000
set_option linter.unusedVariables false
set_option linter.unusedSimpArgs false
namespace Go.Ab
open Go.Proofs
def g_poacherlaw14_WaitTells (k : Nat) (v0 : (Int × Int × Int × Int)) (v1 : (List Int)) (v2 : (Int × Int × Int × Int × Int × Int × Int)) : Option Bool :=
  bif decide ((500 : Int) < (↑v1.length : Int)) then
   some (true)
  else
   ob (g_wait_Step (v0.1, v0.2.1, v0.2.2.1, v0.2.2.2) v1 (v2.1, v2.2.1, v2.2.2.1, v2.2.2.2.1, v2.2.2.2.2.1, v2.2.2.2.2.2.1, v2.2.2.2.2.2.2)) fun x8 =>
   ob (g_poacherref14_Step (k + (56 : Nat)) (v0.1, v0.2.1, v0.2.2.1, v0.2.2.2) v1 (v2.1, v2.2.1, v2.2.2.1, v2.2.2.2.1, v2.2.2.2.2.1, v2.2.2.2.2.2.1, v2.2.2.2.2.2.2)) fun x9 =>
   ob (g_poacherref01_Same (k + (59 : Nat)) x8.fst x9.fst) fun x10 =>
   ob (g_poacherref14_Parked (v2.1, v2.2.1, v2.2.2.1, v2.2.2.2.1, v2.2.2.2.2.1, v2.2.2.2.2.2.1, v2.2.2.2.2.2.2)) fun x11 =>
   ob (g_poacherref14_Waits (k + (57 : Nat)) (v0.1, v0.2.1, v0.2.2.1, v0.2.2.2) v1 v2.2.2.1) fun x12 =>
   bif x10 then
    bif x8.snd.fst == x9.snd.fst && (x8.snd.snd.fst == x9.snd.snd.fst && (x8.snd.snd.snd.fst == x9.snd.snd.snd.fst && (x8.snd.snd.snd.snd.fst == x9.snd.snd.snd.snd.fst && (x8.snd.snd.snd.snd.snd.fst == x9.snd.snd.snd.snd.snd.fst && (x8.snd.snd.snd.snd.snd.snd.fst == x9.snd.snd.snd.snd.snd.snd.fst && x8.snd.snd.snd.snd.snd.snd.snd == x9.snd.snd.snd.snd.snd.snd.snd))))) then
     ob (g_wait_Parked (v2.1, v2.2.1, v2.2.2.1, v2.2.2.2.1, v2.2.2.2.2.1, v2.2.2.2.2.2.1, v2.2.2.2.2.2.2)) fun x13 =>
     bif x13 == x11 then
      ob (g_wait_Waits (v0.1, v0.2.1, v0.2.2.1, v0.2.2.2) v1 v2.2.2.1) fun x14 =>
      some (x14 == x12)
     else
      some (false)
    else
     some (false)
   else
    some (false)
theorem h_poacherlaw14_WaitTells (k : Nat) (v0_0 : Int) (v0_1 : Int) (v0_2 : Int) (v0_3 : Int) (v1 : (List Int)) (v2_0 : Int) (v2_1 : Int) (v2_2 : Int) (v2_3 : Int) (v2_4 : Int) (v2_5 : Int) (v2_6 : Int) : xC (k + 61) none 3 [(.agg [(.lit (.int .i64 v0_0)), (.lit (.int .i64 v0_1)), (.lit (.int .i64 v0_2)), (.lit (.int .i64 v0_3))]), (.ro (List.map (intR .u64) v1)), (.agg [(.lit (.int .i64 v2_0)), (.lit (.int .i64 v2_1)), (.lit (.int .i64 v2_2)), (.lit (.int .u64 v2_3)), (.lit (.int .u64 v2_4)), (.lit (.int .u64 v2_5)), (.lit (.int .i64 v2_6))])] = ob (g_poacherlaw14_WaitTells k (v0_0, v0_1, v0_2, v0_3) v1 (v2_0, v2_1, v2_2, v2_3, v2_4, v2_5, v2_6)) fun r => some ((.lit (.bool r)), []) := by
  rw [xC_eq]
  unfold g_poacherlaw14_WaitTells
  simp (maxSteps := 2000000) -implicitDefEqProofs only [xe3, xb3, xm3_0, xm3_1, xm3_2, xm3_3, xk3_0_ret, xk3_1_ret, ↓syP, syA, rtN, pureL, V.pure, nsh, stBk, V.kill, killL, spl, V.shift, shiftL, V.scal, scalL, intR, boolR, threeV, Nat.reduceAdd, Nat.reduceSub, Nat.reduceMul, Nat.reduceLT, Nat.reduceLeDiff, Nat.reduceEqDiff, Nat.reduceBEq, Nat.reduceBNe, Int.reduceBEq, Int.reduceBNe, Int.reduceLT, Int.reduceLE, Int.reduceAdd, Int.reduceSub, Int.reduceNeg, syQ, confV, frameV, listV, xF, xcallV, xcallC, xcallL, xcallY, xevY, xY_ready, xrange, xG_fn, xR, xA, xcl50, xclk50, xcl83, xclk83, awk14', awk15', h_wait_Parked, h_wait_Waits, h_wait_Step, h_poacherref14_Step, h_poacherref01_Same, h_poacherref14_Parked, h_poacherref14_Waits]
  all_goals simp -implicitDefEqProofs only [List.map_nil]
end Go.Ab
