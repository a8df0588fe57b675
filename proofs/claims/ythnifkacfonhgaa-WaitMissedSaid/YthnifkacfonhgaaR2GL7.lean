/- Functions as they are walked: printed by Walk.lean. -/
import Derived.Test.YthnifkacfonhgaaR2GR
import Derived.Test.YthnifkacfonhgaaR2GN
import Derived.Test.YthnifkacfonhgaaR2Awk
import Derived.Test.YthnifkacfonhgaaR2BL7
set_option maxRecDepth 100000
set_option linter.unusedVariables false
set_option linter.unusedSimpArgs false
namespace Go.Ab
open Go.Proofs
def g_poacherlaw14_WaitMissed (k : Nat) (v0 : (Int × Int × Int × Int)) (v1 : (List Int)) (v2 : Int) (v3 : Int) : Option Bool :=
  ob (g_frame_Begin (5 : Int) v2 (0 : Int)) fun x10 =>
  bif decide ((500 : Int) < (↑v1.length : Int)) then
   some (true)
  else
   ob (g_push_Goes (v0.1, v0.2.1, v0.2.2.1, v0.2.2.2) v1 (x10.fst, x10.snd.fst, x10.snd.snd.fst, x10.snd.snd.snd.fst, x10.snd.snd.snd.snd.fst, x10.snd.snd.snd.snd.snd.fst, x10.snd.snd.snd.snd.snd.snd) (5 : Int) (5 : Int)) fun x11 =>
   bif !x11 then
    some (true)
   else
    ob (g_word_Epoch v3) fun x12 =>
    ob (g_cell_Load v1 (2 : Int)) fun x13 =>
    ob (g_word_Epoch x13) fun x14 =>
    bif x12 == x14 then
     some (true)
    else
     ob (g_wait_Step (v0.1, v0.2.1, v0.2.2.1, v0.2.2.2) v1 (x10.fst, x10.snd.fst, x10.snd.snd.fst, x10.snd.snd.snd.fst, x10.snd.snd.snd.snd.fst, x10.snd.snd.snd.snd.snd.fst, x10.snd.snd.snd.snd.snd.snd)) fun x15 =>
     ob (g_cell_Store x15.fst (2 : Int) v3) fun x16 =>
     ob (g_wait_Step (v0.1, v0.2.1, v0.2.2.1, v0.2.2.2) x16 (x15.snd.fst, x15.snd.snd.fst, x15.snd.snd.snd.fst, x15.snd.snd.snd.snd.fst, x15.snd.snd.snd.snd.snd.fst, x15.snd.snd.snd.snd.snd.snd.fst, x15.snd.snd.snd.snd.snd.snd.snd)) fun x17 =>
     bif x17.snd.snd.snd.snd.snd.snd.snd == (4 : Int) then
      ob (g_cell_Same (k + (59 : Nat)) x17.fst x16) fun x18 =>
      some (x18)
     else
      some (false)
theorem h_poacherlaw14_WaitMissed (k : Nat) (v0_0 : Int) (v0_1 : Int) (v0_2 : Int) (v0_3 : Int) (v1 : (List Int)) (v2 : Int) (v3 : Int) : xC (k + 61) none 7 [(.agg [(.lit (.int .i64 v0_0)), (.lit (.int .i64 v0_1)), (.lit (.int .i64 v0_2)), (.lit (.int .i64 v0_3))]), (.ro (List.map (intR .u64) v1)), (.lit (.int .i64 v2)), (.lit (.int .u64 v3))] = ob (g_poacherlaw14_WaitMissed k (v0_0, v0_1, v0_2, v0_3) v1 v2 v3) fun r => some ((.lit (.bool r)), []) := by
  rw [xC_eq]
  unfold g_poacherlaw14_WaitMissed
  simp (maxSteps := 2000000) -implicitDefEqProofs only [xe7, xb7, xm7_0, xm7_1, xm7_2, xm7_3, xk7_0_ret, xk7_1_ret, ↓syP, syA, rtN, pureL, V.pure, nsh, stBk, V.kill, killL, spl, V.shift, shiftL, V.scal, scalL, intR, boolR, threeV, Nat.reduceAdd, Nat.reduceSub, Nat.reduceMul, Nat.reduceLT, Nat.reduceLeDiff, Nat.reduceEqDiff, Nat.reduceBEq, Nat.reduceBNe, Int.reduceBEq, Int.reduceBNe, Int.reduceLT, Int.reduceLE, Int.reduceAdd, Int.reduceSub, Int.reduceNeg, syQ, confV, frameV, listV, xF, xcallV, xcallC, xcallL, xcallY, xevY, xY_ready, xrange, xG_fn, xR, xA, xcl50, xclk50, xcl83, xclk83, awk14', awk15', h_push_Goes, h_cell_Store, h_cell_Load, h_cell_Same, h_word_Epoch, h_frame_Begin, h_wait_Step]
  all_goals simp -implicitDefEqProofs only [List.map_nil]
end Go.Ab
