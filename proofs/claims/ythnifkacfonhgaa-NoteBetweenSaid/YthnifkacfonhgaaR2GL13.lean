/- Functions as they are walked: printed by Walk.lean. -/
import Derived.Test.YthnifkacfonhgaaR2GA
import Derived.Test.YthnifkacfonhgaaR2Awk
import Derived.Test.YthnifkacfonhgaaR2BL13
set_option maxRecDepth 100000
set_option linter.unusedVariables false
set_option linter.unusedSimpArgs false
namespace Go.Ab
open Go.Proofs
def g_poacherlaw15_NoteBetween (k : Nat) (v0 : (Int × Int × Int × Int)) (v1 : (List Int)) (v2 : Bool) (v3 : Int) : Option Bool :=
  bif v2 then
   ob (g_frame_Begin (7 : Int) (0 : Int) (0 : Int)) fun x15 =>
   bif decide ((500 : Int) < (↑v1.length : Int)) then
    some (true)
   else
    ob (g_note_Goes (v0.1, v0.2.1, v0.2.2.1, v0.2.2.2) v1 (x15.fst, x15.snd.fst, x15.snd.snd.fst, x15.snd.snd.snd.fst, x15.snd.snd.snd.snd.fst, x15.snd.snd.snd.snd.snd.fst, x15.snd.snd.snd.snd.snd.snd)) fun x16 =>
    bif !x16 then
     some (true)
    else
     bif decide (v3 < (0 : Int)) then
      some (true)
     else
      bif decide (v0.1 ≤ v3) then
       some (true)
      else
       ob (g_frame_Begin (5 : Int) v3 (0 : Int)) fun x17 =>
       ob (g_wait_Step (v0.1, v0.2.1, v0.2.2.1, v0.2.2.2) v1 (x17.fst, x17.snd.fst, x17.snd.snd.fst, x17.snd.snd.snd.fst, x17.snd.snd.snd.snd.fst, x17.snd.snd.snd.snd.snd.fst, x17.snd.snd.snd.snd.snd.snd)) fun x18 =>
       ob (g_poacherlaw15_alone (k + (43 : Nat)) (v0.1, v0.2.1, v0.2.2.1, v0.2.2.2) x18.fst (x15.fst, x15.snd.fst, x15.snd.snd.fst, x15.snd.snd.snd.fst, x15.snd.snd.snd.snd.fst, x15.snd.snd.snd.snd.snd.fst, x15.snd.snd.snd.snd.snd.snd)) fun x19 =>
       ob (g_wait_Step (v0.1, v0.2.1, v0.2.2.1, v0.2.2.2) x19.fst (x18.snd.fst, x18.snd.snd.fst, x18.snd.snd.snd.fst, x18.snd.snd.snd.snd.fst, x18.snd.snd.snd.snd.snd.fst, x18.snd.snd.snd.snd.snd.snd.fst, x18.snd.snd.snd.snd.snd.snd.snd)) fun x20 =>
       ob (g_frame_Over (x19.snd.fst, x19.snd.snd.fst, x19.snd.snd.snd.fst, x19.snd.snd.snd.snd.fst, x19.snd.snd.snd.snd.snd.fst, x19.snd.snd.snd.snd.snd.snd.fst, x19.snd.snd.snd.snd.snd.snd.snd)) fun x21 =>
       bif x21 then
        some (x20.snd.snd.snd.snd.snd.snd.snd == (4 : Int))
       else
        some (false)
  else
   ob (g_frame_Begin (6 : Int) (0 : Int) (0 : Int)) fun x22 =>
   bif decide ((500 : Int) < (↑v1.length : Int)) then
    some (true)
   else
    ob (g_note_Goes (v0.1, v0.2.1, v0.2.2.1, v0.2.2.2) v1 (x22.fst, x22.snd.fst, x22.snd.snd.fst, x22.snd.snd.snd.fst, x22.snd.snd.snd.snd.fst, x22.snd.snd.snd.snd.snd.fst, x22.snd.snd.snd.snd.snd.snd)) fun x23 =>
    bif !x23 then
     some (true)
    else
     bif decide (v3 < (0 : Int)) then
      some (true)
     else
      bif decide (v0.1 ≤ v3) then
       some (true)
      else
       ob (g_frame_Begin (5 : Int) v3 (0 : Int)) fun x24 =>
       ob (g_wait_Step (v0.1, v0.2.1, v0.2.2.1, v0.2.2.2) v1 (x24.fst, x24.snd.fst, x24.snd.snd.fst, x24.snd.snd.snd.fst, x24.snd.snd.snd.snd.fst, x24.snd.snd.snd.snd.snd.fst, x24.snd.snd.snd.snd.snd.snd)) fun x25 =>
       ob (g_poacherlaw15_alone (k + (43 : Nat)) (v0.1, v0.2.1, v0.2.2.1, v0.2.2.2) x25.fst (x22.fst, x22.snd.fst, x22.snd.snd.fst, x22.snd.snd.snd.fst, x22.snd.snd.snd.snd.fst, x22.snd.snd.snd.snd.snd.fst, x22.snd.snd.snd.snd.snd.snd)) fun x26 =>
       ob (g_wait_Step (v0.1, v0.2.1, v0.2.2.1, v0.2.2.2) x26.fst (x25.snd.fst, x25.snd.snd.fst, x25.snd.snd.snd.fst, x25.snd.snd.snd.snd.fst, x25.snd.snd.snd.snd.snd.fst, x25.snd.snd.snd.snd.snd.snd.fst, x25.snd.snd.snd.snd.snd.snd.snd)) fun x27 =>
       ob (g_frame_Over (x26.snd.fst, x26.snd.snd.fst, x26.snd.snd.snd.fst, x26.snd.snd.snd.snd.fst, x26.snd.snd.snd.snd.snd.fst, x26.snd.snd.snd.snd.snd.snd.fst, x26.snd.snd.snd.snd.snd.snd.snd)) fun x28 =>
       bif x28 then
        some (x27.snd.snd.snd.snd.snd.snd.snd == (4 : Int))
       else
        some (false)
theorem h_poacherlaw15_NoteBetween (k : Nat) (v0_0 : Int) (v0_1 : Int) (v0_2 : Int) (v0_3 : Int) (v1 : (List Int)) (v2 : Bool) (v3 : Int) : xC (k + 61) none 13 [(.agg [(.lit (.int .i64 v0_0)), (.lit (.int .i64 v0_1)), (.lit (.int .i64 v0_2)), (.lit (.int .i64 v0_3))]), (.ro (List.map (intR .u64) v1)), (.lit (.bool v2)), (.lit (.int .i64 v3))] = ob (g_poacherlaw15_NoteBetween k (v0_0, v0_1, v0_2, v0_3) v1 v2 v3) fun r => some ((.lit (.bool r)), []) := by
  rw [xC_eq]
  unfold g_poacherlaw15_NoteBetween
  simp (maxSteps := 2000000) -implicitDefEqProofs only [xe13, xb13, xj13_0, xm13_1, xm13_2, xm13_3, xm13_4, xm13_5, xk13_0_ret, xk13_1_ret, xk13_2_ret, ↓syP, syA, rtN, pureL, V.pure, nsh, stBk, V.kill, killL, spl, V.shift, shiftL, V.scal, scalL, intR, boolR, threeV, Nat.reduceAdd, Nat.reduceSub, Nat.reduceMul, Nat.reduceLT, Nat.reduceLeDiff, Nat.reduceEqDiff, Nat.reduceBEq, Nat.reduceBNe, Int.reduceBEq, Int.reduceBNe, Int.reduceLT, Int.reduceLE, Int.reduceAdd, Int.reduceSub, Int.reduceNeg, syQ, confV, frameV, listV, xF, xcallV, xcallC, xcallL, xcallY, xevY, xY_ready, xrange, xG_fn, xR, xA, xcl50, xclk50, xcl83, xclk83, awk14', awk15', h_frame_Over, h_frame_Begin, h_wait_Step, h_note_Goes, h_poacherlaw15_alone]
  all_goals simp -implicitDefEqProofs only [List.map_nil]
end Go.Ab
