/- Functions as they are walked: printed by Walk.lean. -/
import Derived.Test.YthnifkacfonhgaaR2GPA
import Derived.Test.YthnifkacfonhgaaR2GF
import Derived.Test.YthnifkacfonhgaaR2BL17
set_option linter.unusedVariables false
set_option linter.unusedSimpArgs false
set_option maxRecDepth 100000
set_option linter.unusedVariables false
set_option linter.unusedSimpArgs false
namespace Go.Ab
open Go.Proofs
def g_poacherlaw16_EventFirst (k : Nat) (v0 : (List (List Int))) (v1 : (List Int)) (v2 : Int) : Option Bool :=
  ob (g_poacherlaw16_awake k) fun x6 =>
  ob (g_poacherlaw16_Few (k + (59 : Nat)) v0) fun x7 =>
  bif !x6 then
   some (x6)
  else
   bif !x7 then
    some (x6)
   else
    bif decide ((500 : Int) < (↑v1.length : Int)) then
     some (x6)
    else
     bif decide (v2 < (0 : Int)) then
      some (x6)
     else
      bif decide ((↑v1.length : Int) < v2) then
       some (x6)
      else
       bif decide ((0 : Int) ≤ v2 ∧ v2 ≤ (↑v1.length : Int)) then
        ob (g_event_Play (k + (20 : Nat)) v0 (List.take v2.toNat v1)) fun x8 =>
        ob (g_event_Play (k + (20 : Nat)) v0 v1) fun x9 =>
        bif decide ((↑x9.snd.fst.length : Int) < (↑x8.snd.fst.length : Int)) then
         some (false)
        else
         bif (↑x8.snd.snd.length : Int) != (↑x9.snd.snd.length : Int) then
          some (false)
         else
          bif decide ((0 : Int) ≤ (↑x8.snd.fst.length : Int) ∧ (↑x8.snd.fst.length : Int) ≤ (↑x9.snd.fst.length : Int)) then
           ob (g_poacherref10_Frames (k + (59 : Nat)) x8.snd.fst (List.take x8.snd.fst.length x9.snd.fst)) fun x10 =>
           some (x10)
          else
           none
       else
        none
theorem h_poacherlaw16_EventFirst (k : Nat) (v0 : (List (List Int))) (v1 : (List Int)) (v2 : Int) : xC (k + 61) none 17 [(.ro (List.map listV v0)), (.ro (List.map (intR .i64) v1)), (.lit (.int .i64 v2))] = ob (g_poacherlaw16_EventFirst k v0 v1 v2) fun r => some ((.lit (.bool r)), []) := by
  rw [xC_eq]
  unfold g_poacherlaw16_EventFirst
  simp (maxSteps := 2000000) -implicitDefEqProofs only [xe17, xb17, xm17_0, xm17_1, xm17_2, xm17_3, xm17_4, xk17_0_ret, xk17_1_ret, ↓syP, syA, rtN, pureL, V.pure, nsh, stBk, V.kill, killL, spl, V.shift, shiftL, V.scal, scalL, intR, boolR, threeV, Nat.reduceAdd, Nat.reduceSub, Nat.reduceMul, Nat.reduceLT, Nat.reduceLeDiff, Nat.reduceEqDiff, Nat.reduceBEq, Nat.reduceBNe, Int.reduceBEq, Int.reduceBNe, Int.reduceLT, Int.reduceLE, Int.reduceAdd, Int.reduceSub, Int.reduceNeg, syQ, confV, frameV, listV, xF, xcallV, xcallC, xcallL, xcallY, xevY, xY_ready, xrange, xG_fn, xR, xA, xcl50, xclk50, xcl83, xclk83, xrp84, xrq84, rtC_int, rtC_list, awk14', awk15', h_poacherlaw16_Few, h_event_Play, h_poacherlaw16_awake, h_poacherref10_Frames]
  all_goals simp -implicitDefEqProofs only [List.map_nil]
end Go.Ab
