/- Functions as they are walked: printed by Walk.lean. -/
import Derived.Test.YthnifkacfonhgaaR2GPA
import Derived.Test.YthnifkacfonhgaaR2BL14
set_option linter.unusedVariables false
set_option linter.unusedSimpArgs false
set_option maxRecDepth 100000
set_option linter.unusedVariables false
set_option linter.unusedSimpArgs false
namespace Go.Ab
open Go.Proofs
def g_poacherlaw16_EventSigns (k : Nat) (v0 : (List (List Int))) (v1 : (List Int)) (v2 : Int) : Option Bool :=
  ob (g_poacherlaw16_awake k) fun x8 =>
  ob (g_poacherlaw16_Few (k + (59 : Nat)) v0) fun x9 =>
  bif !x8 then
   some (x8)
  else
   bif !x9 then
    some (x8)
   else
    bif decide ((500 : Int) < (↑v1.length : Int)) then
     some (x8)
    else
     bif decide (v2 < (0 : Int)) then
      some (x8)
     else
      bif decide ((↑v0.length : Int) ≤ v2) then
       some (x8)
      else
       ob (g_event_Play (k + (20 : Nat)) v0 v1) fun x10 =>
       ob (g_event_States (k + (19 : Nat)) v0 v1 v2) fun x11 =>
       bif decide ((↑x10.snd.snd.length : Int) ≤ v2) then
        bif x11 == (-1 : Int) then
         some ((↑x10.snd.snd.length : Int) == (0 : Int))
        else
         some (false)
       else
        ob (idx x10.snd.snd v2) fun x12 =>
        bif x12.fst != (5 : Int) then
         some (x11 == (0 : Int))
        else
         bif decide (x12.snd.fst < (3 : Int)) then
          some (x11 == (0 : Int))
         else
          bif x11 == (1 : Int) then
           bif x12.snd.fst == (3 : Int) then
            some (true)
           else
            bif x12.snd.fst == (4 : Int) then
             ob (g_lay_Park ((↑v0.length : Int), (1 : Int), (1 : Int), (0 : Int)) v2) fun x13 =>
             ob (g_cell_Load x10.fst x13) fun x14 =>
             some (x14 == (1 : Int))
            else
             some (false)
          else
           some (false)
theorem h_poacherlaw16_EventSigns (k : Nat) (v0 : (List (List Int))) (v1 : (List Int)) (v2 : Int) : xC (k + 61) none 14 [(.ro (List.map listV v0)), (.ro (List.map (intR .i64) v1)), (.lit (.int .i64 v2))] = ob (g_poacherlaw16_EventSigns k v0 v1 v2) fun r => some ((.lit (.bool r)), []) := by
  rw [xC_eq]
  unfold g_poacherlaw16_EventSigns
  simp (maxSteps := 2000000) -implicitDefEqProofs only [xe14, xb14, xm14_0, xm14_1, xm14_2, xm14_3, xm14_4, xm14_5, xm14_6, xm14_7, xm14_8, xm14_9, xm14_10, xm14_11, xm14_12, xm14_13, xm14_14, xm14_15, xm14_16, xm14_17, xm14_18, xk14_0_ret, xk14_1_ret, xk14_2_ret, xk14_3_ret, ↓syP, syA, rtN, pureL, V.pure, nsh, stBk, V.kill, killL, spl, V.shift, shiftL, V.scal, scalL, intR, boolR, threeV, Nat.reduceAdd, Nat.reduceSub, Nat.reduceMul, Nat.reduceLT, Nat.reduceLeDiff, Nat.reduceEqDiff, Nat.reduceBEq, Nat.reduceBNe, Int.reduceBEq, Int.reduceBNe, Int.reduceLT, Int.reduceLE, Int.reduceAdd, Int.reduceSub, Int.reduceNeg, syQ, confV, frameV, listV, xF, xcallV, xcallC, xcallL, xcallY, xevY, xY_ready, xrange, xG_fn, xR, xA, xcl50, xclk50, xcl83, xclk83, xrp84, xrq84, rtC_int, rtC_list, awk14', awk15', h_lay_Park, h_cell_Load, h_poacherlaw16_Few, h_event_Play, h_event_States, h_poacherlaw16_awake]
  all_goals simp -implicitDefEqProofs only [List.map_nil]
end Go.Ab
