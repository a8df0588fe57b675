/- Functions as they are walked: printed by Walk.lean. -/
import Derived.Test.YthnifkacfonhgaaR2GR
import Derived.Test.YthnifkacfonhgaaR2GN
import Derived.Test.YthnifkacfonhgaaR2Awk
import Derived.Test.YthnifkacfonhgaaR2BL8
set_option maxRecDepth 100000
set_option linter.unusedVariables false
set_option linter.unusedSimpArgs false
namespace Go.Ab
open Go.Proofs
def g_poacherlaw14_WaitAgain (k : Nat) (v0 : (Int × Int × Int × Int)) (v1 : (List Int)) (v2 : (Int × Int × Int × Int × Int × Int × Int)) (v3 : Int) : Option Bool :=
  bif decide ((500 : Int) < (↑v1.length : Int)) then
   some (true)
  else
   bif v2.2.1 != (2 : Int) then
    some (true)
   else
    ob (g_push_Goes (v0.1, v0.2.1, v0.2.2.1, v0.2.2.2) v1 (v2.1, v2.2.1, v2.2.2.1, v2.2.2.2.1, v2.2.2.2.2.1, v2.2.2.2.2.2.1, v2.2.2.2.2.2.2) (5 : Int) (5 : Int)) fun x13 =>
    bif !x13 then
     some (true)
    else
     bif v3 == v2.2.2.2.2.2.1 then
      some (true)
     else
      ob (g_cell_Store v1 (2 : Int) v3) fun x14 =>
      ob (g_wait_Step (v0.1, v0.2.1, v0.2.2.1, v0.2.2.2) x14 (v2.1, v2.2.1, v2.2.2.1, v2.2.2.2.1, v2.2.2.2.2.1, v2.2.2.2.2.2.1, v2.2.2.2.2.2.2)) fun x15 =>
      ob (g_wait_Step (v0.1, v0.2.1, v0.2.2.1, v0.2.2.2) x15.fst (x15.snd.fst, x15.snd.snd.fst, x15.snd.snd.snd.fst, x15.snd.snd.snd.snd.fst, x15.snd.snd.snd.snd.snd.fst, x15.snd.snd.snd.snd.snd.snd.fst, x15.snd.snd.snd.snd.snd.snd.snd)) fun x16 =>
      ob (g_word_Epoch v3) fun x17 =>
      ob (g_word_Epoch v2.2.2.2.2.1) fun x18 =>
      ob (g_wait_Step (v0.1, v0.2.1, v0.2.2.1, v0.2.2.2) x16.fst (x16.snd.fst, x16.snd.snd.fst, x16.snd.snd.snd.fst, x16.snd.snd.snd.snd.fst, x16.snd.snd.snd.snd.snd.fst, x16.snd.snd.snd.snd.snd.snd.fst, x16.snd.snd.snd.snd.snd.snd.snd)) fun x19 =>
      ob (g_cell_Same (k + (59 : Nat)) x15.fst x14) fun x20 =>
      bif x20 then
       bif x15.snd.snd.fst == (1 : Int) then
        ob (g_cell_Same (k + (59 : Nat)) x16.fst x14) fun x21 =>
        bif x21 then
         bif x17 == x18 then
          bif x16.snd.snd.fst == (2 : Int) then
           ob (g_wait_Parked (x19.snd.fst, x19.snd.snd.fst, x19.snd.snd.snd.fst, x19.snd.snd.snd.snd.fst, x19.snd.snd.snd.snd.snd.fst, x19.snd.snd.snd.snd.snd.snd.fst, x19.snd.snd.snd.snd.snd.snd.snd)) fun x22 =>
           bif x22 then
            ob (g_cell_Load x19.fst (2 : Int)) fun x23 =>
            ob (g_word_Set v3 v2.2.2.1) fun x24 =>
            bif x23 == x24 then
             some (true)
            else
             bif !x17 == x18 then
              bif x16.snd.snd.snd.snd.snd.snd.snd == (4 : Int) then
               some (x19.snd.fst == x16.snd.fst && (x19.snd.snd.fst == x16.snd.snd.fst && (x19.snd.snd.snd.fst == x16.snd.snd.snd.fst && (x19.snd.snd.snd.snd.fst == x16.snd.snd.snd.snd.fst && (x19.snd.snd.snd.snd.snd.fst == x16.snd.snd.snd.snd.snd.fst && (x19.snd.snd.snd.snd.snd.snd.fst == x16.snd.snd.snd.snd.snd.snd.fst && x19.snd.snd.snd.snd.snd.snd.snd == x16.snd.snd.snd.snd.snd.snd.snd))))))
              else
               some (false)
             else
              some (false)
           else
            bif !x17 == x18 then
             bif x16.snd.snd.snd.snd.snd.snd.snd == (4 : Int) then
              some (x19.snd.fst == x16.snd.fst && (x19.snd.snd.fst == x16.snd.snd.fst && (x19.snd.snd.snd.fst == x16.snd.snd.snd.fst && (x19.snd.snd.snd.snd.fst == x16.snd.snd.snd.snd.fst && (x19.snd.snd.snd.snd.snd.fst == x16.snd.snd.snd.snd.snd.fst && (x19.snd.snd.snd.snd.snd.snd.fst == x16.snd.snd.snd.snd.snd.snd.fst && x19.snd.snd.snd.snd.snd.snd.snd == x16.snd.snd.snd.snd.snd.snd.snd))))))
             else
              some (false)
            else
             some (false)
          else
           bif !x17 == x18 then
            bif x16.snd.snd.snd.snd.snd.snd.snd == (4 : Int) then
             some (x19.snd.fst == x16.snd.fst && (x19.snd.snd.fst == x16.snd.snd.fst && (x19.snd.snd.snd.fst == x16.snd.snd.snd.fst && (x19.snd.snd.snd.snd.fst == x16.snd.snd.snd.snd.fst && (x19.snd.snd.snd.snd.snd.fst == x16.snd.snd.snd.snd.snd.fst && (x19.snd.snd.snd.snd.snd.snd.fst == x16.snd.snd.snd.snd.snd.snd.fst && x19.snd.snd.snd.snd.snd.snd.snd == x16.snd.snd.snd.snd.snd.snd.snd))))))
            else
             some (false)
           else
            some (false)
         else
          bif !x17 == x18 then
           bif x16.snd.snd.snd.snd.snd.snd.snd == (4 : Int) then
            some (x19.snd.fst == x16.snd.fst && (x19.snd.snd.fst == x16.snd.snd.fst && (x19.snd.snd.snd.fst == x16.snd.snd.snd.fst && (x19.snd.snd.snd.snd.fst == x16.snd.snd.snd.snd.fst && (x19.snd.snd.snd.snd.snd.fst == x16.snd.snd.snd.snd.snd.fst && (x19.snd.snd.snd.snd.snd.snd.fst == x16.snd.snd.snd.snd.snd.snd.fst && x19.snd.snd.snd.snd.snd.snd.snd == x16.snd.snd.snd.snd.snd.snd.snd))))))
           else
            some (false)
          else
           some (false)
        else
         some (false)
       else
        some (false)
      else
       some (false)
theorem h_poacherlaw14_WaitAgain (k : Nat) (v0_0 : Int) (v0_1 : Int) (v0_2 : Int) (v0_3 : Int) (v1 : (List Int)) (v2_0 : Int) (v2_1 : Int) (v2_2 : Int) (v2_3 : Int) (v2_4 : Int) (v2_5 : Int) (v2_6 : Int) (v3 : Int) : xC (k + 61) none 8 [(.agg [(.lit (.int .i64 v0_0)), (.lit (.int .i64 v0_1)), (.lit (.int .i64 v0_2)), (.lit (.int .i64 v0_3))]), (.ro (List.map (intR .u64) v1)), (.agg [(.lit (.int .i64 v2_0)), (.lit (.int .i64 v2_1)), (.lit (.int .i64 v2_2)), (.lit (.int .u64 v2_3)), (.lit (.int .u64 v2_4)), (.lit (.int .u64 v2_5)), (.lit (.int .i64 v2_6))]), (.lit (.int .u64 v3))] = ob (g_poacherlaw14_WaitAgain k (v0_0, v0_1, v0_2, v0_3) v1 (v2_0, v2_1, v2_2, v2_3, v2_4, v2_5, v2_6) v3) fun r => some ((.lit (.bool r)), []) := by
  rw [xC_eq]
  unfold g_poacherlaw14_WaitAgain
  simp (maxSteps := 2000000) -implicitDefEqProofs only [xe8, xb8, xm8_0, xm8_1, xm8_2, xm8_3, xm8_4, xm8_5, xm8_6, xm8_7, xm8_8, xm8_9, xm8_10, xm8_11, xm8_12, xm8_13, xm8_14, xm8_15, xm8_16, xm8_17, xm8_18, xm8_19, xm8_20, xm8_21, xm8_22, xm8_23, xm8_24, xm8_25, xm8_26, xm8_27, xm8_28, xm8_29, xm8_30, xm8_31, xm8_32, xm8_33, xm8_34, xk8_0_ret, xk8_1_ret, ↓syP, syA, rtN, pureL, V.pure, nsh, stBk, V.kill, killL, spl, V.shift, shiftL, V.scal, scalL, intR, boolR, threeV, Nat.reduceAdd, Nat.reduceSub, Nat.reduceMul, Nat.reduceLT, Nat.reduceLeDiff, Nat.reduceEqDiff, Nat.reduceBEq, Nat.reduceBNe, Int.reduceBEq, Int.reduceBNe, Int.reduceLT, Int.reduceLE, Int.reduceAdd, Int.reduceSub, Int.reduceNeg, syQ, confV, frameV, listV, xF, xcallV, xcallC, xcallL, xcallY, xevY, xY_ready, xrange, xG_fn, xR, xA, xcl50, xclk50, xcl83, xclk83, awk14', awk15', h_push_Goes, h_cell_Store, h_cell_Load, h_cell_Same, h_word_Set, h_word_Epoch, h_wait_Parked, h_wait_Step]
  all_goals simp -implicitDefEqProofs only [List.map_nil]
end Go.Ab
