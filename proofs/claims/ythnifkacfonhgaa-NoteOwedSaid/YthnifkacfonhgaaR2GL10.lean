/- Functions as they are walked: printed by Walk.lean. -/
import Derived.Test.YthnifkacfonhgaaR2GN
import Derived.Test.YthnifkacfonhgaaR2Awk
import Derived.Test.YthnifkacfonhgaaR2BL10
set_option maxRecDepth 100000
set_option linter.unusedVariables false
set_option linter.unusedSimpArgs false
namespace Go.Ab
open Go.Proofs
def g_poacherlaw15_NoteOwed (k : Nat) (v0 : (Int × Int × Int × Int)) (v1 : (List Int)) (v2 : (Int × Int × Int × Int × Int × Int × Int)) (v3 : Int) : Option Bool :=
  bif decide ((500 : Int) < (↑v1.length : Int)) then
   some (true)
  else
   bif v2.2.1 != (2 : Int) then
    some (true)
   else
    ob (g_note_Goes (v0.1, v0.2.1, v0.2.2.1, v0.2.2.2) v1 (v2.1, v2.2.1, v2.2.2.1, v2.2.2.2.1, v2.2.2.2.2.1, v2.2.2.2.2.2.1, v2.2.2.2.2.2.2)) fun x9 =>
    bif !x9 then
     some (true)
    else
     bif decide (v3 < (0 : Int)) then
      some (true)
     else
      bif decide (v0.1 ≤ v3) then
       some (true)
      else
       bif decide ((7 : Int) < v3) then
        some (true)
       else
        ob (g_lay_Park (v0.1, v0.2.1, v0.2.2.1, v0.2.2.2) v3) fun x10 =>
        ob (g_cell_Store v1 x10 (0 : Int)) fun x11 =>
        ob (g_note_Step (k + (44 : Nat)) (v0.1, v0.2.1, v0.2.2.1, v0.2.2.2) x11 (v2.1, v2.2.1, v2.2.2.1, v2.2.2.2.1, v2.2.2.2.2.1, v2.2.2.2.2.2.1, v2.2.2.2.2.2.2)) fun x12 =>
        ob (g_lay_Park (v0.1, v0.2.1, v0.2.2.1, v0.2.2.2) v3) fun x13 =>
        ob (g_cell_Load x12.fst x13) fun x14 =>
        ob (g_note_Owes (v2.1, v2.2.1, v2.2.2.1, v2.2.2.2.1, v2.2.2.2.2.1, v2.2.2.2.2.2.1, v2.2.2.2.2.2.2) v3) fun x15 =>
        ob (g_note_Owes (x12.snd.fst, x12.snd.snd.fst, x12.snd.snd.snd.fst, x12.snd.snd.snd.snd.fst, x12.snd.snd.snd.snd.snd.fst, x12.snd.snd.snd.snd.snd.snd.fst, x12.snd.snd.snd.snd.snd.snd.snd) v3) fun x16 =>
        bif x15 then
         bif (x14 == (1 : Int)) == !x16 then
          bif x15 then
           some (true)
          else
           some (!x16)
         else
          some (false)
        else
         bif (x14 == (1 : Int)) == false then
          bif x15 then
           some (true)
          else
           some (!x16)
         else
          some (false)
theorem h_poacherlaw15_NoteOwed (k : Nat) (v0_0 : Int) (v0_1 : Int) (v0_2 : Int) (v0_3 : Int) (v1 : (List Int)) (v2_0 : Int) (v2_1 : Int) (v2_2 : Int) (v2_3 : Int) (v2_4 : Int) (v2_5 : Int) (v2_6 : Int) (v3 : Int) : xC (k + 61) none 10 [(.agg [(.lit (.int .i64 v0_0)), (.lit (.int .i64 v0_1)), (.lit (.int .i64 v0_2)), (.lit (.int .i64 v0_3))]), (.ro (List.map (intR .u64) v1)), (.agg [(.lit (.int .i64 v2_0)), (.lit (.int .i64 v2_1)), (.lit (.int .i64 v2_2)), (.lit (.int .u64 v2_3)), (.lit (.int .u64 v2_4)), (.lit (.int .u64 v2_5)), (.lit (.int .i64 v2_6))]), (.lit (.int .i64 v3))] = ob (g_poacherlaw15_NoteOwed k (v0_0, v0_1, v0_2, v0_3) v1 (v2_0, v2_1, v2_2, v2_3, v2_4, v2_5, v2_6) v3) fun r => some ((.lit (.bool r)), []) := by
  rw [xC_eq]
  unfold g_poacherlaw15_NoteOwed
  simp (maxSteps := 2000000) -implicitDefEqProofs only [xe10, xb10, xm10_0, xm10_1, xm10_2, xm10_3, xm10_4, xm10_5, xm10_6, xm10_7, xm10_8, xm10_9, xm10_10, xk10_0_ret, xk10_1_ret, ↓syP, syA, rtN, pureL, V.pure, nsh, stBk, V.kill, killL, spl, V.shift, shiftL, V.scal, scalL, intR, boolR, threeV, Nat.reduceAdd, Nat.reduceSub, Nat.reduceMul, Nat.reduceLT, Nat.reduceLeDiff, Nat.reduceEqDiff, Nat.reduceBEq, Nat.reduceBNe, Int.reduceBEq, Int.reduceBNe, Int.reduceLT, Int.reduceLE, Int.reduceAdd, Int.reduceSub, Int.reduceNeg, syQ, confV, frameV, listV, xF, xcallV, xcallC, xcallL, xcallY, xevY, xY_ready, xrange, xG_fn, xR, xA, xcl50, xclk50, xcl83, xclk83, awk14', awk15', h_lay_Park, h_cell_Store, h_cell_Load, h_note_Goes, h_note_Step, h_note_Owes]
  all_goals simp -implicitDefEqProofs only [List.map_nil]
end Go.Ab
