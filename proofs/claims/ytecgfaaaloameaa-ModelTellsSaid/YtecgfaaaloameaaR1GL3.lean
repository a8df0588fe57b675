/- Functions as they are walked: printed by Walk.lean. -/
import Derived.Test.YtecgfaaaloameaaR1GM
import Derived.Test.YtecgfaaaloameaaR1Awk
import Derived.Test.YtecgfaaaloameaaR1BL3
set_option maxRecDepth 100000
set_option linter.unusedVariables false
set_option linter.unusedSimpArgs false
namespace Go.Ab
open Go.Proofs
def g_poacherlaw21_ModelTells (k : Nat) (v0 : (List (Int × List Int))) (v1 : (List Int)) (v2 : (Int × Int × Int)) (v3 : (List (Int × Int × Int))) : Option Bool :=
  ob (g_poacherlaw04_Few (k + (59 : Nat)) v0) fun x15 =>
  bif !x15 then
   some (true)
  else
   bif decide ((60 : Int) < (↑v1.length : Int)) then
    some (true)
   else
    bif decide ((200 : Int) < (↑v3.length : Int)) then
     some (true)
    else
     ob (g_model_Step (k + (38 : Nat)) v0 v1 (v2.1, v2.2.1, v2.2.2)) fun x16 =>
     ob (g_poacherref21_Step (k + (56 : Nat)) v0 v1 (v2.1, v2.2.1, v2.2.2)) fun x17 =>
     ob (g_poacherref04_Ints (k + (59 : Nat)) x16.fst x17.fst) fun x18 =>
     ob (g_model_New (k + (40 : Nat)) v0) fun x19 =>
     ob (g_poacherref21_New (k + (58 : Nat)) v0) fun x20 =>
     ob (g_poacherref04_Ints (k + (59 : Nat)) x19 x20) fun x21 =>
     ob (g_model_End (k + (36 : Nat)) v0 v3) fun x22 =>
     ob (g_poacherref21_End (k + (55 : Nat)) v0 v3) fun x23 =>
     ob (g_poacherref04_Ints (k + (59 : Nat)) x22 x23) fun x24 =>
     ob (g_poacherref21_Accepts (k + (55 : Nat)) v0 v3) fun x25 =>
     ob (g_poacherref21_Calm (k + (59 : Nat)) v1) fun x26 =>
     bif x18 then
      bif x16.snd == x17.snd then
       bif x21 then
        bif x24 then
         ob (g_model_Accepts (k + (36 : Nat)) v0 v3) fun x27 =>
         bif x27 == x25 then
          ob (g_model_Calm (k + (41 : Nat)) v1) fun x28 =>
          some (x28 == x26)
         else
          some (false)
        else
         some (false)
       else
        some (false)
      else
       some (false)
     else
      some (false)
theorem h_poacherlaw21_ModelTells (k : Nat) (v0 : (List (Int × List Int))) (v1 : (List Int)) (v2_0 : Int) (v2_1 : Int) (v2_2 : Int) (v3 : (List (Int × Int × Int))) : xC (k + 61) none 3 [(.ro (List.map taskV v0)), (.ro (List.map (intR .i64) v1)), (.agg [(.lit (.int .i64 v2_0)), (.lit (.int .i64 v2_1)), (.lit (.int .i64 v2_2))]), (.ro (List.map threeV v3))] = ob (g_poacherlaw21_ModelTells k v0 v1 (v2_0, v2_1, v2_2) v3) fun r => some ((.lit (.bool r)), []) := by
  rw [xC_eq]
  unfold g_poacherlaw21_ModelTells
  simp (maxSteps := 2000000) -implicitDefEqProofs only [xe3, xb3, xm3_0, xm3_1, xm3_2, xm3_3, xm3_4, xm3_5, xm3_6, xm3_7, xk3_0_ret, xk3_1_ret, ↓syP, syA, rtN, pureL, V.pure, nsh, stBk, V.kill, killL, spl, V.shift, shiftL, V.scal, scalL, intR, boolR, threeV, Nat.reduceAdd, Nat.reduceSub, Nat.reduceMul, Nat.reduceLT, Nat.reduceLeDiff, Nat.reduceEqDiff, Nat.reduceBEq, Nat.reduceBNe, Int.reduceBEq, Int.reduceBNe, Int.reduceLT, Int.reduceLE, Int.reduceAdd, Int.reduceSub, Int.reduceNeg, xF, xcallV, xcallC, xcallL, xcallY, xevY, xY_ready, xrange, xG_fn, xR, xA, xcl62, xclk62, xcl71, xclk71, awk04', awk21', awk17', h_poacherlaw04_Few, h_poacherref04_Ints, h_model_New, h_model_Calm, h_model_Step, h_model_End, h_model_Accepts, h_poacherref21_New, h_poacherref21_Calm, h_poacherref21_Step, h_poacherref21_End, h_poacherref21_Accepts]
  all_goals simp -implicitDefEqProofs only [List.map_nil]
end Go.Ab
