/- Functions as they are walked: printed by Walk.lean. -/
import Derived.Test.YtecgfaaaloameaaR1GU
import Derived.Test.YtecgfaaaloameaaR1Awk
import Derived.Test.YtecgfaaaloameaaR1BL16
set_option maxRecDepth 100000
set_option linter.unusedVariables false
set_option linter.unusedSimpArgs false
namespace Go.Ab
open Go.Proofs
def g_poacherlaw04_ForestTells (k : Nat) (v0 : (List (Int × List Int))) (v1 : (List (Int × List Int))) (v2 : Int) : Option Bool :=
  ob (g_poacherlaw04_Few (k + (59 : Nat)) v0) fun x17 =>
  ob (g_poacherlaw04_Few (k + (59 : Nat)) v1) fun x18 =>
  bif !x17 then
   some (true)
  else
   bif !x18 then
    some (true)
   else
    ob (g_forest_Sums (k + (40 : Nat)) v0) fun x19 =>
    ob (g_poacherref04_Sums (k + (58 : Nat)) v0) fun x20 =>
    ob (g_poacherref04_May (k + (59 : Nat)) v0) fun x21 =>
    ob (g_poacherref04_Same (k + (58 : Nat)) v0 v1) fun x22 =>
    ob (g_forest_Roots (k + (39 : Nat)) v0) fun x23 =>
    ob (g_poacherref04_Roots (k + (57 : Nat)) v0) fun x24 =>
    ob (g_poacherref04_Ints (k + (59 : Nat)) x23 x24) fun x25 =>
    ob (g_forest_Under (k + (40 : Nat)) v0 v2) fun x26 =>
    ob (g_poacherref04_Under (k + (58 : Nat)) v0 v2) fun x27 =>
    ob (g_poacherref04_Ints (k + (59 : Nat)) x26 x27) fun x28 =>
    bif x19.fst == x20.fst then
     bif x19.snd == x20.snd then
      ob (g_forest_May (k + (41 : Nat)) v0) fun x29 =>
      bif x29 == x21 then
       ob (g_forest_Same (k + (50 : Nat)) v0 v1) fun x30 =>
       bif x30 == x22 then
        bif x25 then
         bif x28 then
          ob (g_forest_Parent (k + (40 : Nat)) v0 v2) fun x31 =>
          ob (g_poacherref04_Parent (k + (58 : Nat)) v0 v2) fun x32 =>
          some (x31 == x32)
         else
          some (false)
        else
         some (false)
       else
        some (false)
      else
       some (false)
     else
      some (false)
    else
     some (false)
theorem h_poacherlaw04_ForestTells (k : Nat) (v0 : (List (Int × List Int))) (v1 : (List (Int × List Int))) (v2 : Int) : xC (k + 61) none 16 [(.ro (List.map taskV v0)), (.ro (List.map taskV v1)), (.lit (.int .i64 v2))] = ob (g_poacherlaw04_ForestTells k v0 v1 v2) fun r => some ((.lit (.bool r)), []) := by
  rw [xC_eq]
  unfold g_poacherlaw04_ForestTells
  simp (maxSteps := 2000000) -implicitDefEqProofs only [xe16, xb16, xm16_0, xm16_1, xm16_2, xm16_3, xm16_4, xm16_5, xm16_6, xm16_7, xk16_0_ret, xk16_1_ret, ↓syP, syA, rtN, pureL, V.pure, nsh, stBk, V.kill, killL, spl, V.shift, shiftL, V.scal, scalL, intR, boolR, threeV, Nat.reduceAdd, Nat.reduceSub, Nat.reduceMul, Nat.reduceLT, Nat.reduceLeDiff, Nat.reduceEqDiff, Nat.reduceBEq, Nat.reduceBNe, Int.reduceBEq, Int.reduceBNe, Int.reduceLT, Int.reduceLE, Int.reduceAdd, Int.reduceSub, Int.reduceNeg, xF, xcallV, xcallC, xcallL, xcallY, xevY, xY_ready, xrange, xG_fn, xR, xA, xcl62, xclk62, xcl71, xclk71, awk04', awk21', awk17', downF_init, h_ref_under, h_poacherlaw04_Few, h_poacherref04_Ints, h_forest_May, h_forest_Sums, h_forest_Parent, h_forest_Roots, h_forest_Same, h_poacherref04_May, h_poacherref04_Same, h_poacherref04_Sums, h_poacherref04_Parent, h_poacherref04_Roots, h_forest_Under, h_poacherref04_Under]
  all_goals simp -implicitDefEqProofs only [List.map_nil]
end Go.Ab
