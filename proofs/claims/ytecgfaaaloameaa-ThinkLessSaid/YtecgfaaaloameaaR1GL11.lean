/- Functions as they are walked: printed by Walk.lean. -/
import Derived.Test.YtecgfaaaloameaaR1GT
import Derived.Test.YtecgfaaaloameaaR1Awk
import Derived.Test.YtecgfaaaloameaaR1BL11
set_option maxRecDepth 100000
set_option linter.unusedVariables false
set_option linter.unusedSimpArgs false
namespace Go.Ab
open Go.Proofs
def g_poacherlaw17_ThinkLess (k : Nat) (v0 : (List (Int × List Int))) (v1 : (List (Int × Int × Int))) : Option Bool :=
  ob (g_poacherlaw04_Few (k + (59 : Nat)) v0) fun x7 =>
  bif !x7 then
   some (true)
  else
   bif decide ((40 : Int) < (↑v1.length : Int)) then
    some (true)
   else
    ob (g_think_May (k + (40 : Nat)) v0 v1) fun x8 =>
    bif !x8 then
     some (true)
    else
     ob (g_think_Do (k + (38 : Nat)) v0 v1) fun x9 =>
     ob (g_think_Left (k + (39 : Nat)) v0 v1) fun x10 =>
     bif x10 == (0 : Int) then
      bif (↑v1.length : Int) == (0 : Int) then
       some ((↑x9.length : Int) == (0 : Int))
      else
       some (false)
     else
      ob (g_think_May (k + (40 : Nat)) v0 x9) fun x11 =>
      bif x11 then
       ob (g_think_Left (k + (39 : Nat)) v0 x9) fun x12 =>
       bif x12 == IntKind.i64.wrap (x10 - (1 : Int)) then
        bif decide ((↑x9.length : Int) ≤ (↑v1.length : Int)) then
         some (decide (IntKind.i64.wrap ((↑v1.length : Int) - (1 : Int)) ≤ (↑x9.length : Int)))
        else
         some (false)
       else
        some (false)
      else
       some (false)
theorem h_poacherlaw17_ThinkLess (k : Nat) (v0 : (List (Int × List Int))) (v1 : (List (Int × Int × Int))) : xC (k + 61) none 11 [(.ro (List.map taskV v0)), (.ro (List.map threeV v1))] = ob (g_poacherlaw17_ThinkLess k v0 v1) fun r => some ((.lit (.bool r)), []) := by
  rw [xC_eq]
  unfold g_poacherlaw17_ThinkLess
  simp (maxSteps := 2000000) -implicitDefEqProofs only [xe11, xb11, xm11_0, xm11_1, xm11_2, xm11_3, xm11_4, xm11_5, xm11_6, xk11_0_ret, xk11_1_ret, xk11_2_ret, ↓syP, syA, rtN, pureL, V.pure, nsh, stBk, V.kill, killL, spl, V.shift, shiftL, V.scal, scalL, intR, boolR, threeV, Nat.reduceAdd, Nat.reduceSub, Nat.reduceMul, Nat.reduceLT, Nat.reduceLeDiff, Nat.reduceEqDiff, Nat.reduceBEq, Nat.reduceBNe, Int.reduceBEq, Int.reduceBNe, Int.reduceLT, Int.reduceLE, Int.reduceAdd, Int.reduceSub, Int.reduceNeg, xF, xcallV, xcallC, xcallL, xcallY, xevY, xY_ready, xrange, xG_fn, xR, xA, xcl62, xclk62, xcl71, xclk71, awk04', awk21', awk17', h_poacherlaw04_Few, h_think_May, h_think_Do, h_think_Left]
  all_goals simp -implicitDefEqProofs only [List.map_nil]
end Go.Ab
