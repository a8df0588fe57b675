/- Functions as they are walked: printed by Walk.lean. -/
import Derived.Test.YtecgfaaaloameaaR1GUa
import Derived.Test.YtecgfaaaloameaaR1GUb
set_option maxRecDepth 100000
set_option linter.unusedVariables false
set_option linter.unusedSimpArgs false
namespace Go.Ab
open Go.Proofs
def g_forest_Under (k : Nat) (v0 : (List (Int × List Int))) (v1 : Int) : Option (List Int) :=
  ob (g_forest_May k v0) fun x3 =>
  bif !x3 then
   some []
  else
   bif decide (v1 < (0 : Int)) then
    some []
   else
    bif decide ((↑v0.length : Int) ≤ v1) then
     some []
    else
     ob (downF (k + (16 : Nat)) v0 v1 (0 : Nat) (0 : Nat) []) fun x4 =>
     some (x4.snd.snd.fst)
theorem h_forest_Under (k : Nat) (v0 : (List (Int × List Int))) (v1 : Int) : xC (k + 20) none 58 [(.ro (List.map taskV v0)), (.lit (.int .i64 v1))] = ob (g_forest_Under k v0 v1) fun r => some ((.ro (List.map (intR .i64) r)), []) := by
  rw [xC_eq]
  unfold g_forest_Under
  simp (maxSteps := 2000000) -implicitDefEqProofs only [xe58, xb58, xm58_0, xm58_1, xk58_0_ret, xe80, xb80, xe81, xb81, xC_eq (g := 81), xe99, xb99, xz99, xj99_0, xq99_1_0_1_0_1, xq99_1_0_1_0_0, xk99_0_ret, xq99_0_eq, xe100, xb100, ↓syP, syA, rtN, pureL, V.pure, nsh, stBk, V.kill, killL, spl, V.shift, shiftL, V.scal, scalL, intR, boolR, threeV, Nat.reduceAdd, Nat.reduceSub, Nat.reduceMul, Nat.reduceLT, Nat.reduceLeDiff, Nat.reduceEqDiff, Nat.reduceBEq, Nat.reduceBNe, Int.reduceBEq, Int.reduceBNe, Int.reduceLT, Int.reduceLE, Int.reduceAdd, Int.reduceSub, Int.reduceNeg, xF, xcallV, xcallC, xcallL, xcallY, xevY, xY_ready, xrange, xG_fn, xR, xA, xcl62, xclk62, xcl71, xclk71, downF_init, h_ref_under, h_forest_May]
  all_goals simp -implicitDefEqProofs only [List.map_nil]
def g_poacherref04_Under (k : Nat) (v0 : (List (Int × List Int))) (v1 : Int) : Option (List Int) :=
  ob (g_poacherref04_May k v0) fun x9 =>
  bif !x9 then
   some []
  else
   bif decide (v1 < (0 : Int)) then
    some []
   else
    bif decide ((↑v0.length : Int) ≤ v1) then
     some []
    else
     ob (undF (k + (1 : Nat)) v0 v1) fun x10 =>
     some (x10)
theorem h_poacherref04_Under (k : Nat) (v0 : (List (Int × List Int))) (v1 : Int) : xC (k + 2) none 59 [(.ro (List.map taskV v0)), (.lit (.int .i64 v1))] = ob (g_poacherref04_Under k v0 v1) fun r => some ((.ro (List.map (intR .i64) r)), []) := by
  rw [xC_eq]
  unfold g_poacherref04_Under
  simp (maxSteps := 2000000) -implicitDefEqProofs only [xe59, xb59, xm59_0, xm59_1, xk59_0_ret, ↓syP, syA, rtN, pureL, V.pure, nsh, stBk, V.kill, killL, spl, V.shift, shiftL, V.scal, scalL, intR, boolR, threeV, Nat.reduceAdd, Nat.reduceSub, Nat.reduceMul, Nat.reduceLT, Nat.reduceLeDiff, Nat.reduceEqDiff, Nat.reduceBEq, Nat.reduceBNe, Int.reduceBEq, Int.reduceBNe, Int.reduceLT, Int.reduceLE, Int.reduceAdd, Int.reduceSub, Int.reduceNeg, xF, xcallV, xcallC, xcallL, xcallY, xevY, xY_ready, xrange, xG_fn, xR, xA, xcl62, xclk62, xcl71, xclk71, downF_init, h_ref_under, h_poacherref04_May]
  all_goals simp -implicitDefEqProofs only [List.map_nil]
end Go.Ab
