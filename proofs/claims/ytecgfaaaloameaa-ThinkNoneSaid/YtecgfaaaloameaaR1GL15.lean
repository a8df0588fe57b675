/- Functions as they are walked: printed by Walk.lean. -/
import Derived.Test.YtecgfaaaloameaaR1GT
import Derived.Test.YtecgfaaaloameaaR1Awk
import Derived.Test.YtecgfaaaloameaaR1BL15
set_option maxRecDepth 100000
set_option linter.unusedVariables false
set_option linter.unusedSimpArgs false
namespace Go.Ab
open Go.Proofs
def g_poacherlaw17_ThinkNone (k : Nat) (v0 : (List (Int × List Int))) (v1 : (List (Int × Int × Int))) (v2 : Int) : Option Bool :=
  ob (g_poacherlaw04_Few (k + (59 : Nat)) v0) fun x10 =>
  bif !x10 then
   some (true)
  else
   bif decide ((40 : Int) < (↑v1.length : Int)) then
    some (true)
   else
    ob (g_think_Next (k + (39 : Nat)) v0 v1) fun x11 =>
    bif x11.fst == (0 : Int) && x11.snd == (0 : Int) then
     ob (g_think_Do (k + (38 : Nat)) v0 v1) fun x12 =>
     ob (g_think_Same (k + (58 : Nat)) x12 v1) fun x13 =>
     ob (g_think_May (k + (40 : Nat)) v0 v1) fun x14 =>
     bif x14 then
      some (x13 == ((↑v1.length : Int) == (0 : Int)))
     else
      bif x13 then
       ob (g_think_Left (k + (39 : Nat)) v0 v1) fun x15 =>
       bif x15 == (0 : Int) then
        ob (g_think_Start (k + (39 : Nat)) v0 v1 v2) fun x16 =>
        ob (g_think_Same (k + (58 : Nat)) x16 v1) fun x17 =>
        some (x17)
       else
        some (false)
      else
       some (false)
    else
     ob (g_think_May (k + (40 : Nat)) v0 v1) fun x18 =>
     bif x18 then
      some (false == ((↑v1.length : Int) == (0 : Int)))
     else
      some (false)
theorem h_poacherlaw17_ThinkNone (k : Nat) (v0 : (List (Int × List Int))) (v1 : (List (Int × Int × Int))) (v2 : Int) : xC (k + 61) none 15 [(.ro (List.map taskV v0)), (.ro (List.map threeV v1)), (.lit (.int .i64 v2))] = ob (g_poacherlaw17_ThinkNone k v0 v1 v2) fun r => some ((.lit (.bool r)), []) := by
  rw [xC_eq]
  unfold g_poacherlaw17_ThinkNone
  simp (maxSteps := 2000000) -implicitDefEqProofs only [xe15, xb15, xm15_0, xm15_1, xm15_2, xm15_3, xm15_4, xk15_0_ret, xk15_1_ret, xk15_2_ret, ↓syP, syA, rtN, pureL, V.pure, nsh, stBk, V.kill, killL, spl, V.shift, shiftL, V.scal, scalL, intR, boolR, threeV, Nat.reduceAdd, Nat.reduceSub, Nat.reduceMul, Nat.reduceLT, Nat.reduceLeDiff, Nat.reduceEqDiff, Nat.reduceBEq, Nat.reduceBNe, Int.reduceBEq, Int.reduceBNe, Int.reduceLT, Int.reduceLE, Int.reduceAdd, Int.reduceSub, Int.reduceNeg, xF, xcallV, xcallC, xcallL, xcallY, xevY, xY_ready, xrange, xG_fn, xR, xA, xcl62, xclk62, xcl71, xclk71, awk04', awk21', awk17', h_poacherlaw04_Few, h_think_May, h_think_Next, h_think_Do, h_think_Start, h_think_Left, h_think_Same]
  all_goals simp -implicitDefEqProofs only [List.map_nil]
end Go.Ab
