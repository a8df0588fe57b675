/- Functions as they are walked: printed by Walk.lean. -/
import Derived.Test.YtecgfaaaloameaaR1GT
import Derived.Test.YtecgfaaaloameaaR1Awk
import Derived.Test.YtecgfaaaloameaaR1BL10
set_option maxRecDepth 100000
set_option linter.unusedVariables false
set_option linter.unusedSimpArgs false
namespace Go.Ab
open Go.Proofs
def g_poacherlaw17_ThinkTells (k : Nat) (v0 : (List (Int × List Int))) (v1 : (List (Int × Int × Int))) (v2 : (List (Int × Int × Int))) (v3 : Int) : Option Bool :=
  ob (g_poacherlaw04_Few (k + (59 : Nat)) v0) fun x16 =>
  bif !x16 then
   some (true)
  else
   bif decide ((40 : Int) < (↑v1.length : Int)) then
    some (true)
   else
    bif decide ((40 : Int) < (↑v2.length : Int)) then
     some (true)
    else
     ob (g_think_Do (k + (38 : Nat)) v0 v1) fun x17 =>
     ob (g_poacherref17_Do (k + (56 : Nat)) v0 v1) fun x18 =>
     ob (g_poacherref17_Same (k + (59 : Nat)) x17 x18) fun x19 =>
     ob (g_think_Start (k + (39 : Nat)) v0 v1 v3) fun x20 =>
     ob (g_poacherref17_Start (k + (57 : Nat)) v0 v1 v3) fun x21 =>
     ob (g_poacherref17_Same (k + (59 : Nat)) x20 x21) fun x22 =>
     ob (g_poacherref17_May (k + (58 : Nat)) v0 v1) fun x23 =>
     ob (g_poacherref17_Same (k + (59 : Nat)) v1 v2) fun x24 =>
     bif x19 then
      bif x22 then
       ob (g_think_Next (k + (39 : Nat)) v0 v1) fun x25 =>
       ob (g_poacherref17_Next (k + (57 : Nat)) v0 v1) fun x26 =>
       bif x25.fst == x26.fst && x25.snd == x26.snd then
        ob (g_think_Left (k + (39 : Nat)) v0 v1) fun x27 =>
        ob (g_poacherref17_Left (k + (55 : Nat)) v0 v1) fun x28 =>
        bif x27 == x28 then
         ob (g_think_May (k + (40 : Nat)) v0 v1) fun x29 =>
         bif x29 == x23 then
          ob (g_think_Same (k + (58 : Nat)) v1 v2) fun x30 =>
          some (x30 == x24)
         else
          some (false)
        else
         some (false)
       else
        some (false)
      else
       some (false)
     else
      some (false)
theorem h_poacherlaw17_ThinkTells (k : Nat) (v0 : (List (Int × List Int))) (v1 : (List (Int × Int × Int))) (v2 : (List (Int × Int × Int))) (v3 : Int) : xC (k + 61) none 10 [(.ro (List.map taskV v0)), (.ro (List.map threeV v1)), (.ro (List.map threeV v2)), (.lit (.int .i64 v3))] = ob (g_poacherlaw17_ThinkTells k v0 v1 v2 v3) fun r => some ((.lit (.bool r)), []) := by
  rw [xC_eq]
  unfold g_poacherlaw17_ThinkTells
  simp (maxSteps := 2000000) -implicitDefEqProofs only [xe10, xb10, xm10_0, xm10_1, xm10_2, xm10_3, xm10_4, xm10_5, xm10_6, xm10_7, xk10_0_ret, xk10_1_ret, ↓syP, syA, rtN, pureL, V.pure, nsh, stBk, V.kill, killL, spl, V.shift, shiftL, V.scal, scalL, intR, boolR, threeV, Nat.reduceAdd, Nat.reduceSub, Nat.reduceMul, Nat.reduceLT, Nat.reduceLeDiff, Nat.reduceEqDiff, Nat.reduceBEq, Nat.reduceBNe, Int.reduceBEq, Int.reduceBNe, Int.reduceLT, Int.reduceLE, Int.reduceAdd, Int.reduceSub, Int.reduceNeg, xF, xcallV, xcallC, xcallL, xcallY, xevY, xY_ready, xrange, xG_fn, xR, xA, xcl62, xclk62, xcl71, xclk71, awk04', awk21', awk17', h_poacherlaw04_Few, h_think_May, h_think_Next, h_think_Do, h_think_Start, h_think_Left, h_think_Same, h_poacherref17_Same, h_poacherref17_May, h_poacherref17_Next, h_poacherref17_Do, h_poacherref17_Start, h_poacherref17_Left]
  all_goals simp -implicitDefEqProofs only [List.map_nil]
end Go.Ab
