/- Functions as they are walked: printed by Walk.lean. -/
import Derived.Test.YtecgfaaaloameaaR1GT
import Derived.Test.YtecgfaaaloameaaR1Awk
import Derived.Test.YtecgfaaaloameaaR1BL14
set_option maxRecDepth 100000
set_option linter.unusedVariables false
set_option linter.unusedSimpArgs false
namespace Go.Ab
open Go.Proofs
def g_poacherlaw17_ThinkLast (k : Nat) (v0 : (List (Int × List Int))) (v1 : (List (Int × Int × Int))) : Option Bool :=
  ob (g_poacherlaw04_Few (k + (59 : Nat)) v0) fun x9 =>
  bif !x9 then
   some (true)
  else
   bif decide ((40 : Int) < (↑v1.length : Int)) then
    some (true)
   else
    bif (↑v1.length : Int) == (0 : Int) then
     some (true)
    else
     ob (g_think_May (k + (40 : Nat)) v0 v1) fun x10 =>
     bif !x10 then
      some (true)
     else
      bif decide ((0 : Int) ≤ IntKind.i64.wrap ((↑v1.length : Int) - (1 : Int)) ∧ IntKind.i64.wrap ((↑v1.length : Int) - (1 : Int)) ≤ (↑v1.length : Int)) then
       ob (g_think_Do (k + (38 : Nat)) v0 v1) fun x11 =>
       ob (g_think_Do (k + (38 : Nat)) v0 (List.drop (IntKind.i64.wrap ((↑v1.length : Int) - (1 : Int))).toNat v1)) fun x12 =>
       bif decide ((↑x11.length : Int) < IntKind.i64.wrap ((↑v1.length : Int) - (1 : Int))) then
        some (false)
       else
        ob (g_think_Next (k + (39 : Nat)) v0 v1) fun x13 =>
        ob (g_think_Next (k + (39 : Nat)) v0 (List.drop (IntKind.i64.wrap ((↑v1.length : Int) - (1 : Int))).toNat v1)) fun x14 =>
        bif x13.fst == x14.fst && x13.snd == x14.snd then
         bif decide ((0 : Int) ≤ IntKind.i64.wrap ((↑v1.length : Int) - (1 : Int)) ∧ IntKind.i64.wrap ((↑v1.length : Int) - (1 : Int)) ≤ (↑x11.length : Int)) then
          bif decide ((0 : Int) ≤ IntKind.i64.wrap ((↑v1.length : Int) - (1 : Int)) ∧ IntKind.i64.wrap ((↑v1.length : Int) - (1 : Int)) ≤ (↑v1.length : Int)) then
           ob (g_think_Same (k + (58 : Nat)) (List.take (IntKind.i64.wrap ((↑v1.length : Int) - (1 : Int))).toNat x11) (List.take (IntKind.i64.wrap ((↑v1.length : Int) - (1 : Int))).toNat v1)) fun x15 =>
           bif x15 then
            bif decide ((0 : Int) ≤ IntKind.i64.wrap ((↑v1.length : Int) - (1 : Int)) ∧ IntKind.i64.wrap ((↑v1.length : Int) - (1 : Int)) ≤ (↑x11.length : Int)) then
             ob (g_think_Same (k + (58 : Nat)) (List.drop (IntKind.i64.wrap ((↑v1.length : Int) - (1 : Int))).toNat x11) x12) fun x16 =>
             some (x16)
            else
             none
           else
            some (false)
          else
           none
         else
          none
        else
         some (false)
      else
       none
theorem h_poacherlaw17_ThinkLast (k : Nat) (v0 : (List (Int × List Int))) (v1 : (List (Int × Int × Int))) : xC (k + 61) none 14 [(.ro (List.map taskV v0)), (.ro (List.map threeV v1))] = ob (g_poacherlaw17_ThinkLast k v0 v1) fun r => some ((.lit (.bool r)), []) := by
  rw [xC_eq]
  unfold g_poacherlaw17_ThinkLast
  simp (maxSteps := 2000000) -implicitDefEqProofs only [xe14, xb14, xm14_0, xm14_1, xm14_2, xm14_3, xm14_4, xm14_5, xk14_0_ret, xk14_1_ret, ↓syP, syA, rtN, pureL, V.pure, nsh, stBk, V.kill, killL, spl, V.shift, shiftL, V.scal, scalL, intR, boolR, threeV, Nat.reduceAdd, Nat.reduceSub, Nat.reduceMul, Nat.reduceLT, Nat.reduceLeDiff, Nat.reduceEqDiff, Nat.reduceBEq, Nat.reduceBNe, Int.reduceBEq, Int.reduceBNe, Int.reduceLT, Int.reduceLE, Int.reduceAdd, Int.reduceSub, Int.reduceNeg, xF, xcallV, xcallC, xcallL, xcallY, xevY, xY_ready, xrange, xG_fn, xR, xA, xcl62, xclk62, xcl71, xclk71, awk04', awk21', awk17', h_poacherlaw04_Few, h_think_May, h_think_Next, h_think_Do, h_think_Same]
  all_goals simp -implicitDefEqProofs only [List.map_nil]
end Go.Ab
