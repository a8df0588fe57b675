/- Functions as they are walked: printed by Walk.lean. -/
import Derived.Test.YtecgfaaaloameaaR1GT
import Derived.Test.YtecgfaaaloameaaR1Awk
import Derived.Test.YtecgfaaaloameaaR1BL13
set_option maxRecDepth 100000
set_option linter.unusedVariables false
set_option linter.unusedSimpArgs false
namespace Go.Ab
open Go.Proofs
def g_poacherlaw17_ThinkStart (k : Nat) (v0 : (List (Int × List Int))) (v1 : (List (Int × Int × Int))) (v2 : Int) (v3 : Int) : Option Bool :=
  ob (g_poacherlaw04_Few (k + (59 : Nat)) v0) fun x22 =>
  bif !x22 then
   some (true)
  else
   bif decide ((40 : Int) < (↑v1.length : Int)) then
    some (true)
   else
    ob (g_think_May (k + (40 : Nat)) v0 v1) fun x23 =>
    bif !x23 then
     some (true)
    else
     ob (g_think_Start (k + (39 : Nat)) v0 v1 v2) fun x24 =>
     bif decide (v2 < (0 : Int)) then
      ob (g_think_Same (k + (58 : Nat)) x24 v1) fun x25 =>
      some (x25)
     else
      bif decide ((↑v0.length : Int) ≤ v2) then
       ob (g_think_Same (k + (58 : Nat)) x24 v1) fun x26 =>
       some (x26)
      else
       bif (↑x24.length : Int) != IntKind.i64.wrap ((↑v1.length : Int) + (1 : Int)) then
        some (false)
       else
        ob (g_think_May (k + (40 : Nat)) v0 x24) fun x27 =>
        bif !x27 then
         some (false)
        else
         ob (idx x24 (↑v1.length : Int)) fun x28 =>
         bif !(x28.fst == v2 && (x28.snd.fst == (0 : Int) && x28.snd.snd == (0 : Int))) then
          some (false)
         else
          bif decide (v3 < (0 : Int)) then
           ob (g_think_Left (k + (39 : Nat)) v0 x24) fun x29 =>
           ob (g_think_Left (k + (39 : Nat)) v0 v1) fun x30 =>
           ob (idx v0 v2) fun x31 =>
           ob (idx v0 v2) fun x32 =>
           some (x29 == IntKind.i64.wrap (IntKind.i64.wrap (IntKind.i64.wrap (x30 + x31.fst) + (↑x32.snd.length : Int)) + (1 : Int)))
          else
           bif decide ((↑v1.length : Int) ≤ v3) then
            ob (g_think_Left (k + (39 : Nat)) v0 x24) fun x33 =>
            ob (g_think_Left (k + (39 : Nat)) v0 v1) fun x34 =>
            ob (idx v0 v2) fun x35 =>
            ob (idx v0 v2) fun x36 =>
            some (x33 == IntKind.i64.wrap (IntKind.i64.wrap (IntKind.i64.wrap (x34 + x35.fst) + (↑x36.snd.length : Int)) + (1 : Int)))
           else
            ob (idx x24 v3) fun x37 =>
            ob (idx v1 v3) fun x38 =>
            bif x37.fst == x38.fst && (x37.snd.fst == x38.snd.fst && x37.snd.snd == x38.snd.snd) then
             ob (g_think_Left (k + (39 : Nat)) v0 x24) fun x39 =>
             ob (g_think_Left (k + (39 : Nat)) v0 v1) fun x40 =>
             ob (idx v0 v2) fun x41 =>
             ob (idx v0 v2) fun x42 =>
             some (x39 == IntKind.i64.wrap (IntKind.i64.wrap (IntKind.i64.wrap (x40 + x41.fst) + (↑x42.snd.length : Int)) + (1 : Int)))
            else
             some (false)
theorem h_poacherlaw17_ThinkStart (k : Nat) (v0 : (List (Int × List Int))) (v1 : (List (Int × Int × Int))) (v2 : Int) (v3 : Int) : xC (k + 61) none 13 [(.ro (List.map taskV v0)), (.ro (List.map threeV v1)), (.lit (.int .i64 v2)), (.lit (.int .i64 v3))] = ob (g_poacherlaw17_ThinkStart k v0 v1 v2 v3) fun r => some ((.lit (.bool r)), []) := by
  rw [xC_eq]
  unfold g_poacherlaw17_ThinkStart
  simp (maxSteps := 2000000) -implicitDefEqProofs only [xe13, xb13, xm13_0, xm13_1, xm13_2, xm13_3, xm13_4, xm13_5, xm13_6, xm13_7, xm13_8, xk13_0_ret, xk13_1_ret, xk13_2_ret, xk13_3_ret, ↓syP, syA, rtN, pureL, V.pure, nsh, stBk, V.kill, killL, spl, V.shift, shiftL, V.scal, scalL, intR, boolR, threeV, Nat.reduceAdd, Nat.reduceSub, Nat.reduceMul, Nat.reduceLT, Nat.reduceLeDiff, Nat.reduceEqDiff, Nat.reduceBEq, Nat.reduceBNe, Int.reduceBEq, Int.reduceBNe, Int.reduceLT, Int.reduceLE, Int.reduceAdd, Int.reduceSub, Int.reduceNeg, xF, xcallV, xcallC, xcallL, xcallY, xevY, xY_ready, xrange, xG_fn, xR, xA, xcl62, xclk62, xcl71, xclk71, awk04', awk21', awk17', h_poacherlaw04_Few, h_think_May, h_think_Start, h_think_Left, h_think_Same]
  all_goals simp -implicitDefEqProofs only [List.map_nil]
end Go.Ab
