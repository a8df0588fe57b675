/- Functions as they are walked: printed by Walk.lean. -/
import Derived.Test.YtecgfaaaloameaaR1GF
import Derived.Test.YtecgfaaaloameaaR1Awk
import Derived.Test.YtecgfaaaloameaaR1BL21
set_option maxRecDepth 100000
set_option linter.unusedVariables false
set_option linter.unusedSimpArgs false
namespace Go.Ab
open Go.Proofs
def g_poacherlaw04_ForestMore (k : Nat) (v0 : (List (Int × List Int))) (v1 : Int) (v2 : Int) : Option Bool :=
  ob (g_poacherlaw04_Few (k + (59 : Nat)) v0) fun x18 =>
  bif !x18 then
   some (true)
  else
   ob (g_forest_May (k + (41 : Nat)) v0) fun x19 =>
   bif !x19 then
    some (true)
   else
    bif decide (v0.length * (32 : Nat) ≤ (70368744177664 : Nat)) then
     bif room (v0 ++ [(v1, [])]).length (32 : Nat) then
      bif decide ((↑v0.length : Int) < (30 : Int)) then
       bif decide ((0 : Int) ≤ v1) then
        ob (g_forest_May (k + (41 : Nat)) (v0 ++ [(v1, [])])) fun x20 =>
        bif !x20 == decide (v1 ≤ (20 : Int)) then
         some (false)
        else
         bif !decide (v1 ≤ (20 : Int)) then
          bif !decide (v1 ≤ (20 : Int)) then
           some (true)
          else
           ob (g_forest_Roots (k + (39 : Nat)) (v0 ++ [(v1, [])])) fun x21 =>
           ob (g_forest_Roots (k + (39 : Nat)) v0) fun x22 =>
           some ((↑x21.length : Int) == IntKind.i64.wrap ((↑x22.length : Int) + (1 : Int)))
         else
          bif decide (v2 < (0 : Int)) then
           bif !decide (v1 ≤ (20 : Int)) then
            some (true)
           else
            ob (g_forest_Roots (k + (39 : Nat)) (v0 ++ [(v1, [])])) fun x23 =>
            ob (g_forest_Roots (k + (39 : Nat)) v0) fun x24 =>
            some ((↑x23.length : Int) == IntKind.i64.wrap ((↑x24.length : Int) + (1 : Int)))
          else
           bif decide ((↑v0.length : Int) ≤ v2) then
            bif !decide (v1 ≤ (20 : Int)) then
             some (true)
            else
             ob (g_forest_Roots (k + (39 : Nat)) (v0 ++ [(v1, [])])) fun x25 =>
             ob (g_forest_Roots (k + (39 : Nat)) v0) fun x26 =>
             some ((↑x25.length : Int) == IntKind.i64.wrap ((↑x26.length : Int) + (1 : Int)))
           else
            bif decide ((v0 ++ [(v1, [])]).length * (32 : Nat) ≤ (70368744177664 : Nat)) then
             ob (idx v0 v2) fun x27 =>
             bif decide (x27.snd.length * (8 : Nat) ≤ (70368744177664 : Nat)) then
              bif room (x27.snd ++ [(↑v0.length : Int)]).length (8 : Nat) then
               bif decide ((0 : Int) ≤ v2 ∧ v2.toNat < (v0 ++ [(v1, [])]).length) then
                ob ((v0 ++ [(v1, [])])[v2.toNat]?) fun x28 =>
                ob (g_forest_May (k + (41 : Nat)) ((v0 ++ [(v1, [])]).set v2.toNat (x28.fst, x27.snd ++ [(↑v0.length : Int)]))) fun x29 =>
                bif x29 then
                 ob (g_forest_Roots (k + (39 : Nat)) ((v0 ++ [(v1, [])]).set v2.toNat (x28.fst, x27.snd ++ [(↑v0.length : Int)]))) fun x30 =>
                 ob (g_forest_Roots (k + (39 : Nat)) v0) fun x31 =>
                 bif (↑x30.length : Int) == (↑x31.length : Int) then
                  ob (g_forest_Parent (k + (40 : Nat)) ((v0 ++ [(v1, [])]).set v2.toNat (x28.fst, x27.snd ++ [(↑v0.length : Int)])) (↑v0.length : Int)) fun x32 =>
                  some (x32 == v2)
                 else
                  some (false)
                else
                 some (false)
               else
                none
              else
               none
             else
              none
            else
             none
       else
        ob (g_forest_May (k + (41 : Nat)) (v0 ++ [(v1, [])])) fun x33 =>
        bif !x33 == false then
         some (false)
        else
         some (true)
      else
       ob (g_forest_May (k + (41 : Nat)) (v0 ++ [(v1, [])])) fun x34 =>
       bif !x34 == false then
        some (false)
       else
        some (true)
     else
      none
    else
     none
theorem h_poacherlaw04_ForestMore (k : Nat) (v0 : (List (Int × List Int))) (v1 : Int) (v2 : Int) : xC (k + 61) none 21 [(.ro (List.map taskV v0)), (.lit (.int .i64 v1)), (.lit (.int .i64 v2))] = ob (g_poacherlaw04_ForestMore k v0 v1 v2) fun r => some ((.lit (.bool r)), []) := by
  rw [xC_eq]
  unfold g_poacherlaw04_ForestMore
  simp (maxSteps := 2000000) -implicitDefEqProofs only [xe21, xb21, xm21_0, xm21_1, xm21_2, xm21_3, xm21_4, xm21_5, xm21_6, xm21_7, xm21_8, xk21_0_ret, xk21_1_ret, xk21_2_ret, xk21_3_ret, xk21_4_ret, ↓syP, syA, rtN, pureL, V.pure, nsh, stBk, V.kill, killL, spl, V.shift, shiftL, V.scal, scalL, intR, boolR, threeV, Nat.reduceAdd, Nat.reduceSub, Nat.reduceMul, Nat.reduceLT, Nat.reduceLeDiff, Nat.reduceEqDiff, Nat.reduceBEq, Nat.reduceBNe, Int.reduceBEq, Int.reduceBNe, Int.reduceLT, Int.reduceLE, Int.reduceAdd, Int.reduceSub, Int.reduceNeg, xF, xcallV, xcallC, xcallL, xcallY, xevY, xY_ready, xrange, xG_fn, xR, xA, xcl62, xclk62, xcl71, xclk71, awk04', awk21', awk17', h_poacherlaw04_Few, h_forest_May, h_forest_Parent, h_forest_Roots]
  all_goals simp -implicitDefEqProofs only [List.map_nil]
end Go.Ab
