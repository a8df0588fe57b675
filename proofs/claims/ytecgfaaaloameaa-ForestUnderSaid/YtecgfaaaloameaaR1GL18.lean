/- Functions as they are walked: printed by Walk.lean. -/
import Derived.Test.YtecgfaaaloameaaR1GU
import Derived.Test.YtecgfaaaloameaaR1Awk
import Derived.Test.YtecgfaaaloameaaR1BL18
set_option maxRecDepth 100000
set_option linter.unusedVariables false
set_option linter.unusedSimpArgs false
namespace Go.Ab
open Go.Proofs
def g_poacherlaw04_ForestUnder_L1 (k : Nat) (v0 : (List (Int × List Int))) (v1 : Int) (v2 : Int)  : Nat → List Int → Int → Bool → Int → Option Bool
  | 0, _, _, _, _ => none
  | n + 1, s27, s29, s53, s54 =>
    bif decide (s54 < v2) then
     bif s53 then
      g_poacherlaw04_ForestUnder_L1 k v0 v1 v2  n (s27) (s29) (true) (IntKind.i64.wrap (s54 + (1 : Int)))
     else
      ob (idx s27 s54) fun x73 =>
      g_poacherlaw04_ForestUnder_L1 k v0 v1 v2  n (s27) (s29) (x73 == s29) (IntKind.i64.wrap (s54 + (1 : Int)))
    else
     some (s53)
theorem g_poacherlaw04_ForestUnder_L1_eq (k : Nat) (v0 : (List (Int × List Int))) (v1 : Int) (v2 : Int) : ∀ (n : Nat) (s27 : List Int) (s29 : Int) (s53 : Bool) (s54 : Int) ⦃s26 : Bool⦄ ⦃s28 : Bool⦄ ⦃s30 : Bool⦄ ⦃s31 : Bool⦄ ⦃s32 : Bool⦄ ⦃s33 : Bool⦄ ⦃s34 : Int⦄ ⦃s35 : Bool⦄ ⦃s36 : Int⦄ ⦃s48 : Nat⦄ ⦃s49 : Nat⦄ ⦃s50 : Int⦄ ⦃s51 : Nat⦄ ⦃s52 : List Int⦄, rt none (itX (xX (xS (k + (60 : Nat))) (18 : Nat) (0 : Nat) (k + (60 : Nat)) false) xl18_1 ((2 : Nat)) (runK (xX (xS (k + (60 : Nat))) (18 : Nat) (0 : Nat) (k + (60 : Nat)) false) (bodyK (xS (k + (60 : Nat))).P Try.f18) xk18_3) n ⟨(V.ro (List.map taskV v0) :: V.lit (Value.int IntKind.i64 v1) :: V.lit (Value.int IntKind.i64 v2) :: uu :: uu :: uu :: V.lit (Value.bool false) :: V.lit (Value.bool true) :: V.lit (Value.bool s26) :: V.ro (List.map (intR IntKind.i64) s27) :: V.own (0 : Nat) s48 s49 :: V.lit (Value.int IntKind.i64 s50) :: V.lit (Value.bool s28) :: V.lit (Value.int IntKind.i64 s29) :: V.lit (Value.bool s53) :: V.lit (Value.int IntKind.i64 s54) :: V.lit (Value.bool true) :: V.ro (List.map taskV v0) :: V.lit (Value.bool s26) :: V.lit (Value.bool true) :: V.lit (Value.bool false) :: V.lit (Value.bool false) :: V.lit (Value.bool s26) :: V.lit (Value.bool s30) :: V.lit (Value.bool s30) :: V.lit (Value.bool false) :: V.ro (List.map taskV v0) :: V.lit (Value.bool s31) :: V.lit (Value.bool s32) :: V.lit (Value.bool s32) :: V.lit (Value.bool false) :: V.lit (Value.int IntKind.i64 v1) :: V.lit (Value.bool (decide (v1 < (0 : Int)))) :: V.lit (Value.bool (decide (v1 < (0 : Int)))) :: V.lit (Value.bool false) :: V.lit (Value.int IntKind.i64 v1) :: V.ro (List.map taskV v0) :: V.lit (Value.int IntKind.i64 (↑v0.length : Int)) :: V.lit (Value.bool (decide ((↑v0.length : Int) ≤ v1))) :: V.lit (Value.bool (decide ((↑v0.length : Int) ≤ v1))) :: uu :: V.ro (List.map taskV v0) :: V.lit (Value.int IntKind.i64 v1) :: V.ro (List.map (intR IntKind.i64) s27) :: V.own (0 : Nat) (0 : Nat) (0 : Nat) :: V.lit (Value.int IntKind.i64 v1) :: V.own (1 : Nat) (0 : Nat) (1 : Nat) :: V.own (0 : Nat) (1 : Nat) s51 :: V.junk :: V.junk :: V.junk :: V.junk :: V.junk :: V.junk :: V.junk :: V.junk :: V.junk :: V.junk :: V.junk :: V.junk :: V.junk :: V.junk :: V.junk :: V.junk :: V.junk :: V.junk :: V.junk :: V.junk :: V.junk :: V.junk :: V.ro (List.map (intR IntKind.i64) s27) :: V.own (0 : Nat) s48 s49 :: V.lit (Value.bool s28) :: V.lit (Value.bool s28) :: V.lit (Value.bool s33) :: V.lit (Value.bool false) :: V.lit (Value.int IntKind.i64 v2) :: V.lit (Value.bool (decide (v2 < (1 : Int)))) :: V.lit (Value.bool (decide (v2 < (1 : Int)))) :: V.lit (Value.bool false) :: V.lit (Value.int IntKind.i64 v2) :: V.ro (List.map (intR IntKind.i64) s27) :: V.lit (Value.int IntKind.i64 s34) :: V.lit (Value.bool s35) :: V.lit (Value.bool s35) :: uu :: V.ro (List.map taskV v0) :: V.ro (List.map (intR IntKind.i64) s27) :: V.lit (Value.int IntKind.i64 v2) :: V.rp [V.lit (Value.int IntKind.i64 s36)] :: V.lit (Value.int IntKind.i64 s36) :: V.lit (Value.int IntKind.i64 s29) :: V.junk :: V.junk :: V.junk :: V.junk :: V.junk :: V.junk :: V.junk :: V.junk :: V.junk :: V.junk :: V.junk :: V.junk :: V.junk :: V.junk :: uu :: []), [B.rows (1 : Nat) (List.map (intR IntKind.i64) s52) s48 true, B.rows (1 : Nat) (List.map (intR IntKind.i64) [v1]) (0 : Nat) true]⟩) = ob (g_poacherlaw04_ForestUnder_L1 k v0 v1 v2  n s27 s29 s53 s54) fun r => some ((.lit (.bool r)), []) := by
  intro n
  induction n with
  | zero => intros; rfl
  | succ n ih =>
    intro s27 s29 s53 s54 s26 s28 s30 s31 s32 s33 s34 s35 s36 s48 s49 s50 s51 s52
    rw [g_poacherlaw04_ForestUnder_L1]
    simp (maxSteps := 2000000) -implicitDefEqProofs only [xe18, xb18, xz18, xm18_0, xm18_1, xm18_2, xm18_3, xj18_4, xm18_5, xm18_6, xj18_7, xm18_8, xk18_0_ret, xk18_1_ret, xk18_2_ret, xk18_3_ret, xk18_4_ret, ↓syP, syA, rtN, pureL, V.pure, nsh, stBk, V.kill, killL, spl, V.shift, shiftL, V.scal, scalL, intR, boolR, threeV, Nat.reduceAdd, Nat.reduceSub, Nat.reduceMul, Nat.reduceLT, Nat.reduceLeDiff, Nat.reduceEqDiff, Nat.reduceBEq, Nat.reduceBNe, Int.reduceBEq, Int.reduceBNe, Int.reduceLT, Int.reduceLE, Int.reduceAdd, Int.reduceSub, Int.reduceNeg, xF, xcallV, xcallC, xcallL, xcallY, xevY, xY_ready, xrange, xG_fn, xR, xA, xcl62, xclk62, xcl71, xclk71, awk04', awk21', awk17', downF_init, h_ref_under, h_poacherlaw04_Few, h_poacherref04_Ints, h_forest_May, h_forest_Parent, h_forest_Under, xr18_1, ih]
    all_goals simp -implicitDefEqProofs only [List.map_nil]
def g_poacherlaw04_ForestUnder_L0 (k : Nat) (v0 : (List (Int × List Int))) (v1 : Int) (v2 : Int)  : Nat → List Int → Nat → Int → List Int → Option Bool
  | 0, _, _, _, _ => none
  | n + 1, s6, s21, s22, s24 =>
    ob (idx v0 v1) fun x66 =>
    bif decide (s22 < (↑x66.snd.length : Int)) then
     ob (idx v0 v1) fun x67 =>
     ob (idx x67.snd s22) fun x68 =>
     ob (g_forest_Under (k + (40 : Nat)) v0 x68) fun x69 =>
     ck (decide (s21 ≤ s24.length)) (
     bif room (List.take s21 s24 ++ x69).length (8 : Nat) then
      g_poacherlaw04_ForestUnder_L0 k v0 v1 v2  n (s6) ((List.take s21 s24 ++ x69).length) (IntKind.i64.wrap (s22 + (1 : Int))) (List.take s21 s24 ++ x69)
     else
      none)
    else
     ck (decide (s21 ≤ s24.length)) (
     ob (g_poacherref04_Ints (k + (59 : Nat)) s6 (List.take s21 s24)) fun x70 =>
     bif !x70 then
      some (x70)
     else
      bif decide (v2 < (1 : Int)) then
       some (x70)
      else
       bif decide ((↑s6.length : Int) ≤ v2) then
        some (x70)
       else
        ob (idx s6 v2) fun x71 =>
        ob (g_forest_Parent (k + (40 : Nat)) v0 x71) fun x72 =>
        g_poacherlaw04_ForestUnder_L1 k v0 v1 v2 (k + (60 : Nat)) (s6) (x72) (false) ((0 : Int)))
theorem g_poacherlaw04_ForestUnder_L0_eq (k : Nat) (v0 : (List (Int × List Int))) (v1 : Int) (v2 : Int) : ∀ (n : Nat) (s6 : List Int) (s21 : Nat) (s22 : Int) (s24 : List Int) ⦃s5 : Bool⦄ ⦃s7 : Bool⦄ ⦃s8 : Bool⦄ ⦃s9 : Bool⦄ ⦃s20 : Nat⦄ ⦃s23 : Nat⦄, rt none (itX (xX (xS (k + (60 : Nat))) (18 : Nat) (0 : Nat) (k + (60 : Nat)) false) xl18_0 ((2 : Nat)) (runK (xX (xS (k + (60 : Nat))) (18 : Nat) (0 : Nat) (k + (60 : Nat)) false) (bodyK (xS (k + (60 : Nat))).P Try.f18) xk18_1) n ⟨(V.ro (List.map taskV v0) :: V.lit (Value.int IntKind.i64 v1) :: V.lit (Value.int IntKind.i64 v2) :: uu :: uu :: uu :: V.lit (Value.bool false) :: V.lit (Value.bool true) :: V.lit (Value.bool s5) :: V.ro (List.map (intR IntKind.i64) s6) :: V.own (0 : Nat) s20 s21 :: V.lit (Value.int IntKind.i64 s22) :: uu :: uu :: uu :: uu :: V.lit (Value.bool true) :: V.ro (List.map taskV v0) :: V.lit (Value.bool s5) :: V.lit (Value.bool true) :: V.lit (Value.bool false) :: V.lit (Value.bool false) :: V.lit (Value.bool s5) :: V.lit (Value.bool s7) :: V.lit (Value.bool s7) :: V.lit (Value.bool false) :: V.ro (List.map taskV v0) :: V.lit (Value.bool s8) :: V.lit (Value.bool s9) :: V.lit (Value.bool s9) :: V.lit (Value.bool false) :: V.lit (Value.int IntKind.i64 v1) :: V.lit (Value.bool (decide (v1 < (0 : Int)))) :: V.lit (Value.bool (decide (v1 < (0 : Int)))) :: V.lit (Value.bool false) :: V.lit (Value.int IntKind.i64 v1) :: V.ro (List.map taskV v0) :: V.lit (Value.int IntKind.i64 (↑v0.length : Int)) :: V.lit (Value.bool (decide ((↑v0.length : Int) ≤ v1))) :: V.lit (Value.bool (decide ((↑v0.length : Int) ≤ v1))) :: uu :: V.ro (List.map taskV v0) :: V.lit (Value.int IntKind.i64 v1) :: V.ro (List.map (intR IntKind.i64) s6) :: V.own (0 : Nat) (0 : Nat) (0 : Nat) :: V.lit (Value.int IntKind.i64 v1) :: V.own (1 : Nat) (0 : Nat) (1 : Nat) :: V.own (0 : Nat) (1 : Nat) s23 :: V.junk :: V.junk :: V.junk :: V.junk :: V.junk :: V.junk :: V.junk :: V.junk :: V.junk :: V.junk :: V.junk :: V.junk :: V.junk :: V.junk :: V.junk :: V.junk :: V.junk :: V.junk :: V.junk :: V.junk :: V.junk :: V.junk :: uu :: uu :: uu :: uu :: uu :: uu :: uu :: uu :: uu :: uu :: uu :: uu :: uu :: uu :: uu :: uu :: uu :: uu :: uu :: uu :: uu :: uu :: uu :: uu :: uu :: uu :: uu :: uu :: uu :: uu :: uu :: uu :: uu :: uu :: uu :: uu :: uu :: []), [B.rows (1 : Nat) (List.map (intR IntKind.i64) s24) s20 true, B.rows (1 : Nat) (List.map (intR IntKind.i64) [v1]) (0 : Nat) true]⟩) = ob (g_poacherlaw04_ForestUnder_L0 k v0 v1 v2  n s6 s21 s22 s24) fun r => some ((.lit (.bool r)), []) := by
  intro n
  induction n with
  | zero => intros; rfl
  | succ n ih =>
    intro s6 s21 s22 s24 s5 s7 s8 s9 s20 s23
    rw [g_poacherlaw04_ForestUnder_L0]
    simp (maxSteps := 2000000) -implicitDefEqProofs only [xe18, xb18, xz18, xm18_0, xm18_1, xm18_2, xm18_3, xj18_4, xm18_5, xm18_6, xj18_7, xm18_8, xk18_0_ret, xk18_1_ret, xk18_2_ret, xk18_3_ret, xk18_4_ret, ↓syP, syA, rtN, pureL, V.pure, nsh, stBk, V.kill, killL, spl, V.shift, shiftL, V.scal, scalL, intR, boolR, threeV, Nat.reduceAdd, Nat.reduceSub, Nat.reduceMul, Nat.reduceLT, Nat.reduceLeDiff, Nat.reduceEqDiff, Nat.reduceBEq, Nat.reduceBNe, Int.reduceBEq, Int.reduceBNe, Int.reduceLT, Int.reduceLE, Int.reduceAdd, Int.reduceSub, Int.reduceNeg, xF, xcallV, xcallC, xcallL, xcallY, xevY, xY_ready, xrange, xG_fn, xR, xA, xcl62, xclk62, xcl71, xclk71, awk04', awk21', awk17', downF_init, h_ref_under, h_poacherlaw04_Few, h_poacherref04_Ints, h_forest_May, h_forest_Parent, h_forest_Under, xr18_0, ih, g_poacherlaw04_ForestUnder_L1_eq k v0 v1 v2]
    all_goals simp -implicitDefEqProofs only [List.map_nil]
def g_poacherlaw04_ForestUnder (k : Nat) (v0 : (List (Int × List Int))) (v1 : Int) (v2 : Int) : Option Bool :=
  ob (g_poacherlaw04_Few (k + (59 : Nat)) v0) fun x74 =>
  bif !x74 then
   some (true)
  else
   ob (g_forest_May (k + (41 : Nat)) v0) fun x75 =>
   bif !x75 then
    some (true)
   else
    bif decide (v1 < (0 : Int)) then
     some (true)
    else
     bif decide ((↑v0.length : Int) ≤ v1) then
      some (true)
     else
      ob (g_forest_Under (k + (40 : Nat)) v0 v1) fun x76 =>
      bif room (1 : Nat) (8 : Nat) then
       g_poacherlaw04_ForestUnder_L0 k v0 v1 v2 (k + (60 : Nat)) (x76) ([v1].length) ((0 : Int)) ([v1])
      else
       none
theorem h_poacherlaw04_ForestUnder (k : Nat) (v0 : (List (Int × List Int))) (v1 : Int) (v2 : Int) : xC (k + 61) none 18 [(.ro (List.map taskV v0)), (.lit (.int .i64 v1)), (.lit (.int .i64 v2))] = ob (g_poacherlaw04_ForestUnder k v0 v1 v2) fun r => some ((.lit (.bool r)), []) := by
  rw [xC_eq]
  unfold g_poacherlaw04_ForestUnder
  simp (maxSteps := 2000000) -implicitDefEqProofs only [xe18, xb18, xz18, xm18_0, xm18_1, xm18_2, xm18_3, xj18_4, xm18_5, xm18_6, xj18_7, xm18_8, xk18_0_ret, xk18_1_ret, xk18_2_ret, xk18_3_ret, xk18_4_ret, ↓syP, syA, rtN, pureL, V.pure, nsh, stBk, V.kill, killL, spl, V.shift, shiftL, V.scal, scalL, intR, boolR, threeV, Nat.reduceAdd, Nat.reduceSub, Nat.reduceMul, Nat.reduceLT, Nat.reduceLeDiff, Nat.reduceEqDiff, Nat.reduceBEq, Nat.reduceBNe, Int.reduceBEq, Int.reduceBNe, Int.reduceLT, Int.reduceLE, Int.reduceAdd, Int.reduceSub, Int.reduceNeg, xF, xcallV, xcallC, xcallL, xcallY, xevY, xY_ready, xrange, xG_fn, xR, xA, xcl62, xclk62, xcl71, xclk71, awk04', awk21', awk17', downF_init, h_ref_under, h_poacherlaw04_Few, h_forest_May, h_forest_Under, g_poacherlaw04_ForestUnder_L0_eq k v0 v1 v2]
  all_goals simp -implicitDefEqProofs only [List.map_nil]
end Go.Ab
