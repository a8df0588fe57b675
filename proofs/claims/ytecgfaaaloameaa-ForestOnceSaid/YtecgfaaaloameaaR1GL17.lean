/- Functions as they are walked: printed by Walk.lean. -/
import Derived.Test.YtecgfaaaloameaaR1GU
import Derived.Test.YtecgfaaaloameaaR1Awk
import Derived.Test.YtecgfaaaloameaaR1BL17
set_option maxRecDepth 100000
set_option linter.unusedVariables false
set_option linter.unusedSimpArgs false
namespace Go.Ab
open Go.Proofs
def g_poacherlaw04_ForestOnce_L1 (k : Nat) (v0 : (List (Int × List Int))) (v1 : Int) (o0 : List Int → Int → Int → Int → Option Bool) : Nat → List Int → Int → List Int → Int → Int → Int → Option Bool
  | 0, _, _, _, _, _, _ => none
  | n + 1, s18, s19, s20, s35, s36, s48 =>
    bif decide (s36 < (↑s20.length : Int)) then
     ob (idx s20 s36) fun x61 =>
     bif x61 == v1 then
      g_poacherlaw04_ForestOnce_L1 k v0 v1 o0 n (s18) (s19) (s20) (IntKind.i64.wrap (s35 + (1 : Int))) (IntKind.i64.wrap (s36 + (1 : Int))) (s48)
     else
      g_poacherlaw04_ForestOnce_L1 k v0 v1 o0 n (s18) (s19) (s20) (s35) (IntKind.i64.wrap (s36 + (1 : Int))) (s48)
    else
     o0 (s18) (s19) (IntKind.i64.wrap (s48 + (1 : Int))) (s35)
theorem g_poacherlaw04_ForestOnce_L1_eq (k : Nat) (v0 : (List (Int × List Int))) (v1 : Int) (n4 : Nat) (o0 : List Int → Int → Int → Int → Option Bool) (ho0 : ∀ (s6 : List Int) (s37 : Int) (s38 : Int) (s50 : Int) ⦃s5 : Bool⦄ ⦃s7 : Bool⦄ ⦃s8 : Bool⦄ ⦃s9 : Bool⦄ ⦃j39 j40 : V⦄, rt none (itX (xX (xS (k + (60 : Nat))) (17 : Nat) (0 : Nat) (k + (60 : Nat)) false) xl17_0 ((0 : Nat)) (runK (xX (xS (k + (60 : Nat))) (17 : Nat) (0 : Nat) (k + (60 : Nat)) false) (bodyK (xS (k + (60 : Nat))).P Try.f17) xk17_1) n4 ⟨(V.ro (List.map taskV v0) :: V.lit (Value.int IntKind.i64 v1) :: uu :: uu :: V.lit (Value.bool false) :: V.lit (Value.bool true) :: V.lit (Value.bool s5) :: V.ro (List.map (intR IntKind.i64) s6) :: V.lit (Value.int IntKind.i64 s50) :: V.lit (Value.int IntKind.i64 s37) :: V.lit (Value.int IntKind.i64 s38) :: j39 :: j40 :: uu :: V.lit (Value.bool true) :: V.ro (List.map taskV v0) :: V.lit (Value.bool s5) :: V.lit (Value.bool true) :: V.lit (Value.bool false) :: V.lit (Value.bool false) :: V.lit (Value.bool s5) :: V.lit (Value.bool s7) :: V.lit (Value.bool s7) :: V.lit (Value.bool false) :: V.ro (List.map taskV v0) :: V.lit (Value.bool s8) :: V.lit (Value.bool s9) :: V.lit (Value.bool s9) :: V.lit (Value.bool false) :: V.lit (Value.int IntKind.i64 v1) :: V.lit (Value.bool (decide (v1 < (0 : Int)))) :: V.lit (Value.bool (decide (v1 < (0 : Int)))) :: V.lit (Value.bool false) :: V.lit (Value.int IntKind.i64 v1) :: V.ro (List.map taskV v0) :: V.lit (Value.int IntKind.i64 (↑v0.length : Int)) :: V.lit (Value.bool (decide ((↑v0.length : Int) ≤ v1))) :: V.lit (Value.bool (decide ((↑v0.length : Int) ≤ v1))) :: uu :: V.ro (List.map taskV v0) :: V.ro (List.map (intR IntKind.i64) s6) :: V.junk :: V.junk :: V.junk :: V.junk :: V.junk :: V.junk :: V.junk :: V.junk :: V.junk :: V.junk :: V.junk :: V.junk :: V.junk :: V.junk :: V.junk :: V.junk :: V.junk :: V.junk :: V.junk :: V.junk :: V.junk :: V.junk :: V.junk :: V.junk :: V.junk :: V.junk :: V.junk :: V.junk :: V.junk :: V.junk :: uu :: uu :: uu :: uu :: uu :: uu :: uu :: uu :: uu :: uu :: uu :: uu :: uu :: uu :: uu :: uu :: uu :: uu :: uu :: uu :: []), []⟩) = ob (o0 s6 s37 s38 s50) fun r => some ((.lit (.bool r)), [])) : ∀ (n : Nat) (s18 : List Int) (s19 : Int) (s20 : List Int) (s35 : Int) (s36 : Int) (s48 : Int) ⦃s17 : Bool⦄ ⦃s21 : Bool⦄ ⦃s22 : Bool⦄ ⦃s23 : Bool⦄ ⦃s24 : Int⦄ ⦃s25 : Bool⦄ ⦃s26 : Int⦄ ⦃s27 : Int⦄ ⦃s49 : Int⦄, rt none (itX (xX (xS (k + (60 : Nat))) (17 : Nat) (0 : Nat) (k + (60 : Nat)) false) xl17_1 ((0 : Nat)) (runK (xX (xS (k + (60 : Nat))) (17 : Nat) (0 : Nat) (k + (60 : Nat)) false) (nextK (xX (xS (k + (60 : Nat))) (17 : Nat) (0 : Nat) (k + (60 : Nat)) false) xl17_0 (0 : Nat) (runK (xX (xS (k + (60 : Nat))) (17 : Nat) (0 : Nat) (k + (60 : Nat)) false) (bodyK (xS (k + (60 : Nat))).P Try.f17) xk17_1) n4) xk17_2) n ⟨(V.ro (List.map taskV v0) :: V.lit (Value.int IntKind.i64 v1) :: uu :: uu :: V.lit (Value.bool false) :: V.lit (Value.bool true) :: V.lit (Value.bool s17) :: V.ro (List.map (intR IntKind.i64) s18) :: V.lit (Value.int IntKind.i64 s35) :: V.lit (Value.int IntKind.i64 s19) :: V.lit (Value.int IntKind.i64 s48) :: V.ro (List.map (intR IntKind.i64) s20) :: V.lit (Value.int IntKind.i64 s36) :: uu :: V.lit (Value.bool true) :: V.ro (List.map taskV v0) :: V.lit (Value.bool s17) :: V.lit (Value.bool true) :: V.lit (Value.bool false) :: V.lit (Value.bool false) :: V.lit (Value.bool s17) :: V.lit (Value.bool s21) :: V.lit (Value.bool s21) :: V.lit (Value.bool false) :: V.ro (List.map taskV v0) :: V.lit (Value.bool s22) :: V.lit (Value.bool s23) :: V.lit (Value.bool s23) :: V.lit (Value.bool false) :: V.lit (Value.int IntKind.i64 v1) :: V.lit (Value.bool (decide (v1 < (0 : Int)))) :: V.lit (Value.bool (decide (v1 < (0 : Int)))) :: V.lit (Value.bool false) :: V.lit (Value.int IntKind.i64 v1) :: V.ro (List.map taskV v0) :: V.lit (Value.int IntKind.i64 (↑v0.length : Int)) :: V.lit (Value.bool (decide ((↑v0.length : Int) ≤ v1))) :: V.lit (Value.bool (decide ((↑v0.length : Int) ≤ v1))) :: uu :: V.ro (List.map taskV v0) :: V.ro (List.map (intR IntKind.i64) s18) :: V.lit (Value.int IntKind.i64 s48) :: V.ro (List.map (intR IntKind.i64) s18) :: V.lit (Value.int IntKind.i64 s24) :: V.lit (Value.bool s25) :: V.junk :: V.junk :: V.ro (List.map taskV v0) :: V.ro (List.map (intR IntKind.i64) s18) :: V.lit (Value.int IntKind.i64 s48) :: V.rp [V.lit (Value.int IntKind.i64 s26)] :: V.lit (Value.int IntKind.i64 s26) :: V.ro (List.map (intR IntKind.i64) s20) :: V.lit (Value.int IntKind.i64 s49) :: V.ro (List.map (intR IntKind.i64) s20) :: V.lit (Value.int IntKind.i64 s27) :: V.lit (Value.int IntKind.i64 s19) :: V.junk :: V.junk :: V.junk :: V.junk :: V.junk :: V.junk :: V.junk :: V.junk :: V.junk :: V.junk :: V.junk :: V.junk :: V.junk :: V.junk :: uu :: uu :: uu :: uu :: uu :: uu :: uu :: uu :: uu :: uu :: uu :: uu :: uu :: uu :: uu :: uu :: uu :: uu :: uu :: uu :: []), []⟩) = ob (g_poacherlaw04_ForestOnce_L1 k v0 v1 o0 n s18 s19 s20 s35 s36 s48) fun r => some ((.lit (.bool r)), []) := by
  intro n
  induction n with
  | zero => intros; rfl
  | succ n ih =>
    intro s18 s19 s20 s35 s36 s48 s17 s21 s22 s23 s24 s25 s26 s27 s49
    rw [g_poacherlaw04_ForestOnce_L1]
    simp (maxSteps := 2000000) -implicitDefEqProofs only [xe17, xb17, xz17, xm17_0, xm17_1, xm17_2, xm17_3, xj17_4, xj17_5, xm17_6, xj17_7, xm17_8, xm17_9, xk17_0_ret, xk17_1_ret, xk17_2_ret, xk17_3_ret, xk17_4_ret, ↓syP, syA, rtN, pureL, V.pure, nsh, stBk, V.kill, killL, spl, V.shift, shiftL, V.scal, scalL, intR, boolR, threeV, Nat.reduceAdd, Nat.reduceSub, Nat.reduceMul, Nat.reduceLT, Nat.reduceLeDiff, Nat.reduceEqDiff, Nat.reduceBEq, Nat.reduceBNe, Int.reduceBEq, Int.reduceBNe, Int.reduceLT, Int.reduceLE, Int.reduceAdd, Int.reduceSub, Int.reduceNeg, xF, xcallV, xcallC, xcallL, xcallY, xevY, xY_ready, xrange, xG_fn, xR, xA, xcl62, xclk62, xcl71, xclk71, awk04', awk21', awk17', downF_init, h_ref_under, h_poacherlaw04_Few, h_forest_May, h_forest_Parent, h_forest_Roots, h_forest_Under, xr17_1, ih, ho0]
    all_goals simp -implicitDefEqProofs only [List.map_nil]
def g_poacherlaw04_ForestOnce_L0 (k : Nat) (v0 : (List (Int × List Int))) (v1 : Int)  : Nat → List Int → Int → Int → Int → Option Bool
  | 0, _, _, _, _ => none
  | n + 1, s6, s37, s38, s50 =>
    bif decide (s38 < (↑s6.length : Int)) then
     ob (idx s6 s38) fun x58 =>
     ob (g_forest_Under (k + (40 : Nat)) v0 x58) fun x59 =>
     g_poacherlaw04_ForestOnce_L1 k v0 v1 (fun s6 s37 s38 s50 => g_poacherlaw04_ForestOnce_L0 k v0 v1  n s6 s37 s38 s50) (k + (60 : Nat)) (s6) (IntKind.i64.wrap (s37 + (↑x59.length : Int))) (x59) (s50) ((0 : Int)) (s38)
    else
     ob (g_forest_Parent (k + (40 : Nat)) v0 v1) fun x60 =>
     bif s50 == (1 : Int) then
      bif s37 == (↑v0.length : Int) then
       bif decide (x60 < v1) then
        some (decide ((-1 : Int) ≤ x60))
       else
        some (false)
      else
       some (false)
     else
      some (false)
theorem g_poacherlaw04_ForestOnce_L0_eq (k : Nat) (v0 : (List (Int × List Int))) (v1 : Int) : ∀ (n : Nat) (s6 : List Int) (s37 : Int) (s38 : Int) (s50 : Int) ⦃s5 : Bool⦄ ⦃s7 : Bool⦄ ⦃s8 : Bool⦄ ⦃s9 : Bool⦄ ⦃j39 j40 : V⦄, rt none (itX (xX (xS (k + (60 : Nat))) (17 : Nat) (0 : Nat) (k + (60 : Nat)) false) xl17_0 ((0 : Nat)) (runK (xX (xS (k + (60 : Nat))) (17 : Nat) (0 : Nat) (k + (60 : Nat)) false) (bodyK (xS (k + (60 : Nat))).P Try.f17) xk17_1) n ⟨(V.ro (List.map taskV v0) :: V.lit (Value.int IntKind.i64 v1) :: uu :: uu :: V.lit (Value.bool false) :: V.lit (Value.bool true) :: V.lit (Value.bool s5) :: V.ro (List.map (intR IntKind.i64) s6) :: V.lit (Value.int IntKind.i64 s50) :: V.lit (Value.int IntKind.i64 s37) :: V.lit (Value.int IntKind.i64 s38) :: j39 :: j40 :: uu :: V.lit (Value.bool true) :: V.ro (List.map taskV v0) :: V.lit (Value.bool s5) :: V.lit (Value.bool true) :: V.lit (Value.bool false) :: V.lit (Value.bool false) :: V.lit (Value.bool s5) :: V.lit (Value.bool s7) :: V.lit (Value.bool s7) :: V.lit (Value.bool false) :: V.ro (List.map taskV v0) :: V.lit (Value.bool s8) :: V.lit (Value.bool s9) :: V.lit (Value.bool s9) :: V.lit (Value.bool false) :: V.lit (Value.int IntKind.i64 v1) :: V.lit (Value.bool (decide (v1 < (0 : Int)))) :: V.lit (Value.bool (decide (v1 < (0 : Int)))) :: V.lit (Value.bool false) :: V.lit (Value.int IntKind.i64 v1) :: V.ro (List.map taskV v0) :: V.lit (Value.int IntKind.i64 (↑v0.length : Int)) :: V.lit (Value.bool (decide ((↑v0.length : Int) ≤ v1))) :: V.lit (Value.bool (decide ((↑v0.length : Int) ≤ v1))) :: uu :: V.ro (List.map taskV v0) :: V.ro (List.map (intR IntKind.i64) s6) :: V.junk :: V.junk :: V.junk :: V.junk :: V.junk :: V.junk :: V.junk :: V.junk :: V.junk :: V.junk :: V.junk :: V.junk :: V.junk :: V.junk :: V.junk :: V.junk :: V.junk :: V.junk :: V.junk :: V.junk :: V.junk :: V.junk :: V.junk :: V.junk :: V.junk :: V.junk :: V.junk :: V.junk :: V.junk :: V.junk :: uu :: uu :: uu :: uu :: uu :: uu :: uu :: uu :: uu :: uu :: uu :: uu :: uu :: uu :: uu :: uu :: uu :: uu :: uu :: uu :: []), []⟩) = ob (g_poacherlaw04_ForestOnce_L0 k v0 v1  n s6 s37 s38 s50) fun r => some ((.lit (.bool r)), []) := by
  intro n
  induction n with
  | zero => intros; rfl
  | succ n ih =>
    intro s6 s37 s38 s50 s5 s7 s8 s9 j39 j40
    rw [g_poacherlaw04_ForestOnce_L0]
    simp (maxSteps := 2000000) -implicitDefEqProofs only [xe17, xb17, xz17, xm17_0, xm17_1, xm17_2, xm17_3, xj17_4, xj17_5, xm17_6, xj17_7, xm17_8, xm17_9, xk17_0_ret, xk17_1_ret, xk17_2_ret, xk17_3_ret, xk17_4_ret, ↓syP, syA, rtN, pureL, V.pure, nsh, stBk, V.kill, killL, spl, V.shift, shiftL, V.scal, scalL, intR, boolR, threeV, Nat.reduceAdd, Nat.reduceSub, Nat.reduceMul, Nat.reduceLT, Nat.reduceLeDiff, Nat.reduceEqDiff, Nat.reduceBEq, Nat.reduceBNe, Int.reduceBEq, Int.reduceBNe, Int.reduceLT, Int.reduceLE, Int.reduceAdd, Int.reduceSub, Int.reduceNeg, xF, xcallV, xcallC, xcallL, xcallY, xevY, xY_ready, xrange, xG_fn, xR, xA, xcl62, xclk62, xcl71, xclk71, awk04', awk21', awk17', downF_init, h_ref_under, h_poacherlaw04_Few, h_forest_May, h_forest_Parent, h_forest_Roots, h_forest_Under, xr17_0, ih, g_poacherlaw04_ForestOnce_L1_eq k v0 v1 _ (fun s6 s37 s38 s50 => g_poacherlaw04_ForestOnce_L0 k v0 v1  n s6 s37 s38 s50) ih]
    all_goals simp -implicitDefEqProofs only [List.map_nil]
def g_poacherlaw04_ForestOnce (k : Nat) (v0 : (List (Int × List Int))) (v1 : Int) : Option Bool :=
  ob (g_poacherlaw04_Few (k + (59 : Nat)) v0) fun x62 =>
  bif !x62 then
   some (true)
  else
   ob (g_forest_May (k + (41 : Nat)) v0) fun x63 =>
   bif !x63 then
    some (true)
   else
    bif decide (v1 < (0 : Int)) then
     some (true)
    else
     bif decide ((↑v0.length : Int) ≤ v1) then
      some (true)
     else
      ob (g_forest_Roots (k + (39 : Nat)) v0) fun x64 =>
      g_poacherlaw04_ForestOnce_L0 k v0 v1 (k + (60 : Nat)) (x64) ((0 : Int)) ((0 : Int)) ((0 : Int))
theorem h_poacherlaw04_ForestOnce (k : Nat) (v0 : (List (Int × List Int))) (v1 : Int) : xC (k + 61) none 17 [(.ro (List.map taskV v0)), (.lit (.int .i64 v1))] = ob (g_poacherlaw04_ForestOnce k v0 v1) fun r => some ((.lit (.bool r)), []) := by
  rw [xC_eq]
  unfold g_poacherlaw04_ForestOnce
  simp (maxSteps := 2000000) -implicitDefEqProofs only [xe17, xb17, xz17, xm17_0, xm17_1, xm17_2, xm17_3, xj17_4, xj17_5, xm17_6, xj17_7, xm17_8, xm17_9, xk17_0_ret, xk17_1_ret, xk17_2_ret, xk17_3_ret, xk17_4_ret, ↓syP, syA, rtN, pureL, V.pure, nsh, stBk, V.kill, killL, spl, V.shift, shiftL, V.scal, scalL, intR, boolR, threeV, Nat.reduceAdd, Nat.reduceSub, Nat.reduceMul, Nat.reduceLT, Nat.reduceLeDiff, Nat.reduceEqDiff, Nat.reduceBEq, Nat.reduceBNe, Int.reduceBEq, Int.reduceBNe, Int.reduceLT, Int.reduceLE, Int.reduceAdd, Int.reduceSub, Int.reduceNeg, xF, xcallV, xcallC, xcallL, xcallY, xevY, xY_ready, xrange, xG_fn, xR, xA, xcl62, xclk62, xcl71, xclk71, awk04', awk21', awk17', downF_init, h_ref_under, h_poacherlaw04_Few, h_forest_May, h_forest_Roots, g_poacherlaw04_ForestOnce_L0_eq k v0 v1]
  all_goals simp -implicitDefEqProofs only [List.map_nil]
end Go.Ab
