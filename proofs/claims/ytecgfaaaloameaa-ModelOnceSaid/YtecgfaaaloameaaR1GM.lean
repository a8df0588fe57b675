/- Functions as they are walked: printed by Walk.lean. -/
import Derived.Test.YtecgfaaaloameaaR1GF
import Derived.Test.YtecgfaaaloameaaR1B3
import Derived.Test.YtecgfaaaloameaaR1B4
set_option maxRecDepth 100000
set_option linter.unusedVariables false
set_option linter.unusedSimpArgs false
namespace Go.Ab
open Go.Proofs
def g_model_New (k : Nat) (v0 : (List (Int × List Int))) : Option (List Int) :=
  ob (g_forest_May k v0) fun x2 =>
  bif !x2 then
   some []
  else
   bif decide ((0 : Int) ≤ (↑v0.length : Int) ∧ (↑v0.length : Int) ≤ (9223372036854775807 : Int) ∧ (↑v0.length : Int) * (8 : Int) ≤ (70368744177664 : Int)) then
    some (List.replicate v0.length (0 : Int))
   else
    none
theorem h_model_New (k : Nat) (v0 : (List (Int × List Int))) : xC (k + 20) none 28 [(.ro (List.map taskV v0))] = ob (g_model_New k v0) fun r => some ((.ro (List.map (intR .i64) r)), []) := by
  rw [xC_eq]
  unfold g_model_New
  simp (maxSteps := 2000000) -implicitDefEqProofs only [xe28, xb28, ↓syP, syA, rtN, pureL, V.pure, nsh, stBk, V.kill, killL, spl, V.shift, shiftL, V.scal, scalL, intR, boolR, threeV, Nat.reduceAdd, Nat.reduceSub, Nat.reduceMul, Nat.reduceLT, Nat.reduceLeDiff, Nat.reduceEqDiff, Nat.reduceBEq, Nat.reduceBNe, Int.reduceBEq, Int.reduceBNe, Int.reduceLT, Int.reduceLE, Int.reduceAdd, Int.reduceSub, Int.reduceNeg, xF, xcallV, xcallC, xcallL, xcallY, xevY, xY_ready, xrange, xG_fn, xR, xA, xcl62, xclk62, xcl71, xclk71, h_forest_May]
  all_goals simp -implicitDefEqProofs only [List.map_nil]
def g_model_fits_1 (v0 : Int) : Option Bool :=
  bif decide (v0 < (0 : Int)) then
   some (true)
  else
   some (decide ((3 : Int) < v0))
theorem h_model_fits_1 (k : Nat) (v0 : Int) : xC (k + 1) none 86 [(.lit (.int .i64 v0))] = ob (g_model_fits_1 v0) fun r => some ((.lit (.bool r)), []) := by
  rw [xC_eq]
  unfold g_model_fits_1
  simp (maxSteps := 2000000) -implicitDefEqProofs only [xe86, xb86, xm86_0, xk86_0_ret, ↓syP, syA, rtN, pureL, V.pure, nsh, stBk, V.kill, killL, spl, V.shift, shiftL, V.scal, scalL, intR, boolR, threeV, Nat.reduceAdd, Nat.reduceSub, Nat.reduceMul, Nat.reduceLT, Nat.reduceLeDiff, Nat.reduceEqDiff, Nat.reduceBEq, Nat.reduceBNe, Int.reduceBEq, Int.reduceBNe, Int.reduceLT, Int.reduceLE, Int.reduceAdd, Int.reduceSub, Int.reduceNeg, xF, xcallV, xcallC, xcallL, xcallY, xevY, xY_ready, xrange, xG_fn, xR, xA, xcl62, xclk62, xcl71, xclk71]
  all_goals simp -implicitDefEqProofs only [List.map_nil]
def g_slices_IndexFunc_int_model_fits_1_L0 (k : Nat) (v0 : (List Int))  : Nat → Int → Option Int
  | 0, _ => none
  | n + 1, s10 =>
    bif decide (s10 < (↑v0.length : Int)) then
     ob (idx v0 s10) fun x13 =>
     ob (g_model_fits_1 x13) fun x14 =>
     bif x14 then
      some (s10)
     else
      g_slices_IndexFunc_int_model_fits_1_L0 k v0  n (IntKind.i64.wrap (s10 + (1 : Int)))
    else
     some ((-1 : Int))
theorem g_slices_IndexFunc_int_model_fits_1_L0_eq (k : Nat) (v0 : (List Int)) : ∀ (n : Nat) (s10 : Int) ⦃j9 : V⦄, rt none (itX (xX (xS (k + (8 : Nat))) (92 : Nat) (0 : Nat) (k + (8 : Nat)) false) xl92_0 ((0 : Nat)) (runK (xX (xS (k + (8 : Nat))) (92 : Nat) (0 : Nat) (k + (8 : Nat)) false) (bodyK (xS (k + (8 : Nat))).P Try.f92) xk92_0) n ⟨[V.ro (List.map (intR IntKind.i64) v0), V.fn (Fn.func (86 : FuncId)) [] [], uu, uu, V.lit (Value.int IntKind.i64 (0 : Int)), j9, V.ro (List.map (intR IntKind.i64) v0), V.lit (Value.int IntKind.i64 (↑v0.length : Int)), V.lit (Value.int IntKind.i64 s10), V.junk, V.junk, V.junk, V.junk, V.junk, V.junk, V.junk, V.junk, V.junk, V.junk], []⟩) = ob (g_slices_IndexFunc_int_model_fits_1_L0 k v0  n s10) fun r => some ((.lit (.int .i64 r)), []) := by
  intro n
  induction n with
  | zero => intros; rfl
  | succ n ih =>
    intro s10 j9
    rw [g_slices_IndexFunc_int_model_fits_1_L0]
    simp (maxSteps := 2000000) -implicitDefEqProofs only [xe92, xb92, xz92, xj92_0, xk92_0_ret, ↓syP, syA, rtN, pureL, V.pure, nsh, stBk, V.kill, killL, spl, V.shift, shiftL, V.scal, scalL, intR, boolR, threeV, Nat.reduceAdd, Nat.reduceSub, Nat.reduceMul, Nat.reduceLT, Nat.reduceLeDiff, Nat.reduceEqDiff, Nat.reduceBEq, Nat.reduceBNe, Int.reduceBEq, Int.reduceBNe, Int.reduceLT, Int.reduceLE, Int.reduceAdd, Int.reduceSub, Int.reduceNeg, xF, xcallV, xcallC, xcallL, xcallY, xevY, xY_ready, xrange, xG_fn, xR, xA, xcl62, xclk62, xcl71, xclk71, h_model_fits_1, xr92_0, ih]
    all_goals simp -implicitDefEqProofs only [List.map_nil]
def g_slices_IndexFunc_int_model_fits_1 (k : Nat) (v0 : (List Int)) : Option Int :=
  g_slices_IndexFunc_int_model_fits_1_L0 k v0 (k + (8 : Nat)) ((0 : Int))
theorem h_slices_IndexFunc_int_model_fits_1 (k : Nat) (v0 : (List Int)) : xC (k + 9) none 92 [(.ro (List.map (intR .i64) v0)), V.fn (Fn.func (86 : FuncId)) [] []] = ob (g_slices_IndexFunc_int_model_fits_1 k v0) fun r => some ((.lit (.int .i64 r)), []) := by
  rw [xC_eq]
  unfold g_slices_IndexFunc_int_model_fits_1
  simp (maxSteps := 2000000) -implicitDefEqProofs only [xe92, xb92, xz92, xj92_0, xk92_0_ret, ↓syP, syA, rtN, pureL, V.pure, nsh, stBk, V.kill, killL, spl, V.shift, shiftL, V.scal, scalL, intR, boolR, threeV, Nat.reduceAdd, Nat.reduceSub, Nat.reduceMul, Nat.reduceLT, Nat.reduceLeDiff, Nat.reduceEqDiff, Nat.reduceBEq, Nat.reduceBNe, Int.reduceBEq, Int.reduceBNe, Int.reduceLT, Int.reduceLE, Int.reduceAdd, Int.reduceSub, Int.reduceNeg, xF, xcallV, xcallC, xcallL, xcallY, xevY, xY_ready, xrange, xG_fn, xR, xA, xcl62, xclk62, xcl71, xclk71, g_slices_IndexFunc_int_model_fits_1_L0_eq k v0]
  all_goals simp -implicitDefEqProofs only [List.map_nil]
def g_slices_ContainsFunc_int_model_fits_1 (k : Nat) (v0 : (List Int)) : Option Bool :=
  ob (g_slices_IndexFunc_int_model_fits_1 (k + (8 : Nat)) v0) fun x16 =>
  some (decide ((0 : Int) ≤ x16))
theorem h_slices_ContainsFunc_int_model_fits_1 (k : Nat) (v0 : (List Int)) : xC (k + 18) none 68 [(.ro (List.map (intR .i64) v0)), V.fn (Fn.func (86 : FuncId)) [] []] = ob (g_slices_ContainsFunc_int_model_fits_1 k v0) fun r => some ((.lit (.bool r)), []) := by
  rw [xC_eq]
  unfold g_slices_ContainsFunc_int_model_fits_1
  simp (maxSteps := 2000000) -implicitDefEqProofs only [xe68, xb68, xe92, xb92, xz92, xj92_0, xk92_0_ret, ↓syP, syA, rtN, pureL, V.pure, nsh, stBk, V.kill, killL, spl, V.shift, shiftL, V.scal, scalL, intR, boolR, threeV, Nat.reduceAdd, Nat.reduceSub, Nat.reduceMul, Nat.reduceLT, Nat.reduceLeDiff, Nat.reduceEqDiff, Nat.reduceBEq, Nat.reduceBNe, Int.reduceBEq, Int.reduceBNe, Int.reduceLT, Int.reduceLE, Int.reduceAdd, Int.reduceSub, Int.reduceNeg, xF, xcallV, xcallC, xcallL, xcallY, xevY, xY_ready, xrange, xG_fn, xR, xA, xcl62, xclk62, xcl71, xclk71, h_slices_IndexFunc_int_model_fits_1]
  all_goals simp -implicitDefEqProofs only [List.map_nil]
def g_model_fits (k : Nat) (v0 : (List (Int × List Int))) (v1 : (List Int)) : Option Bool :=
  ob (g_forest_May k v0) fun x20 =>
  bif x20 then
   bif (↑v1.length : Int) == (↑v0.length : Int) then
    ob (g_slices_ContainsFunc_int_model_fits_1 (k + (1 : Nat)) v1) fun x21 =>
    some (!x21)
   else
    some (false)
  else
   some (false)
theorem h_model_fits (k : Nat) (v0 : (List (Int × List Int))) (v1 : (List Int)) : xC (k + 20) none 63 [(.ro (List.map taskV v0)), (.ro (List.map (intR .i64) v1))] = ob (g_model_fits k v0 v1) fun r => some ((.lit (.bool r)), []) := by
  rw [xC_eq]
  unfold g_model_fits
  simp (maxSteps := 2000000) -implicitDefEqProofs only [xe63, xb63, xm63_0, xm63_1, xk63_0_ret, xe68, xb68, xe86, xb86, xm86_0, xk86_0_ret, xe92, xb92, xz92, xj92_0, xk92_0_ret, ↓syP, syA, rtN, pureL, V.pure, nsh, stBk, V.kill, killL, spl, V.shift, shiftL, V.scal, scalL, intR, boolR, threeV, Nat.reduceAdd, Nat.reduceSub, Nat.reduceMul, Nat.reduceLT, Nat.reduceLeDiff, Nat.reduceEqDiff, Nat.reduceBEq, Nat.reduceBNe, Int.reduceBEq, Int.reduceBNe, Int.reduceLT, Int.reduceLE, Int.reduceAdd, Int.reduceSub, Int.reduceNeg, xF, xcallV, xcallC, xcallL, xcallY, xevY, xY_ready, xrange, xG_fn, xR, xA, xcl62, xclk62, xcl71, xclk71, h_forest_May, h_slices_ContainsFunc_int_model_fits_1]
  all_goals simp -implicitDefEqProofs only [List.map_nil]
def g_model_Calm_1 (v0 : Int) : Option Bool :=
  bif v0 == (1 : Int) then
   some (true)
  else
   some (v0 == (2 : Int))
theorem h_model_Calm_1 (k : Nat) (v0 : Int) : xC (k + 1) none 69 [(.lit (.int .i64 v0))] = ob (g_model_Calm_1 v0) fun r => some ((.lit (.bool r)), []) := by
  rw [xC_eq]
  unfold g_model_Calm_1
  simp (maxSteps := 2000000) -implicitDefEqProofs only [xe69, xb69, xm69_0, xk69_0_ret, ↓syP, syA, rtN, pureL, V.pure, nsh, stBk, V.kill, killL, spl, V.shift, shiftL, V.scal, scalL, intR, boolR, threeV, Nat.reduceAdd, Nat.reduceSub, Nat.reduceMul, Nat.reduceLT, Nat.reduceLeDiff, Nat.reduceEqDiff, Nat.reduceBEq, Nat.reduceBNe, Int.reduceBEq, Int.reduceBNe, Int.reduceLT, Int.reduceLE, Int.reduceAdd, Int.reduceSub, Int.reduceNeg, xF, xcallV, xcallC, xcallL, xcallY, xevY, xY_ready, xrange, xG_fn, xR, xA, xcl62, xclk62, xcl71, xclk71]
  all_goals simp -implicitDefEqProofs only [List.map_nil]
def g_slices_IndexFunc_int_model_Calm_1_L0 (k : Nat) (v0 : (List Int))  : Nat → Int → Option Int
  | 0, _ => none
  | n + 1, s29 =>
    bif decide (s29 < (↑v0.length : Int)) then
     ob (idx v0 s29) fun x32 =>
     ob (g_model_Calm_1 x32) fun x33 =>
     bif x33 then
      some (s29)
     else
      g_slices_IndexFunc_int_model_Calm_1_L0 k v0  n (IntKind.i64.wrap (s29 + (1 : Int)))
    else
     some ((-1 : Int))
theorem g_slices_IndexFunc_int_model_Calm_1_L0_eq (k : Nat) (v0 : (List Int)) : ∀ (n : Nat) (s29 : Int) ⦃j28 : V⦄, rt none (itX (xX (xS (k + (8 : Nat))) (92 : Nat) (0 : Nat) (k + (8 : Nat)) false) xl92_0 ((0 : Nat)) (runK (xX (xS (k + (8 : Nat))) (92 : Nat) (0 : Nat) (k + (8 : Nat)) false) (bodyK (xS (k + (8 : Nat))).P Try.f92) xk92_0) n ⟨[V.ro (List.map (intR IntKind.i64) v0), V.fn (Fn.func (69 : FuncId)) [] [], uu, uu, V.lit (Value.int IntKind.i64 (0 : Int)), j28, V.ro (List.map (intR IntKind.i64) v0), V.lit (Value.int IntKind.i64 (↑v0.length : Int)), V.lit (Value.int IntKind.i64 s29), V.junk, V.junk, V.junk, V.junk, V.junk, V.junk, V.junk, V.junk, V.junk, V.junk], []⟩) = ob (g_slices_IndexFunc_int_model_Calm_1_L0 k v0  n s29) fun r => some ((.lit (.int .i64 r)), []) := by
  intro n
  induction n with
  | zero => intros; rfl
  | succ n ih =>
    intro s29 j28
    rw [g_slices_IndexFunc_int_model_Calm_1_L0]
    simp (maxSteps := 2000000) -implicitDefEqProofs only [xe92, xb92, xz92, xj92_0, xk92_0_ret, ↓syP, syA, rtN, pureL, V.pure, nsh, stBk, V.kill, killL, spl, V.shift, shiftL, V.scal, scalL, intR, boolR, threeV, Nat.reduceAdd, Nat.reduceSub, Nat.reduceMul, Nat.reduceLT, Nat.reduceLeDiff, Nat.reduceEqDiff, Nat.reduceBEq, Nat.reduceBNe, Int.reduceBEq, Int.reduceBNe, Int.reduceLT, Int.reduceLE, Int.reduceAdd, Int.reduceSub, Int.reduceNeg, xF, xcallV, xcallC, xcallL, xcallY, xevY, xY_ready, xrange, xG_fn, xR, xA, xcl62, xclk62, xcl71, xclk71, h_model_Calm_1, xr92_0, ih]
    all_goals simp -implicitDefEqProofs only [List.map_nil]
def g_slices_IndexFunc_int_model_Calm_1 (k : Nat) (v0 : (List Int)) : Option Int :=
  g_slices_IndexFunc_int_model_Calm_1_L0 k v0 (k + (8 : Nat)) ((0 : Int))
theorem h_slices_IndexFunc_int_model_Calm_1 (k : Nat) (v0 : (List Int)) : xC (k + 9) none 92 [(.ro (List.map (intR .i64) v0)), V.fn (Fn.func (69 : FuncId)) [] []] = ob (g_slices_IndexFunc_int_model_Calm_1 k v0) fun r => some ((.lit (.int .i64 r)), []) := by
  rw [xC_eq]
  unfold g_slices_IndexFunc_int_model_Calm_1
  simp (maxSteps := 2000000) -implicitDefEqProofs only [xe92, xb92, xz92, xj92_0, xk92_0_ret, ↓syP, syA, rtN, pureL, V.pure, nsh, stBk, V.kill, killL, spl, V.shift, shiftL, V.scal, scalL, intR, boolR, threeV, Nat.reduceAdd, Nat.reduceSub, Nat.reduceMul, Nat.reduceLT, Nat.reduceLeDiff, Nat.reduceEqDiff, Nat.reduceBEq, Nat.reduceBNe, Int.reduceBEq, Int.reduceBNe, Int.reduceLT, Int.reduceLE, Int.reduceAdd, Int.reduceSub, Int.reduceNeg, xF, xcallV, xcallC, xcallL, xcallY, xevY, xY_ready, xrange, xG_fn, xR, xA, xcl62, xclk62, xcl71, xclk71, g_slices_IndexFunc_int_model_Calm_1_L0_eq k v0]
  all_goals simp -implicitDefEqProofs only [List.map_nil]
def g_slices_ContainsFunc_int_model_Calm_1 (k : Nat) (v0 : (List Int)) : Option Bool :=
  ob (g_slices_IndexFunc_int_model_Calm_1 (k + (8 : Nat)) v0) fun x35 =>
  some (decide ((0 : Int) ≤ x35))
theorem h_slices_ContainsFunc_int_model_Calm_1 (k : Nat) (v0 : (List Int)) : xC (k + 18) none 68 [(.ro (List.map (intR .i64) v0)), V.fn (Fn.func (69 : FuncId)) [] []] = ob (g_slices_ContainsFunc_int_model_Calm_1 k v0) fun r => some ((.lit (.bool r)), []) := by
  rw [xC_eq]
  unfold g_slices_ContainsFunc_int_model_Calm_1
  simp (maxSteps := 2000000) -implicitDefEqProofs only [xe68, xb68, xe92, xb92, xz92, xj92_0, xk92_0_ret, ↓syP, syA, rtN, pureL, V.pure, nsh, stBk, V.kill, killL, spl, V.shift, shiftL, V.scal, scalL, intR, boolR, threeV, Nat.reduceAdd, Nat.reduceSub, Nat.reduceMul, Nat.reduceLT, Nat.reduceLeDiff, Nat.reduceEqDiff, Nat.reduceBEq, Nat.reduceBNe, Int.reduceBEq, Int.reduceBNe, Int.reduceLT, Int.reduceLE, Int.reduceAdd, Int.reduceSub, Int.reduceNeg, xF, xcallV, xcallC, xcallL, xcallY, xevY, xY_ready, xrange, xG_fn, xR, xA, xcl62, xclk62, xcl71, xclk71, h_slices_IndexFunc_int_model_Calm_1]
  all_goals simp -implicitDefEqProofs only [List.map_nil]
def g_model_Calm (k : Nat) (v0 : (List Int)) : Option Bool :=
  ob (g_slices_ContainsFunc_int_model_Calm_1 k v0) fun x38 =>
  some (!x38)
theorem h_model_Calm (k : Nat) (v0 : (List Int)) : xC (k + 19) none 35 [(.ro (List.map (intR .i64) v0))] = ob (g_model_Calm k v0) fun r => some ((.lit (.bool r)), []) := by
  rw [xC_eq]
  unfold g_model_Calm
  simp (maxSteps := 2000000) -implicitDefEqProofs only [xe35, xb35, xe68, xb68, xe69, xb69, xm69_0, xk69_0_ret, xe92, xb92, xz92, xj92_0, xk92_0_ret, ↓syP, syA, rtN, pureL, V.pure, nsh, stBk, V.kill, killL, spl, V.shift, shiftL, V.scal, scalL, intR, boolR, threeV, Nat.reduceAdd, Nat.reduceSub, Nat.reduceMul, Nat.reduceLT, Nat.reduceLeDiff, Nat.reduceEqDiff, Nat.reduceBEq, Nat.reduceBNe, Int.reduceBEq, Int.reduceBNe, Int.reduceLT, Int.reduceLE, Int.reduceAdd, Int.reduceSub, Int.reduceNeg, xF, xcallV, xcallC, xcallL, xcallY, xevY, xY_ready, xrange, xG_fn, xR, xA, xcl62, xclk62, xcl71, xclk71, h_slices_ContainsFunc_int_model_Calm_1]
  all_goals simp -implicitDefEqProofs only [List.map_nil]
def g_model_rules_3  : Option Bool :=
  some (true)
theorem h_model_rules_3 (k : Nat) : xC (k + 1) none 89 [] = ob (g_model_rules_3 ) fun r => some ((.lit (.bool r)), []) := by
  rw [xC_eq]
  unfold g_model_rules_3
  simp (maxSteps := 2000000) -implicitDefEqProofs only [xe89, xb89, ↓syP, syA, rtN, pureL, V.pure, nsh, stBk, V.kill, killL, spl, V.shift, shiftL, V.scal, scalL, intR, boolR, threeV, Nat.reduceAdd, Nat.reduceSub, Nat.reduceMul, Nat.reduceLT, Nat.reduceLeDiff, Nat.reduceEqDiff, Nat.reduceBEq, Nat.reduceBNe, Int.reduceBEq, Int.reduceBNe, Int.reduceLT, Int.reduceLE, Int.reduceAdd, Int.reduceSub, Int.reduceNeg, xF, xcallV, xcallC, xcallL, xcallY, xevY, xY_ready, xrange, xG_fn, xR, xA, xcl62, xclk62, xcl71, xclk71]
  all_goals simp -implicitDefEqProofs only [List.map_nil]
def e_model_Step_E0_L0 (k : Nat)   : Nat → List Int → Int → List Int → Int → Option Int
  | 0, _, _, _, _ => none
  | n + 1, s71, s72, s78, s83 =>
    bif decide (s83 < s72) then
     ob (idx s71 s83) fun x89 =>
     ob (idx s78 x89) fun x90 =>
     bif x90 == (0 : Int) then
      some (s83)
     else
      e_model_Step_E0_L0 k   n (s71) (s72) (s78) (IntKind.i64.wrap (s83 + (1 : Int)))
    else
     some ((-1 : Int))
theorem e_model_Step_E0_L0_eq (k : Nat)  : ∀ (n : Nat) (s71 : List Int) (s72 : Int) (s78 : List Int) (s83 : Int) ⦃s73 : Int⦄ ⦃s74 : Int⦄ ⦃s75 : Int⦄ ⦃s76 : List Int⦄ ⦃s77 : List (Int × List Int)⦄ ⦃s79 : Int⦄ ⦃j82 : V⦄, itX (xX (xS (k + (18 : Nat))) (92 : Nat) (0 : Nat) (k + (18 : Nat)) false) xl92_0 ((9 : Nat)) (runK (xX (xS (k + (18 : Nat))) (92 : Nat) (0 : Nat) (k + (18 : Nat)) false) (bodyK (xS (k + (18 : Nat))).P Try.f92) xk92_0) n ⟨[V.ro (List.map (intR IntKind.i64) s71), V.fn (Fn.func (91 : FuncId)) [] [V.ptr (5 : Nat) (0 : Nat) (0 : Nat) (0 : Nat)], uu, uu, V.lit (Value.int IntKind.i64 (0 : Int)), j82, V.ro (List.map (intR IntKind.i64) s71), V.lit (Value.int IntKind.i64 s72), V.lit (Value.int IntKind.i64 s83), V.junk, V.junk, V.junk, V.junk, V.junk, V.junk, V.junk, V.junk, V.junk, V.junk], [B.box [V.lit (Value.int IntKind.i64 s73), V.lit (Value.int IntKind.i64 s74), V.lit (Value.int IntKind.i64 s75)], B.rows (0 : Nat) [] (0 : Nat) true, B.rows (1 : Nat) (List.map (intR IntKind.i64) s76) (0 : Nat) true, B.box [V.lit (Value.int IntKind.i64 (2 : Int)), V.lit (Value.int IntKind.i64 (3 : Int)), V.fn (Fn.func (90 : FuncId)) [] [V.ptr (4 : Nat) (0 : Nat) (0 : Nat) (0 : Nat), V.ptr (6 : Nat) (0 : Nat) (0 : Nat) (0 : Nat), V.ptr (5 : Nat) (0 : Nat) (0 : Nat) (0 : Nat)]], B.box [V.ro (List.map taskV s77)], B.box [V.ro (List.map (intR IntKind.i64) s78)], B.box [V.lit (Value.int IntKind.i64 s74)], B.box [V.lit (Value.int IntKind.i64 s79)], B.map [(Value.int IntKind.i64 (0 : Int), V.agg [V.lit (Value.int IntKind.i64 (0 : Int)), V.lit (Value.int IntKind.i64 (1 : Int)), V.fn (Fn.func (87 : FuncId)) [] [V.ptr (7 : Nat) (0 : Nat) (0 : Nat) (0 : Nat)]]), (Value.int IntKind.i64 (1 : Int), V.agg [V.lit (Value.int IntKind.i64 (0 : Int)), V.lit (Value.int IntKind.i64 (0 : Int)), V.fn (Fn.func (87 : FuncId)) [] [V.ptr (7 : Nat) (0 : Nat) (0 : Nat) (0 : Nat)]]), (Value.int IntKind.i64 (3 : Int), V.agg [V.lit (Value.int IntKind.i64 (0 : Int)), V.lit (Value.int IntKind.i64 (1 : Int)), V.fn (Fn.func (88 : FuncId)) [] [V.ptr (7 : Nat) (0 : Nat) (0 : Nat) (0 : Nat), V.ptr (5 : Nat) (0 : Nat) (0 : Nat) (0 : Nat)]]), (Value.int IntKind.i64 (2 : Int), V.agg [V.lit (Value.int IntKind.i64 (1 : Int)), V.lit (Value.int IntKind.i64 (2 : Int)), V.fn (Fn.func (89 : FuncId)) [] []]), (Value.int IntKind.i64 (4 : Int), V.agg [V.lit (Value.int IntKind.i64 (2 : Int)), V.lit (Value.int IntKind.i64 (3 : Int)), V.fn (Fn.func (90 : FuncId)) [] [V.ptr (4 : Nat) (0 : Nat) (0 : Nat) (0 : Nat), V.ptr (6 : Nat) (0 : Nat) (0 : Nat) (0 : Nat), V.ptr (5 : Nat) (0 : Nat) (0 : Nat) (0 : Nat)]])]]⟩ = ob (e_model_Step_E0_L0 k   n s71 s72 s78 s83) fun r => some ((V.lit (Value.int IntKind.i64 r), [B.box [V.lit (Value.int IntKind.i64 s73), V.lit (Value.int IntKind.i64 s74), V.lit (Value.int IntKind.i64 s75)], B.rows (0 : Nat) [] (0 : Nat) true, B.rows (1 : Nat) (List.map (intR IntKind.i64) s76) (0 : Nat) true, B.box [V.lit (Value.int IntKind.i64 (2 : Int)), V.lit (Value.int IntKind.i64 (3 : Int)), V.fn (Fn.func (90 : FuncId)) [] [V.ptr (4 : Nat) (0 : Nat) (0 : Nat) (0 : Nat), V.ptr (6 : Nat) (0 : Nat) (0 : Nat) (0 : Nat), V.ptr (5 : Nat) (0 : Nat) (0 : Nat) (0 : Nat)]], B.box [V.ro (List.map taskV s77)], B.box [V.ro (List.map (intR IntKind.i64) s78)], B.box [V.lit (Value.int IntKind.i64 s74)], B.box [V.lit (Value.int IntKind.i64 s79)], B.map [(Value.int IntKind.i64 (0 : Int), V.agg [V.lit (Value.int IntKind.i64 (0 : Int)), V.lit (Value.int IntKind.i64 (1 : Int)), V.fn (Fn.func (87 : FuncId)) [] [V.ptr (7 : Nat) (0 : Nat) (0 : Nat) (0 : Nat)]]), (Value.int IntKind.i64 (1 : Int), V.agg [V.lit (Value.int IntKind.i64 (0 : Int)), V.lit (Value.int IntKind.i64 (0 : Int)), V.fn (Fn.func (87 : FuncId)) [] [V.ptr (7 : Nat) (0 : Nat) (0 : Nat) (0 : Nat)]]), (Value.int IntKind.i64 (3 : Int), V.agg [V.lit (Value.int IntKind.i64 (0 : Int)), V.lit (Value.int IntKind.i64 (1 : Int)), V.fn (Fn.func (88 : FuncId)) [] [V.ptr (7 : Nat) (0 : Nat) (0 : Nat) (0 : Nat), V.ptr (5 : Nat) (0 : Nat) (0 : Nat) (0 : Nat)]]), (Value.int IntKind.i64 (2 : Int), V.agg [V.lit (Value.int IntKind.i64 (1 : Int)), V.lit (Value.int IntKind.i64 (2 : Int)), V.fn (Fn.func (89 : FuncId)) [] []]), (Value.int IntKind.i64 (4 : Int), V.agg [V.lit (Value.int IntKind.i64 (2 : Int)), V.lit (Value.int IntKind.i64 (3 : Int)), V.fn (Fn.func (90 : FuncId)) [] [V.ptr (4 : Nat) (0 : Nat) (0 : Nat) (0 : Nat), V.ptr (6 : Nat) (0 : Nat) (0 : Nat) (0 : Nat), V.ptr (5 : Nat) (0 : Nat) (0 : Nat) (0 : Nat)]])]])) := by
  intro n
  induction n with
  | zero => intros; rfl
  | succ n ih =>
    intro s71 s72 s78 s83 s73 s74 s75 s76 s77 s79 j82
    rw [e_model_Step_E0_L0]
    simp (maxSteps := 2000000) -implicitDefEqProofs only [xe25, xb25, xm25_0, xm25_1, xm25_2, xk25_0_ret, xk25_1_ret, xe64, xb64, xC_eq (g := 64), xe68, xb68, xe87, xb87, xe88, xb88, xm88_0, xk88_0_ret, xe89, xb89, xe90, xb90, xe91, xb91, xe92, xb92, xz92, xj92_0, xk92_0_ret, ↓syP, syA, rtN, pureL, V.pure, nsh, stBk, V.kill, killL, spl, V.shift, shiftL, V.scal, scalL, intR, boolR, threeV, Nat.reduceAdd, Nat.reduceSub, Nat.reduceMul, Nat.reduceLT, Nat.reduceLeDiff, Nat.reduceEqDiff, Nat.reduceBEq, Nat.reduceBNe, Int.reduceBEq, Int.reduceBNe, Int.reduceLT, Int.reduceLE, Int.reduceAdd, Int.reduceSub, Int.reduceNeg, xF, xcallV, xcallC, xcallL, xcallY, xevY, xY_ready, xrange, xG_fn, xR, xA, xcl62, xclk62, xcl71, xclk71, xr92_0, ih]
    all_goals simp -implicitDefEqProofs only [List.map_nil]
def g_model_Step (k : Nat) (v0 : (List (Int × List Int))) (v1 : (List Int)) (v2 : (Int × Int × Int)) : Option ((List Int) × Bool) :=
  ob (g_clone (8 : Nat) v1) fun x109 =>
  ob (g_model_fits (k + (1 : Nat)) v0 v1) fun x110 =>
  bif !x110 then
   some ((x109), (false))
  else
   bif v2.1 == (5 : Int) then
    ob (g_model_Calm (k + (2 : Nat)) v1) fun x111 =>
    some ((x109), (x111))
   else
    bif decide (v2.2.1 < (0 : Int)) then
     some ((x109), (false))
    else
     bif decide ((↑v0.length : Int) ≤ v2.2.1) then
      some ((x109), (false))
     else
      ob (g_forest_Parent k v0 v2.2.1) fun x112 =>
      bif v2.1 == (0 : Int) then
       ob (idx v1 v2.2.1) fun x113 =>
       bif x113 != (0 : Int) then
        some ((x109), (false))
       else
        bif !decide (x112 < (0 : Int)) then
         some ((x109), (false))
        else
         bif decide ((0 : Int) ≤ v2.2.1 ∧ v2.2.1.toNat < x109.length) then
          ob (x109[v2.2.1.toNat]?) fun x114 =>
          some ((x109.set v2.2.1.toNat (1 : Int)), (true))
         else
          none
      else
       bif v2.1 == (1 : Int) then
        ob (idx v1 v2.2.1) fun x115 =>
        bif x115 != (0 : Int) then
         some ((x109), (false))
        else
         bif !decide (x112 < (0 : Int)) then
          some ((x109), (false))
         else
          bif decide ((0 : Int) ≤ v2.2.1 ∧ v2.2.1.toNat < x109.length) then
           ob (x109[v2.2.1.toNat]?) fun x116 =>
           some ((x109.set v2.2.1.toNat (0 : Int)), (true))
          else
           none
       else
        bif v2.1 == (3 : Int) then
         ob (idx v1 v2.2.1) fun x117 =>
         bif x117 != (0 : Int) then
          some ((x109), (false))
         else
          bif decide ((0 : Int) ≤ x112) then
           ob (idx v1 x112) fun x118 =>
           bif !x118 == (2 : Int) then
            some ((x109), (false))
           else
            bif decide ((0 : Int) ≤ v2.2.1 ∧ v2.2.1.toNat < x109.length) then
             ob (x109[v2.2.1.toNat]?) fun x119 =>
             some ((x109.set v2.2.1.toNat (1 : Int)), (true))
            else
             none
          else
           some ((x109), (false))
        else
         bif v2.1 == (2 : Int) then
          ob (idx v1 v2.2.1) fun x120 =>
          bif x120 != (1 : Int) then
           some ((x109), (false))
          else
           ob (g_model_rules_3) fun x121 =>
           bif !x121 then
            some ((x109), (false))
           else
            bif decide ((0 : Int) ≤ v2.2.1 ∧ v2.2.1.toNat < x109.length) then
             ob (x109[v2.2.1.toNat]?) fun x122 =>
             some ((x109.set v2.2.1.toNat (2 : Int)), (true))
            else
             none
         else
          bif v2.1 == (4 : Int) then
           ob (idx v1 v2.2.1) fun x123 =>
           bif x123 != (2 : Int) then
            some ((x109), (false))
           else
            ob (idx v0 v2.2.1) fun x124 =>
            ob (e_model_Step_E0_L0 k (k + (18 : Nat)) x124.snd (↑x124.snd.length : Int) v1 (0 : Int)) fun x125 =>
            bif !!decide ((0 : Int) ≤ x125) then
             some ((x109), (false))
            else
             bif decide ((0 : Int) ≤ v2.2.1 ∧ v2.2.1.toNat < x109.length) then
              ob (x109[v2.2.1.toNat]?) fun x126 =>
              some ((x109.set v2.2.1.toNat (3 : Int)), (true))
             else
              none
          else
           some ((x109), (false))
theorem h_model_Step (k : Nat) (v0 : (List (Int × List Int))) (v1 : (List Int)) (v2_0 : Int) (v2_1 : Int) (v2_2 : Int) : xC (k + 22) none 25 [(.ro (List.map taskV v0)), (.ro (List.map (intR .i64) v1)), (.agg [(.lit (.int .i64 v2_0)), (.lit (.int .i64 v2_1)), (.lit (.int .i64 v2_2))])] = ob (g_model_Step k v0 v1 (v2_0, v2_1, v2_2)) fun r => some ((.tup [(.ro (List.map (intR .i64) r.1)), (.lit (.bool r.2))]), []) := by
  rw [xC_eq]
  unfold g_model_Step
  simp (maxSteps := 2000000) -implicitDefEqProofs only [xe25, xb25, xm25_0, xm25_1, xm25_2, xk25_0_ret, xk25_1_ret, xe64, xb64, xC_eq (g := 64), xe68, xb68, xe87, xb87, xe88, xb88, xm88_0, xk88_0_ret, xe89, xb89, xe90, xb90, xe91, xb91, xe92, xb92, xz92, xj92_0, xk92_0_ret, ↓syP, syA, rtN, pureL, V.pure, nsh, stBk, V.kill, killL, spl, V.shift, shiftL, V.scal, scalL, intR, boolR, threeV, Nat.reduceAdd, Nat.reduceSub, Nat.reduceMul, Nat.reduceLT, Nat.reduceLeDiff, Nat.reduceEqDiff, Nat.reduceBEq, Nat.reduceBNe, Int.reduceBEq, Int.reduceBNe, Int.reduceLT, Int.reduceLE, Int.reduceAdd, Int.reduceSub, Int.reduceNeg, xF, xcallV, xcallC, xcallL, xcallY, xevY, xY_ready, xrange, xG_fn, xR, xA, xcl62, xclk62, xcl71, xclk71, h_forest_Parent, h_model_fits, h_model_Calm, h_model_rules_3, e_model_Step_E0_L0_eq]
  all_goals simp -implicitDefEqProofs only [List.map_nil]
def g_model_run_L0 (k : Nat) (v0 : (List (Int × List Int))) (v1 : (List (Int × Int × Int)))  : Nat → List Int → Bool → Int → Option ((List Int) × Bool)
  | 0, _, _, _ => none
  | n + 1, s147, s151, s154 =>
    bif decide (s154 < (↑v1.length : Int)) then
     ob (idx v1 s154) fun x158 =>
     ob (g_model_Step k v0 s147 (x158.fst, x158.snd.fst, x158.snd.snd)) fun x159 =>
     bif !x159.snd then
      some ((x159.fst), (x159.snd))
     else
      g_model_run_L0 k v0 v1  n (x159.fst) (x159.snd) (IntKind.i64.wrap (s154 + (1 : Int)))
    else
     some ((s147), (s151))
theorem g_model_run_L0_eq (k : Nat) (v0 : (List (Int × List Int))) (v1 : (List (Int × Int × Int))) : ∀ (n : Nat) (s147 : List Int) (s151 : Bool) (s154 : Int) ⦃s153 : List Int⦄ ⦃j152 : V⦄, rt none (itX (xX (xS (k + (22 : Nat))) (67 : Nat) (0 : Nat) (k + (22 : Nat)) false) xl67_0 ((1 : Nat)) (runK (xX (xS (k + (22 : Nat))) (67 : Nat) (0 : Nat) (k + (22 : Nat)) false) (bodyK (xS (k + (22 : Nat))).P Try.f67) xk67_0) n ⟨[V.ro (List.map taskV v0), V.ro (List.map threeV v1), uu, uu, V.own (0 : Nat) (0 : Nat) (0 : Nat), V.lit (Value.bool false), V.ro (List.map (intR IntKind.i64) s147), V.lit (Value.bool s151), uu, j152, V.ro (List.map taskV v0), V.ro (List.map (intR IntKind.i64) s153), V.ro (List.map threeV v1), V.lit (Value.int IntKind.i64 (↑v1.length : Int)), V.lit (Value.int IntKind.i64 s154), V.junk, V.junk, V.junk, V.junk, V.junk, V.junk, V.junk, V.junk, V.junk, V.junk, V.junk, V.junk, V.junk, uu, uu], [B.rows (0 : Nat) [] (0 : Nat) true]⟩) = ob (g_model_run_L0 k v0 v1  n s147 s151 s154) fun r => some ((.tup [(.ro (List.map (intR .i64) r.1)), (.lit (.bool r.2))]), []) := by
  intro n
  induction n with
  | zero => intros; rfl
  | succ n ih =>
    intro s147 s151 s154 s153 j152
    rw [g_model_run_L0]
    simp (maxSteps := 2000000) -implicitDefEqProofs only [xe67, xb67, xz67, xj67_0, xk67_0_ret, ↓syP, syA, rtN, pureL, V.pure, nsh, stBk, V.kill, killL, spl, V.shift, shiftL, V.scal, scalL, intR, boolR, threeV, Nat.reduceAdd, Nat.reduceSub, Nat.reduceMul, Nat.reduceLT, Nat.reduceLeDiff, Nat.reduceEqDiff, Nat.reduceBEq, Nat.reduceBNe, Int.reduceBEq, Int.reduceBNe, Int.reduceLT, Int.reduceLE, Int.reduceAdd, Int.reduceSub, Int.reduceNeg, xF, xcallV, xcallC, xcallL, xcallY, xevY, xY_ready, xrange, xG_fn, xR, xA, xcl62, xclk62, xcl71, xclk71, h_model_New, h_model_Step, xr67_0, ih]
    all_goals simp -implicitDefEqProofs only [List.map_nil]
def g_model_run (k : Nat) (v0 : (List (Int × List Int))) (v1 : (List (Int × Int × Int))) : Option ((List Int) × Bool) :=
  ob (g_model_New (k + (2 : Nat)) v0) fun x160 =>
  g_model_run_L0 k v0 v1 (k + (22 : Nat)) (x160) (true) ((0 : Int))
theorem h_model_run (k : Nat) (v0 : (List (Int × List Int))) (v1 : (List (Int × Int × Int))) : xC (k + 23) none 67 [(.ro (List.map taskV v0)), (.ro (List.map threeV v1))] = ob (g_model_run k v0 v1) fun r => some ((.tup [(.ro (List.map (intR .i64) r.1)), (.lit (.bool r.2))]), []) := by
  rw [xC_eq]
  unfold g_model_run
  simp (maxSteps := 2000000) -implicitDefEqProofs only [xe67, xb67, xz67, xj67_0, xk67_0_ret, ↓syP, syA, rtN, pureL, V.pure, nsh, stBk, V.kill, killL, spl, V.shift, shiftL, V.scal, scalL, intR, boolR, threeV, Nat.reduceAdd, Nat.reduceSub, Nat.reduceMul, Nat.reduceLT, Nat.reduceLeDiff, Nat.reduceEqDiff, Nat.reduceBEq, Nat.reduceBNe, Int.reduceBEq, Int.reduceBNe, Int.reduceLT, Int.reduceLE, Int.reduceAdd, Int.reduceSub, Int.reduceNeg, xF, xcallV, xcallC, xcallL, xcallY, xevY, xY_ready, xrange, xG_fn, xR, xA, xcl62, xclk62, xcl71, xclk71, h_model_New, g_model_run_L0_eq k v0 v1]
  all_goals simp -implicitDefEqProofs only [List.map_nil]
def g_model_End (k : Nat) (v0 : (List (Int × List Int))) (v1 : (List (Int × Int × Int))) : Option (List Int) :=
  ob (g_model_run k v0 v1) fun x163 =>
  some (x163.fst)
theorem h_model_End (k : Nat) (v0 : (List (Int × List Int))) (v1 : (List (Int × Int × Int))) : xC (k + 24) none 30 [(.ro (List.map taskV v0)), (.ro (List.map threeV v1))] = ob (g_model_End k v0 v1) fun r => some ((.ro (List.map (intR .i64) r)), []) := by
  rw [xC_eq]
  unfold g_model_End
  simp (maxSteps := 2000000) -implicitDefEqProofs only [xe30, xb30, ↓syP, syA, rtN, pureL, V.pure, nsh, stBk, V.kill, killL, spl, V.shift, shiftL, V.scal, scalL, intR, boolR, threeV, Nat.reduceAdd, Nat.reduceSub, Nat.reduceMul, Nat.reduceLT, Nat.reduceLeDiff, Nat.reduceEqDiff, Nat.reduceBEq, Nat.reduceBNe, Int.reduceBEq, Int.reduceBNe, Int.reduceLT, Int.reduceLE, Int.reduceAdd, Int.reduceSub, Int.reduceNeg, xF, xcallV, xcallC, xcallL, xcallY, xevY, xY_ready, xrange, xG_fn, xR, xA, xcl62, xclk62, xcl71, xclk71, h_model_run]
  all_goals simp -implicitDefEqProofs only [List.map_nil]
def g_model_Accepts (k : Nat) (v0 : (List (Int × List Int))) (v1 : (List (Int × Int × Int))) : Option Bool :=
  ob (g_model_run k v0 v1) fun x167 =>
  bif x167.snd then
   ob (g_forest_May (k + (4 : Nat)) v0) fun x168 =>
   some (x168)
  else
   some (false)
theorem h_model_Accepts (k : Nat) (v0 : (List (Int × List Int))) (v1 : (List (Int × Int × Int))) : xC (k + 24) none 34 [(.ro (List.map taskV v0)), (.ro (List.map threeV v1))] = ob (g_model_Accepts k v0 v1) fun r => some ((.lit (.bool r)), []) := by
  rw [xC_eq]
  unfold g_model_Accepts
  simp (maxSteps := 2000000) -implicitDefEqProofs only [xe34, xb34, xm34_0, xk34_0_ret, ↓syP, syA, rtN, pureL, V.pure, nsh, stBk, V.kill, killL, spl, V.shift, shiftL, V.scal, scalL, intR, boolR, threeV, Nat.reduceAdd, Nat.reduceSub, Nat.reduceMul, Nat.reduceLT, Nat.reduceLeDiff, Nat.reduceEqDiff, Nat.reduceBEq, Nat.reduceBNe, Int.reduceBEq, Int.reduceBNe, Int.reduceLT, Int.reduceLE, Int.reduceAdd, Int.reduceSub, Int.reduceNeg, xF, xcallV, xcallC, xcallL, xcallY, xevY, xY_ready, xrange, xG_fn, xR, xA, xcl62, xclk62, xcl71, xclk71, h_forest_May, h_model_run]
  all_goals simp -implicitDefEqProofs only [List.map_nil]
def g_poacherref21_New (k : Nat) (v0 : (List (Int × List Int))) : Option (List Int) :=
  ob (g_poacherref04_May k v0) fun x172 =>
  bif !x172 then
   some []
  else
   bif decide ((0 : Int) ≤ (↑v0.length : Int) ∧ (↑v0.length : Int) ≤ (9223372036854775807 : Int) ∧ (↑v0.length : Int) * (8 : Int) ≤ (70368744177664 : Int)) then
    some (List.replicate v0.length (0 : Int))
   else
    none
theorem h_poacherref21_New (k : Nat) (v0 : (List (Int × List Int))) : xC (k + 2) none 29 [(.ro (List.map taskV v0))] = ob (g_poacherref21_New k v0) fun r => some ((.ro (List.map (intR .i64) r)), []) := by
  rw [xC_eq]
  unfold g_poacherref21_New
  simp (maxSteps := 2000000) -implicitDefEqProofs only [xe29, xb29, ↓syP, syA, rtN, pureL, V.pure, nsh, stBk, V.kill, killL, spl, V.shift, shiftL, V.scal, scalL, intR, boolR, threeV, Nat.reduceAdd, Nat.reduceSub, Nat.reduceMul, Nat.reduceLT, Nat.reduceLeDiff, Nat.reduceEqDiff, Nat.reduceBEq, Nat.reduceBNe, Int.reduceBEq, Int.reduceBNe, Int.reduceLT, Int.reduceLE, Int.reduceAdd, Int.reduceSub, Int.reduceNeg, xF, xcallV, xcallC, xcallL, xcallY, xevY, xY_ready, xrange, xG_fn, xR, xA, xcl62, xclk62, xcl71, xclk71, h_poacherref04_May]
  all_goals simp -implicitDefEqProofs only [List.map_nil]
def g_poacherref21_fits_L0 (k : Nat) (v0 : (List (Int × List Int))) (v1 : (List Int))  : Nat → Int → Option Bool
  | 0, _ => none
  | n + 1, s181 =>
    bif decide (s181 < (↑v1.length : Int)) then
     ob (idx v1 s181) fun x185 =>
     bif decide (x185 < (0 : Int)) then
      some (false)
     else
      ob (idx v1 s181) fun x186 =>
      bif decide ((3 : Int) < x186) then
       some (false)
      else
       g_poacherref21_fits_L0 k v0 v1  n (IntKind.i64.wrap (s181 + (1 : Int)))
    else
     some (true)
theorem g_poacherref21_fits_L0_eq (k : Nat) (v0 : (List (Int × List Int))) (v1 : (List Int)) : ∀ (n : Nat) (s181 : Int) ⦃s176 : Bool⦄ ⦃s177 : Bool⦄, rt none (itX (xX (xS (k + (1 : Nat))) (65 : Nat) (0 : Nat) (k + (1 : Nat)) false) xl65_0 ((0 : Nat)) (runK (xX (xS (k + (1 : Nat))) (65 : Nat) (0 : Nat) (k + (1 : Nat)) false) (bodyK (xS (k + (1 : Nat))).P Try.f65) xk65_1) n ⟨[V.ro (List.map taskV v0), V.ro (List.map (intR IntKind.i64) v1), uu, uu, V.lit (Value.bool false), V.lit (Value.bool s176), V.lit (Value.int IntKind.i64 s181), V.ro (List.map taskV v0), V.lit (Value.bool s176), V.lit (Value.bool s176), V.lit (Value.bool s177), V.lit (Value.bool false), V.ro (List.map (intR IntKind.i64) v1), V.lit (Value.int IntKind.i64 (↑v1.length : Int)), V.ro (List.map taskV v0), V.lit (Value.int IntKind.i64 (↑v0.length : Int)), V.lit (Value.bool ((↑v1.length : Int) != (↑v0.length : Int))), V.lit (Value.bool ((↑v1.length : Int) != (↑v0.length : Int))), V.junk, V.junk, V.junk, V.junk, V.junk, V.junk, V.junk, V.junk, V.junk, V.junk, V.junk, V.junk, V.junk, V.junk, V.junk, V.junk, V.junk, V.junk], []⟩) = ob (g_poacherref21_fits_L0 k v0 v1  n s181) fun r => some ((.lit (.bool r)), []) := by
  intro n
  induction n with
  | zero => intros; rfl
  | succ n ih =>
    intro s181 s176 s177
    rw [g_poacherref21_fits_L0]
    simp (maxSteps := 2000000) -implicitDefEqProofs only [xe65, xb65, xz65, xm65_0, xj65_1, xm65_2, xk65_0_ret, xk65_1_ret, xk65_2_ret, ↓syP, syA, rtN, pureL, V.pure, nsh, stBk, V.kill, killL, spl, V.shift, shiftL, V.scal, scalL, intR, boolR, threeV, Nat.reduceAdd, Nat.reduceSub, Nat.reduceMul, Nat.reduceLT, Nat.reduceLeDiff, Nat.reduceEqDiff, Nat.reduceBEq, Nat.reduceBNe, Int.reduceBEq, Int.reduceBNe, Int.reduceLT, Int.reduceLE, Int.reduceAdd, Int.reduceSub, Int.reduceNeg, xF, xcallV, xcallC, xcallL, xcallY, xevY, xY_ready, xrange, xG_fn, xR, xA, xcl62, xclk62, xcl71, xclk71, h_poacherref04_May, xr65_0, ih]
    all_goals simp -implicitDefEqProofs only [List.map_nil]
def g_poacherref21_fits (k : Nat) (v0 : (List (Int × List Int))) (v1 : (List Int)) : Option Bool :=
  ob (g_poacherref04_May k v0) fun x187 =>
  bif !x187 then
   some (false)
  else
   bif (↑v1.length : Int) != (↑v0.length : Int) then
    some (false)
   else
    g_poacherref21_fits_L0 k v0 v1 (k + (1 : Nat)) ((0 : Int))
theorem h_poacherref21_fits (k : Nat) (v0 : (List (Int × List Int))) (v1 : (List Int)) : xC (k + 2) none 65 [(.ro (List.map taskV v0)), (.ro (List.map (intR .i64) v1))] = ob (g_poacherref21_fits k v0 v1) fun r => some ((.lit (.bool r)), []) := by
  rw [xC_eq]
  unfold g_poacherref21_fits
  simp (maxSteps := 2000000) -implicitDefEqProofs only [xe65, xb65, xz65, xm65_0, xj65_1, xm65_2, xk65_0_ret, xk65_1_ret, xk65_2_ret, ↓syP, syA, rtN, pureL, V.pure, nsh, stBk, V.kill, killL, spl, V.shift, shiftL, V.scal, scalL, intR, boolR, threeV, Nat.reduceAdd, Nat.reduceSub, Nat.reduceMul, Nat.reduceLT, Nat.reduceLeDiff, Nat.reduceEqDiff, Nat.reduceBEq, Nat.reduceBNe, Int.reduceBEq, Int.reduceBNe, Int.reduceLT, Int.reduceLE, Int.reduceAdd, Int.reduceSub, Int.reduceNeg, xF, xcallV, xcallC, xcallL, xcallY, xevY, xY_ready, xrange, xG_fn, xR, xA, xcl62, xclk62, xcl71, xclk71, h_poacherref04_May, g_poacherref21_fits_L0_eq k v0 v1]
  all_goals simp -implicitDefEqProofs only [List.map_nil]
def g_poacherref21_Calm_L0 (k : Nat) (v0 : (List Int))  : Nat → Int → Option Bool
  | 0, _ => none
  | n + 1, s192 =>
    bif decide (s192 < (↑v0.length : Int)) then
     ob (idx v0 s192) fun x195 =>
     bif x195 == (1 : Int) then
      some (false)
     else
      ob (idx v0 s192) fun x196 =>
      bif x196 == (2 : Int) then
       some (false)
      else
       g_poacherref21_Calm_L0 k v0  n (IntKind.i64.wrap (s192 + (1 : Int)))
    else
     some (true)
theorem g_poacherref21_Calm_L0_eq (k : Nat) (v0 : (List Int)) : ∀ (n : Nat) (s192 : Int), rt none (itX (xX (xS k) (33 : Nat) (0 : Nat) k false) xl33_0 ((0 : Nat)) (runK (xX (xS k) (33 : Nat) (0 : Nat) k false) (bodyK (xS k).P Try.f33) xk33_0) n ⟨[V.ro (List.map (intR IntKind.i64) v0), uu, V.lit (Value.bool false), V.lit (Value.int IntKind.i64 s192), V.junk, V.junk, V.junk, V.junk, V.junk, V.junk, V.junk, V.junk, V.junk, V.junk, V.junk, V.junk, V.junk, V.junk, V.junk, V.junk, V.junk, V.junk], []⟩) = ob (g_poacherref21_Calm_L0 k v0  n s192) fun r => some ((.lit (.bool r)), []) := by
  intro n
  induction n with
  | zero => intros; rfl
  | succ n ih =>
    intro s192
    rw [g_poacherref21_Calm_L0]
    simp (maxSteps := 2000000) -implicitDefEqProofs only [xe33, xb33, xz33, xj33_0, xm33_1, xk33_0_ret, xk33_1_ret, ↓syP, syA, rtN, pureL, V.pure, nsh, stBk, V.kill, killL, spl, V.shift, shiftL, V.scal, scalL, intR, boolR, threeV, Nat.reduceAdd, Nat.reduceSub, Nat.reduceMul, Nat.reduceLT, Nat.reduceLeDiff, Nat.reduceEqDiff, Nat.reduceBEq, Nat.reduceBNe, Int.reduceBEq, Int.reduceBNe, Int.reduceLT, Int.reduceLE, Int.reduceAdd, Int.reduceSub, Int.reduceNeg, xF, xcallV, xcallC, xcallL, xcallY, xevY, xY_ready, xrange, xG_fn, xR, xA, xcl62, xclk62, xcl71, xclk71, xr33_0, ih]
    all_goals simp -implicitDefEqProofs only [List.map_nil]
def g_poacherref21_Calm (k : Nat) (v0 : (List Int)) : Option Bool :=
  g_poacherref21_Calm_L0 k v0 (k) ((0 : Int))
theorem h_poacherref21_Calm (k : Nat) (v0 : (List Int)) : xC (k + 1) none 33 [(.ro (List.map (intR .i64) v0))] = ob (g_poacherref21_Calm k v0) fun r => some ((.lit (.bool r)), []) := by
  rw [xC_eq]
  unfold g_poacherref21_Calm
  simp (maxSteps := 2000000) -implicitDefEqProofs only [xe33, xb33, xz33, xj33_0, xm33_1, xk33_0_ret, xk33_1_ret, ↓syP, syA, rtN, pureL, V.pure, nsh, stBk, V.kill, killL, spl, V.shift, shiftL, V.scal, scalL, intR, boolR, threeV, Nat.reduceAdd, Nat.reduceSub, Nat.reduceMul, Nat.reduceLT, Nat.reduceLeDiff, Nat.reduceEqDiff, Nat.reduceBEq, Nat.reduceBNe, Int.reduceBEq, Int.reduceBNe, Int.reduceLT, Int.reduceLE, Int.reduceAdd, Int.reduceSub, Int.reduceNeg, xF, xcallV, xcallC, xcallL, xcallY, xevY, xY_ready, xrange, xG_fn, xR, xA, xcl62, xclk62, xcl71, xclk71, g_poacherref21_Calm_L0_eq k v0]
  all_goals simp -implicitDefEqProofs only [List.map_nil]
def g_poacherref21_after_L0 (k : Nat) (v0 : (List (Int × List Int))) (v1 : (List Int)) (v2 : (Int × Int × Int))  : Nat → Int → Option Int
  | 0, _ => none
  | n + 1, s218 =>
    ob (idx v0 v2.2.1) fun x230 =>
    bif decide (s218 < (↑x230.snd.length : Int)) then
     ob (idx v0 v2.2.1) fun x231 =>
     ob (idx x231.snd s218) fun x232 =>
     ob (idx v1 x232) fun x233 =>
     bif x233 == (0 : Int) then
      some ((-1 : Int))
     else
      g_poacherref21_after_L0 k v0 v1 v2  n (IntKind.i64.wrap (s218 + (1 : Int)))
    else
     ob (idx v1 v2.2.1) fun x234 =>
     bif x234 == (2 : Int) then
      some ((3 : Int))
     else
      some ((-1 : Int))
theorem g_poacherref21_after_L0_eq (k : Nat) (v0 : (List (Int × List Int))) (v1 : (List Int)) (v2_0 : Int) (v2_1 : Int) (v2_2 : Int) : ∀ (n : Nat) (s218 : Int) ⦃s206 : Int⦄, rt none (itX (xX (xS (k + (2 : Nat))) (66 : Nat) (0 : Nat) (k + (2 : Nat)) false) xl66_0 ((1 : Nat)) (runK (xX (xS (k + (2 : Nat))) (66 : Nat) (0 : Nat) (k + (2 : Nat)) false) (bodyK (xS (k + (2 : Nat))).P Try.f66) xk66_3) n ⟨(V.ro (List.map taskV v0) :: V.ro (List.map (intR IntKind.i64) v1) :: V.agg [V.lit (Value.int IntKind.i64 v2_0), V.lit (Value.int IntKind.i64 v2_1), V.lit (Value.int IntKind.i64 v2_2)] :: uu :: uu :: V.ptr (0 : Nat) (0 : Nat) (0 : Nat) (0 : Nat) :: V.lit (Value.int IntKind.i64 (0 : Int)) :: V.lit (Value.int IntKind.i64 v2_1) :: V.lit (Value.int IntKind.i64 s206) :: V.lit (Value.int IntKind.i64 s218) :: V.ptr (0 : Nat) (0 : Nat) (0 : Nat) (1 : Nat) :: V.lit (Value.int IntKind.i64 v2_1) :: V.ro (List.map taskV v0) :: V.lit (Value.int IntKind.i64 v2_1) :: V.lit (Value.int IntKind.i64 s206) :: V.ptr (0 : Nat) (0 : Nat) (0 : Nat) (0 : Nat) :: V.lit (Value.int IntKind.i64 v2_0) :: V.lit (Value.bool (v2_0 == (0 : Int))) :: V.lit (Value.bool (v2_0 == (0 : Int))) :: uu :: uu :: uu :: uu :: uu :: uu :: uu :: uu :: uu :: V.lit (Value.bool (v2_0 == (1 : Int))) :: V.lit (Value.bool (v2_0 == (1 : Int))) :: uu :: uu :: uu :: uu :: uu :: uu :: uu :: uu :: uu :: V.lit (Value.bool (v2_0 == (3 : Int))) :: V.lit (Value.bool (v2_0 == (3 : Int))) :: uu :: uu :: uu :: uu :: uu :: uu :: uu :: uu :: uu :: uu :: uu :: uu :: uu :: uu :: uu :: uu :: V.lit (Value.bool (v2_0 == (2 : Int))) :: V.lit (Value.bool (v2_0 == (2 : Int))) :: uu :: uu :: uu :: uu :: uu :: V.lit (Value.bool (v2_0 == (4 : Int))) :: V.lit (Value.bool (v2_0 == (4 : Int))) :: V.junk :: V.junk :: V.junk :: V.junk :: V.junk :: V.junk :: V.junk :: V.junk :: V.junk :: V.junk :: V.junk :: V.junk :: V.junk :: V.junk :: V.junk :: V.junk :: V.junk :: V.junk :: V.junk :: V.junk :: V.junk :: V.junk :: uu :: uu :: uu :: uu :: uu :: []), [B.box [V.lit (Value.int IntKind.i64 v2_0), V.lit (Value.int IntKind.i64 v2_1), V.lit (Value.int IntKind.i64 v2_2)]]⟩) = ob (g_poacherref21_after_L0 k v0 v1 (v2_0, v2_1, v2_2)  n s218) fun r => some ((.lit (.int .i64 r)), []) := by
  intro n
  induction n with
  | zero => intros; rfl
  | succ n ih =>
    intro s218 s206
    rw [g_poacherref21_after_L0]
    simp (maxSteps := 2000000) -implicitDefEqProofs only [xe66, xb66, xz66, xm66_0, xm66_1, xm66_2, xj66_3, xm66_4, xk66_0_ret, xk66_1_ret, xk66_2_ret, xk66_3_ret, ↓syP, syA, rtN, pureL, V.pure, nsh, stBk, V.kill, killL, spl, V.shift, shiftL, V.scal, scalL, intR, boolR, threeV, Nat.reduceAdd, Nat.reduceSub, Nat.reduceMul, Nat.reduceLT, Nat.reduceLeDiff, Nat.reduceEqDiff, Nat.reduceBEq, Nat.reduceBNe, Int.reduceBEq, Int.reduceBNe, Int.reduceLT, Int.reduceLE, Int.reduceAdd, Int.reduceSub, Int.reduceNeg, xF, xcallV, xcallC, xcallL, xcallY, xevY, xY_ready, xrange, xG_fn, xR, xA, xcl62, xclk62, xcl71, xclk71, h_poacherref04_Parent, xr66_0, ih]
    all_goals simp -implicitDefEqProofs only [List.map_nil]
def g_poacherref21_after (k : Nat) (v0 : (List (Int × List Int))) (v1 : (List Int)) (v2 : (Int × Int × Int)) : Option Int :=
  ob (g_poacherref04_Parent k v0 v2.2.1) fun x235 =>
  bif v2.1 == (0 : Int) then
   bif x235 == (-1 : Int) then
    ob (idx v1 v2.2.1) fun x236 =>
    bif x236 == (0 : Int) then
     some ((1 : Int))
    else
     some ((-1 : Int))
   else
    some ((-1 : Int))
  else
   bif v2.1 == (1 : Int) then
    bif x235 == (-1 : Int) then
     ob (idx v1 v2.2.1) fun x237 =>
     bif x237 == (0 : Int) then
      some ((0 : Int))
     else
      some ((-1 : Int))
    else
     some ((-1 : Int))
   else
    bif v2.1 == (3 : Int) then
     bif decide ((0 : Int) ≤ x235) then
      ob (idx v1 x235) fun x238 =>
      bif x238 == (2 : Int) then
       ob (idx v1 v2.2.1) fun x239 =>
       bif x239 == (0 : Int) then
        some ((1 : Int))
       else
        some ((-1 : Int))
      else
       some ((-1 : Int))
     else
      some ((-1 : Int))
    else
     bif v2.1 == (2 : Int) then
      ob (idx v1 v2.2.1) fun x240 =>
      bif x240 == (1 : Int) then
       some ((2 : Int))
      else
       some ((-1 : Int))
     else
      bif v2.1 == (4 : Int) then
       g_poacherref21_after_L0 k v0 v1 v2 (k + (2 : Nat)) ((0 : Int))
      else
       some ((-1 : Int))
theorem h_poacherref21_after (k : Nat) (v0 : (List (Int × List Int))) (v1 : (List Int)) (v2_0 : Int) (v2_1 : Int) (v2_2 : Int) : xC (k + 3) none 66 [(.ro (List.map taskV v0)), (.ro (List.map (intR .i64) v1)), (.agg [(.lit (.int .i64 v2_0)), (.lit (.int .i64 v2_1)), (.lit (.int .i64 v2_2))])] = ob (g_poacherref21_after k v0 v1 (v2_0, v2_1, v2_2)) fun r => some ((.lit (.int .i64 r)), []) := by
  rw [xC_eq]
  unfold g_poacherref21_after
  simp (maxSteps := 2000000) -implicitDefEqProofs only [xe66, xb66, xz66, xm66_0, xm66_1, xm66_2, xj66_3, xm66_4, xk66_0_ret, xk66_1_ret, xk66_2_ret, xk66_3_ret, ↓syP, syA, rtN, pureL, V.pure, nsh, stBk, V.kill, killL, spl, V.shift, shiftL, V.scal, scalL, intR, boolR, threeV, Nat.reduceAdd, Nat.reduceSub, Nat.reduceMul, Nat.reduceLT, Nat.reduceLeDiff, Nat.reduceEqDiff, Nat.reduceBEq, Nat.reduceBNe, Int.reduceBEq, Int.reduceBNe, Int.reduceLT, Int.reduceLE, Int.reduceAdd, Int.reduceSub, Int.reduceNeg, xF, xcallV, xcallC, xcallL, xcallY, xevY, xY_ready, xrange, xG_fn, xR, xA, xcl62, xclk62, xcl71, xclk71, h_poacherref04_Parent, g_poacherref21_after_L0_eq k v0 v1 v2_0 v2_1 v2_2]
  all_goals simp -implicitDefEqProofs only [List.map_nil]
def g_poacherref21_Step (k : Nat) (v0 : (List (Int × List Int))) (v1 : (List Int)) (v2 : (Int × Int × Int)) : Option ((List Int) × Bool) :=
  ob (g_poacherref21_fits (k + (1 : Nat)) v0 v1) fun x251 =>
  ob (g_poacherref21_Calm (k + (2 : Nat)) v1) fun x252 =>
  bif !x251 then
   some ((v1), (false))
  else
   bif v2.1 == (5 : Int) then
    some ((v1), (x252))
   else
    bif decide (v2.2.1 < (0 : Int)) then
     some ((v1), (false))
    else
     bif decide ((↑v0.length : Int) ≤ v2.2.1) then
      some ((v1), (false))
     else
      ob (g_poacherref21_after k v0 v1 (v2.1, v2.2.1, v2.2.2)) fun x253 =>
      bif decide (x253 < (0 : Int)) then
       some ((v1), (false))
      else
       bif decide (v1.length * (8 : Nat) ≤ (70368744177664 : Nat)) then
        bif decide ((0 : Int) ≤ v2.2.1 ∧ v2.2.1.toNat < v1.length) then
         ob (v1[v2.2.1.toNat]?) fun x254 =>
         some ((v1.set v2.2.1.toNat x253), (true))
        else
         none
       else
        none
theorem h_poacherref21_Step (k : Nat) (v0 : (List (Int × List Int))) (v1 : (List Int)) (v2_0 : Int) (v2_1 : Int) (v2_2 : Int) : xC (k + 4) none 26 [(.ro (List.map taskV v0)), (.ro (List.map (intR .i64) v1)), (.agg [(.lit (.int .i64 v2_0)), (.lit (.int .i64 v2_1)), (.lit (.int .i64 v2_2))])] = ob (g_poacherref21_Step k v0 v1 (v2_0, v2_1, v2_2)) fun r => some ((.tup [(.ro (List.map (intR .i64) r.1)), (.lit (.bool r.2))]), []) := by
  rw [xC_eq]
  unfold g_poacherref21_Step
  simp (maxSteps := 2000000) -implicitDefEqProofs only [xe26, xb26, xm26_0, xk26_0_ret, ↓syP, syA, rtN, pureL, V.pure, nsh, stBk, V.kill, killL, spl, V.shift, shiftL, V.scal, scalL, intR, boolR, threeV, Nat.reduceAdd, Nat.reduceSub, Nat.reduceMul, Nat.reduceLT, Nat.reduceLeDiff, Nat.reduceEqDiff, Nat.reduceBEq, Nat.reduceBNe, Int.reduceBEq, Int.reduceBNe, Int.reduceLT, Int.reduceLE, Int.reduceAdd, Int.reduceSub, Int.reduceNeg, xF, xcallV, xcallC, xcallL, xcallY, xevY, xY_ready, xrange, xG_fn, xR, xA, xcl62, xclk62, xcl71, xclk71, h_poacherref21_fits, h_poacherref21_Calm, h_poacherref21_after]
  all_goals simp -implicitDefEqProofs only [List.map_nil]
def g_poacherref21_End_L0 (k : Nat) (v0 : (List (Int × List Int))) (v1 : (List (Int × Int × Int)))  : Nat → List Int → Int → Option (List Int)
  | 0, _, _ => none
  | n + 1, s261, s265 =>
    bif decide (s265 < (↑v1.length : Int)) then
     ob (idx v1 s265) fun x272 =>
     ob (g_poacherref21_Step k v0 s261 (x272.fst, x272.snd.fst, x272.snd.snd)) fun x273 =>
     bif !x273.snd then
      some (s261)
     else
      g_poacherref21_End_L0 k v0 v1  n (x273.fst) (IntKind.i64.wrap (s265 + (1 : Int)))
    else
     some (s261)
theorem g_poacherref21_End_L0_eq (k : Nat) (v0 : (List (Int × List Int))) (v1 : (List (Int × Int × Int))) : ∀ (n : Nat) (s261 : List Int) (s265 : Int) ⦃s268 : List Int⦄ ⦃j266 j267 : V⦄, rt none (itX (xX (xS (k + (4 : Nat))) (31 : Nat) (0 : Nat) (k + (4 : Nat)) false) xl31_0 ((1 : Nat)) (runK (xX (xS (k + (4 : Nat))) (31 : Nat) (0 : Nat) (k + (4 : Nat)) false) (bodyK (xS (k + (4 : Nat))).P Try.f31) xk31_0) n ⟨[V.ro (List.map taskV v0), V.ro (List.map threeV v1), uu, uu, V.own (0 : Nat) (0 : Nat) (0 : Nat), V.ro (List.map (intR IntKind.i64) s261), V.lit (Value.int IntKind.i64 s265), j266, j267, V.ro (List.map taskV v0), V.ro (List.map (intR IntKind.i64) s268), V.junk, V.junk, V.junk, V.junk, V.junk, V.junk, V.junk, V.junk, V.junk, V.junk, V.junk, V.junk, V.junk, V.junk, V.junk, V.junk, V.junk, V.junk, V.junk, V.junk, uu], [B.rows (0 : Nat) [] (0 : Nat) true]⟩) = ob (g_poacherref21_End_L0 k v0 v1  n s261 s265) fun r => some ((.ro (List.map (intR .i64) r)), []) := by
  intro n
  induction n with
  | zero => intros; rfl
  | succ n ih =>
    intro s261 s265 s268 j266 j267
    rw [g_poacherref21_End_L0]
    simp (maxSteps := 2000000) -implicitDefEqProofs only [xe31, xb31, xz31, xj31_0, xk31_0_ret, ↓syP, syA, rtN, pureL, V.pure, nsh, stBk, V.kill, killL, spl, V.shift, shiftL, V.scal, scalL, intR, boolR, threeV, Nat.reduceAdd, Nat.reduceSub, Nat.reduceMul, Nat.reduceLT, Nat.reduceLeDiff, Nat.reduceEqDiff, Nat.reduceBEq, Nat.reduceBNe, Int.reduceBEq, Int.reduceBNe, Int.reduceLT, Int.reduceLE, Int.reduceAdd, Int.reduceSub, Int.reduceNeg, xF, xcallV, xcallC, xcallL, xcallY, xevY, xY_ready, xrange, xG_fn, xR, xA, xcl62, xclk62, xcl71, xclk71, h_poacherref21_New, h_poacherref21_Step, xr31_0, ih]
    all_goals simp -implicitDefEqProofs only [List.map_nil]
def g_poacherref21_End (k : Nat) (v0 : (List (Int × List Int))) (v1 : (List (Int × Int × Int))) : Option (List Int) :=
  ob (g_poacherref21_New (k + (2 : Nat)) v0) fun x274 =>
  g_poacherref21_End_L0 k v0 v1 (k + (4 : Nat)) (x274) ((0 : Int))
theorem h_poacherref21_End (k : Nat) (v0 : (List (Int × List Int))) (v1 : (List (Int × Int × Int))) : xC (k + 5) none 31 [(.ro (List.map taskV v0)), (.ro (List.map threeV v1))] = ob (g_poacherref21_End k v0 v1) fun r => some ((.ro (List.map (intR .i64) r)), []) := by
  rw [xC_eq]
  unfold g_poacherref21_End
  simp (maxSteps := 2000000) -implicitDefEqProofs only [xe31, xb31, xz31, xj31_0, xk31_0_ret, ↓syP, syA, rtN, pureL, V.pure, nsh, stBk, V.kill, killL, spl, V.shift, shiftL, V.scal, scalL, intR, boolR, threeV, Nat.reduceAdd, Nat.reduceSub, Nat.reduceMul, Nat.reduceLT, Nat.reduceLeDiff, Nat.reduceEqDiff, Nat.reduceBEq, Nat.reduceBNe, Int.reduceBEq, Int.reduceBNe, Int.reduceLT, Int.reduceLE, Int.reduceAdd, Int.reduceSub, Int.reduceNeg, xF, xcallV, xcallC, xcallL, xcallY, xevY, xY_ready, xrange, xG_fn, xR, xA, xcl62, xclk62, xcl71, xclk71, h_poacherref21_New, g_poacherref21_End_L0_eq k v0 v1]
  all_goals simp -implicitDefEqProofs only [List.map_nil]
def g_poacherref21_Accepts_L0 (k : Nat) (v0 : (List (Int × List Int))) (v1 : (List (Int × Int × Int)))  : Nat → List Int → Int → Option Bool
  | 0, _, _ => none
  | n + 1, s278, s283 =>
    bif decide (s283 < (↑v1.length : Int)) then
     ob (idx v1 s283) fun x291 =>
     ob (g_poacherref21_Step k v0 s278 (x291.fst, x291.snd.fst, x291.snd.snd)) fun x292 =>
     bif !x292.snd then
      some (false)
     else
      g_poacherref21_Accepts_L0 k v0 v1  n (x292.fst) (IntKind.i64.wrap (s283 + (1 : Int)))
    else
     ob (g_poacherref04_May (k + (3 : Nat)) v0) fun x293 =>
     some (x293)
theorem g_poacherref21_Accepts_L0_eq (k : Nat) (v0 : (List (Int × List Int))) (v1 : (List (Int × Int × Int))) : ∀ (n : Nat) (s278 : List Int) (s283 : Int) ⦃s286 : List Int⦄ ⦃j284 j285 : V⦄, rt none (itX (xX (xS (k + (4 : Nat))) (32 : Nat) (0 : Nat) (k + (4 : Nat)) false) xl32_0 ((0 : Nat)) (runK (xX (xS (k + (4 : Nat))) (32 : Nat) (0 : Nat) (k + (4 : Nat)) false) (bodyK (xS (k + (4 : Nat))).P Try.f32) xk32_0) n ⟨[V.ro (List.map taskV v0), V.ro (List.map threeV v1), uu, uu, V.lit (Value.bool false), V.ro (List.map (intR IntKind.i64) s278), V.lit (Value.int IntKind.i64 s283), j284, j285, uu, V.ro (List.map taskV v0), V.ro (List.map (intR IntKind.i64) s286), V.junk, V.junk, V.junk, V.junk, V.junk, V.junk, V.junk, V.junk, V.junk, V.junk, V.junk, V.junk, V.junk, V.junk, V.junk, V.junk, V.junk, V.junk, V.junk, uu, uu, uu], []⟩) = ob (g_poacherref21_Accepts_L0 k v0 v1  n s278 s283) fun r => some ((.lit (.bool r)), []) := by
  intro n
  induction n with
  | zero => intros; rfl
  | succ n ih =>
    intro s278 s283 s286 j284 j285
    rw [g_poacherref21_Accepts_L0]
    simp (maxSteps := 2000000) -implicitDefEqProofs only [xe32, xb32, xz32, xj32_0, xk32_0_ret, ↓syP, syA, rtN, pureL, V.pure, nsh, stBk, V.kill, killL, spl, V.shift, shiftL, V.scal, scalL, intR, boolR, threeV, Nat.reduceAdd, Nat.reduceSub, Nat.reduceMul, Nat.reduceLT, Nat.reduceLeDiff, Nat.reduceEqDiff, Nat.reduceBEq, Nat.reduceBNe, Int.reduceBEq, Int.reduceBNe, Int.reduceLT, Int.reduceLE, Int.reduceAdd, Int.reduceSub, Int.reduceNeg, xF, xcallV, xcallC, xcallL, xcallY, xevY, xY_ready, xrange, xG_fn, xR, xA, xcl62, xclk62, xcl71, xclk71, h_poacherref04_May, h_poacherref21_New, h_poacherref21_Step, xr32_0, ih]
    all_goals simp -implicitDefEqProofs only [List.map_nil]
def g_poacherref21_Accepts (k : Nat) (v0 : (List (Int × List Int))) (v1 : (List (Int × Int × Int))) : Option Bool :=
  ob (g_poacherref21_New (k + (2 : Nat)) v0) fun x294 =>
  g_poacherref21_Accepts_L0 k v0 v1 (k + (4 : Nat)) (x294) ((0 : Int))
theorem h_poacherref21_Accepts (k : Nat) (v0 : (List (Int × List Int))) (v1 : (List (Int × Int × Int))) : xC (k + 5) none 32 [(.ro (List.map taskV v0)), (.ro (List.map threeV v1))] = ob (g_poacherref21_Accepts k v0 v1) fun r => some ((.lit (.bool r)), []) := by
  rw [xC_eq]
  unfold g_poacherref21_Accepts
  simp (maxSteps := 2000000) -implicitDefEqProofs only [xe32, xb32, xz32, xj32_0, xk32_0_ret, ↓syP, syA, rtN, pureL, V.pure, nsh, stBk, V.kill, killL, spl, V.shift, shiftL, V.scal, scalL, intR, boolR, threeV, Nat.reduceAdd, Nat.reduceSub, Nat.reduceMul, Nat.reduceLT, Nat.reduceLeDiff, Nat.reduceEqDiff, Nat.reduceBEq, Nat.reduceBNe, Int.reduceBEq, Int.reduceBNe, Int.reduceLT, Int.reduceLE, Int.reduceAdd, Int.reduceSub, Int.reduceNeg, xF, xcallV, xcallC, xcallL, xcallY, xevY, xY_ready, xrange, xG_fn, xR, xA, xcl62, xclk62, xcl71, xclk71, h_poacherref21_New, g_poacherref21_Accepts_L0_eq k v0 v1]
  all_goals simp -implicitDefEqProofs only [List.map_nil]
end Go.Ab
