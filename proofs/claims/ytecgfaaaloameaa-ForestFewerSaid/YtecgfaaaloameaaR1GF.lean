/- Functions as they are walked: printed by Walk.lean. -/
import Derived.Test.YtecgfaaaloameaaR1Run
import Derived.Test.YtecgfaaaloameaaR1Facts
import Derived.Test.YtecgfaaaloameaaR1Man
import Derived.Test.YtecgfaaaloameaaR1B1
import Derived.Test.YtecgfaaaloameaaR1B2
set_option maxRecDepth 100000
set_option linter.unusedVariables false
set_option linter.unusedSimpArgs false
namespace Go.Ab
open Go.Proofs
def g_poacherlaw04_Few_L0 (k : Nat) (v0 : (List (Int × List Int)))  : Nat → Int → Option Bool
  | 0, _ => none
  | n + 1, s3 =>
    bif decide (s3 < (↑v0.length : Int)) then
     bif decide (s3 ≤ (40 : Int)) then
      ob (idx v0 s3) fun x5 =>
      bif decide ((40 : Int) < (↑x5.snd.length : Int)) then
       some (false)
      else
       g_poacherlaw04_Few_L0 k v0  n (IntKind.i64.wrap (s3 + (1 : Int)))
     else
      some (decide ((↑v0.length : Int) ≤ (40 : Int)))
    else
     some (decide ((↑v0.length : Int) ≤ (40 : Int)))
theorem g_poacherlaw04_Few_L0_eq (k : Nat) (v0 : (List (Int × List Int))) : ∀ (n : Nat) (s3 : Int), rt none (itX (xX (xS k) (24 : Nat) (0 : Nat) k false) xl24_0 ((0 : Nat)) (runK (xX (xS k) (24 : Nat) (0 : Nat) k false) (bodyK (xS k).P Try.f24) xk24_0) n ⟨[V.ro (List.map taskV v0), uu, V.lit (Value.bool false), V.lit (Value.int IntKind.i64 s3), V.junk, V.junk, V.junk, V.junk, V.junk, V.junk, V.junk, V.junk, V.junk, V.junk, V.junk, V.junk, V.junk, V.junk, V.junk, V.junk, V.junk, uu, uu, uu], []⟩) = ob (g_poacherlaw04_Few_L0 k v0  n s3) fun r => some ((.lit (.bool r)), []) := by
  intro n
  induction n with
  | zero => intros; rfl
  | succ n ih =>
    intro s3
    rw [g_poacherlaw04_Few_L0]
    simp (maxSteps := 2000000) -implicitDefEqProofs only [xe24, xb24, xz24, xj24_0, xm24_1, xk24_0_ret, xk24_1_ret, ↓syP, syA, rtN, pureL, V.pure, nsh, stBk, V.kill, killL, spl, V.shift, shiftL, V.scal, scalL, intR, boolR, threeV, Nat.reduceAdd, Nat.reduceSub, Nat.reduceMul, Nat.reduceLT, Nat.reduceLeDiff, Nat.reduceEqDiff, Nat.reduceBEq, Nat.reduceBNe, Int.reduceBEq, Int.reduceBNe, Int.reduceLT, Int.reduceLE, Int.reduceAdd, Int.reduceSub, Int.reduceNeg, xF, xcallV, xcallC, xcallL, xcallY, xevY, xY_ready, xrange, xG_fn, xR, xA, xcl62, xclk62, xcl71, xclk71, xr24_0, ih]
    all_goals simp -implicitDefEqProofs only [List.map_nil]
def g_poacherlaw04_Few (k : Nat) (v0 : (List (Int × List Int))) : Option Bool :=
  g_poacherlaw04_Few_L0 k v0 (k) ((0 : Int))
theorem h_poacherlaw04_Few (k : Nat) (v0 : (List (Int × List Int))) : xC (k + 1) none 24 [(.ro (List.map taskV v0))] = ob (g_poacherlaw04_Few k v0) fun r => some ((.lit (.bool r)), []) := by
  rw [xC_eq]
  unfold g_poacherlaw04_Few
  simp (maxSteps := 2000000) -implicitDefEqProofs only [xe24, xb24, xz24, xj24_0, xm24_1, xk24_0_ret, xk24_1_ret, ↓syP, syA, rtN, pureL, V.pure, nsh, stBk, V.kill, killL, spl, V.shift, shiftL, V.scal, scalL, intR, boolR, threeV, Nat.reduceAdd, Nat.reduceSub, Nat.reduceMul, Nat.reduceLT, Nat.reduceLeDiff, Nat.reduceEqDiff, Nat.reduceBEq, Nat.reduceBNe, Int.reduceBEq, Int.reduceBNe, Int.reduceLT, Int.reduceLE, Int.reduceAdd, Int.reduceSub, Int.reduceNeg, xF, xcallV, xcallC, xcallL, xcallY, xevY, xY_ready, xrange, xG_fn, xR, xA, xcl62, xclk62, xcl71, xclk71, g_poacherlaw04_Few_L0_eq k v0]
  all_goals simp -implicitDefEqProofs only [List.map_nil]
def g_poacherref04_Ints_L0 (k : Nat) (v0 : (List Int)) (v1 : (List Int))  : Nat → Int → Option Bool
  | 0, _ => none
  | n + 1, s9 =>
    bif decide (s9 < (↑v0.length : Int)) then
     ob (idx v0 s9) fun x12 =>
     ob (idx v1 s9) fun x13 =>
     bif x12 != x13 then
      some (false)
     else
      g_poacherref04_Ints_L0 k v0 v1  n (IntKind.i64.wrap (s9 + (1 : Int)))
    else
     some (true)
theorem g_poacherref04_Ints_L0_eq (k : Nat) (v0 : (List Int)) (v1 : (List Int)) : ∀ (n : Nat) (s9 : Int), rt none (itX (xX (xS k) (27 : Nat) (0 : Nat) k false) xl27_0 ((0 : Nat)) (runK (xX (xS k) (27 : Nat) (0 : Nat) k false) (bodyK (xS k).P Try.f27) xk27_0) n ⟨[V.ro (List.map (intR IntKind.i64) v0), V.ro (List.map (intR IntKind.i64) v1), uu, uu, V.lit (Value.bool false), V.lit (Value.int IntKind.i64 s9), V.ro (List.map (intR IntKind.i64) v0), V.lit (Value.int IntKind.i64 (↑v0.length : Int)), V.ro (List.map (intR IntKind.i64) v1), V.lit (Value.int IntKind.i64 (↑v1.length : Int)), V.lit (Value.bool ((↑v0.length : Int) != (↑v1.length : Int))), V.junk, V.junk, V.junk, V.junk, V.junk, V.junk, V.junk, V.junk, V.junk, V.junk, V.junk, V.junk, V.junk, V.junk, V.junk], []⟩) = ob (g_poacherref04_Ints_L0 k v0 v1  n s9) fun r => some ((.lit (.bool r)), []) := by
  intro n
  induction n with
  | zero => intros; rfl
  | succ n ih =>
    intro s9
    rw [g_poacherref04_Ints_L0]
    simp (maxSteps := 2000000) -implicitDefEqProofs only [xe27, xb27, xz27, xj27_0, xk27_0_ret, ↓syP, syA, rtN, pureL, V.pure, nsh, stBk, V.kill, killL, spl, V.shift, shiftL, V.scal, scalL, intR, boolR, threeV, Nat.reduceAdd, Nat.reduceSub, Nat.reduceMul, Nat.reduceLT, Nat.reduceLeDiff, Nat.reduceEqDiff, Nat.reduceBEq, Nat.reduceBNe, Int.reduceBEq, Int.reduceBNe, Int.reduceLT, Int.reduceLE, Int.reduceAdd, Int.reduceSub, Int.reduceNeg, xF, xcallV, xcallC, xcallL, xcallY, xevY, xY_ready, xrange, xG_fn, xR, xA, xcl62, xclk62, xcl71, xclk71, xr27_0, ih]
    all_goals simp -implicitDefEqProofs only [List.map_nil]
def g_poacherref04_Ints (k : Nat) (v0 : (List Int)) (v1 : (List Int)) : Option Bool :=
  bif (↑v0.length : Int) != (↑v1.length : Int) then
   some (false)
  else
   g_poacherref04_Ints_L0 k v0 v1 (k) ((0 : Int))
theorem h_poacherref04_Ints (k : Nat) (v0 : (List Int)) (v1 : (List Int)) : xC (k + 1) none 27 [(.ro (List.map (intR .i64) v0)), (.ro (List.map (intR .i64) v1))] = ob (g_poacherref04_Ints k v0 v1) fun r => some ((.lit (.bool r)), []) := by
  rw [xC_eq]
  unfold g_poacherref04_Ints
  simp (maxSteps := 2000000) -implicitDefEqProofs only [xe27, xb27, xz27, xj27_0, xk27_0_ret, ↓syP, syA, rtN, pureL, V.pure, nsh, stBk, V.kill, killL, spl, V.shift, shiftL, V.scal, scalL, intR, boolR, threeV, Nat.reduceAdd, Nat.reduceSub, Nat.reduceMul, Nat.reduceLT, Nat.reduceLeDiff, Nat.reduceEqDiff, Nat.reduceBEq, Nat.reduceBNe, Int.reduceBEq, Int.reduceBNe, Int.reduceLT, Int.reduceLE, Int.reduceAdd, Int.reduceSub, Int.reduceNeg, xF, xcallV, xcallC, xcallL, xcallY, xevY, xY_ready, xrange, xG_fn, xR, xA, xcl62, xclk62, xcl71, xclk71, g_poacherref04_Ints_L0_eq k v0 v1]
  all_goals simp -implicitDefEqProofs only [List.map_nil]
def g_forest_May_1 (v0 : (Int × List Int)) : Option Bool :=
  bif decide (v0.1 < (0 : Int)) then
   some (true)
  else
   some (decide ((20 : Int) < v0.1))
theorem h_forest_May_1 (k : Nat) (v0_0 : Int) (v0_1 : (List Int)) : xC (k + 1) none 78 [(.agg [(.lit (.int .i64 v0_0)), (.ro (List.map (intR .i64) v0_1))])] = ob (g_forest_May_1 (v0_0, v0_1)) fun r => some ((.lit (.bool r)), []) := by
  rw [xC_eq]
  unfold g_forest_May_1
  simp (maxSteps := 2000000) -implicitDefEqProofs only [xe78, xb78, xm78_0, xk78_0_ret, ↓syP, syA, rtN, pureL, V.pure, nsh, stBk, V.kill, killL, spl, V.shift, shiftL, V.scal, scalL, intR, boolR, threeV, Nat.reduceAdd, Nat.reduceSub, Nat.reduceMul, Nat.reduceLT, Nat.reduceLeDiff, Nat.reduceEqDiff, Nat.reduceBEq, Nat.reduceBNe, Int.reduceBEq, Int.reduceBNe, Int.reduceLT, Int.reduceLE, Int.reduceAdd, Int.reduceSub, Int.reduceNeg, xF, xcallV, xcallC, xcallL, xcallY, xevY, xY_ready, xrange, xG_fn, xR, xA, xcl62, xclk62, xcl71, xclk71]
  all_goals simp -implicitDefEqProofs only [List.map_nil]
def g_slices_IndexFunc_apiTask_forest_May_1_L0 (k : Nat) (v0 : (List (Int × List Int)))  : Nat → Int → Option Int
  | 0, _ => none
  | n + 1, s19 =>
    bif decide (s19 < (↑v0.length : Int)) then
     ob (idx v0 s19) fun x22 =>
     ob (g_forest_May_1 (x22.fst, x22.snd)) fun x23 =>
     bif x23 then
      some (s19)
     else
      g_slices_IndexFunc_apiTask_forest_May_1_L0 k v0  n (IntKind.i64.wrap (s19 + (1 : Int)))
    else
     some ((-1 : Int))
theorem g_slices_IndexFunc_apiTask_forest_May_1_L0_eq (k : Nat) (v0 : (List (Int × List Int))) : ∀ (n : Nat) (s19 : Int) ⦃j18 : V⦄, rt none (itX (xX (xS (k + (8 : Nat))) (98 : Nat) (0 : Nat) (k + (8 : Nat)) false) xl98_0 ((0 : Nat)) (runK (xX (xS (k + (8 : Nat))) (98 : Nat) (0 : Nat) (k + (8 : Nat)) false) (bodyK (xS (k + (8 : Nat))).P Try.f98) xk98_0) n ⟨[V.ro (List.map taskV v0), V.fn (Fn.func (78 : FuncId)) [] [], uu, uu, V.lit (Value.int IntKind.i64 (0 : Int)), j18, V.ro (List.map taskV v0), V.lit (Value.int IntKind.i64 (↑v0.length : Int)), V.lit (Value.int IntKind.i64 s19), V.junk, V.junk, V.junk, V.junk, V.junk, V.junk, V.junk, V.junk, V.junk, V.junk], []⟩) = ob (g_slices_IndexFunc_apiTask_forest_May_1_L0 k v0  n s19) fun r => some ((.lit (.int .i64 r)), []) := by
  intro n
  induction n with
  | zero => intros; rfl
  | succ n ih =>
    intro s19 j18
    rw [g_slices_IndexFunc_apiTask_forest_May_1_L0]
    simp (maxSteps := 2000000) -implicitDefEqProofs only [xe98, xb98, xz98, xj98_0, xk98_0_ret, ↓syP, syA, rtN, pureL, V.pure, nsh, stBk, V.kill, killL, spl, V.shift, shiftL, V.scal, scalL, intR, boolR, threeV, Nat.reduceAdd, Nat.reduceSub, Nat.reduceMul, Nat.reduceLT, Nat.reduceLeDiff, Nat.reduceEqDiff, Nat.reduceBEq, Nat.reduceBNe, Int.reduceBEq, Int.reduceBNe, Int.reduceLT, Int.reduceLE, Int.reduceAdd, Int.reduceSub, Int.reduceNeg, xF, xcallV, xcallC, xcallL, xcallY, xevY, xY_ready, xrange, xG_fn, xR, xA, xcl62, xclk62, xcl71, xclk71, h_forest_May_1, xr98_0, ih]
    all_goals simp -implicitDefEqProofs only [List.map_nil]
def g_slices_IndexFunc_apiTask_forest_May_1 (k : Nat) (v0 : (List (Int × List Int))) : Option Int :=
  g_slices_IndexFunc_apiTask_forest_May_1_L0 k v0 (k + (8 : Nat)) ((0 : Int))
theorem h_slices_IndexFunc_apiTask_forest_May_1 (k : Nat) (v0 : (List (Int × List Int))) : xC (k + 9) none 98 [(.ro (List.map taskV v0)), V.fn (Fn.func (78 : FuncId)) [] []] = ob (g_slices_IndexFunc_apiTask_forest_May_1 k v0) fun r => some ((.lit (.int .i64 r)), []) := by
  rw [xC_eq]
  unfold g_slices_IndexFunc_apiTask_forest_May_1
  simp (maxSteps := 2000000) -implicitDefEqProofs only [xe98, xb98, xz98, xj98_0, xk98_0_ret, ↓syP, syA, rtN, pureL, V.pure, nsh, stBk, V.kill, killL, spl, V.shift, shiftL, V.scal, scalL, intR, boolR, threeV, Nat.reduceAdd, Nat.reduceSub, Nat.reduceMul, Nat.reduceLT, Nat.reduceLeDiff, Nat.reduceEqDiff, Nat.reduceBEq, Nat.reduceBNe, Int.reduceBEq, Int.reduceBNe, Int.reduceLT, Int.reduceLE, Int.reduceAdd, Int.reduceSub, Int.reduceNeg, xF, xcallV, xcallC, xcallL, xcallY, xevY, xY_ready, xrange, xG_fn, xR, xA, xcl62, xclk62, xcl71, xclk71, g_slices_IndexFunc_apiTask_forest_May_1_L0_eq k v0]
  all_goals simp -implicitDefEqProofs only [List.map_nil]
def g_slices_ContainsFunc_apiTask_forest_May_1 (k : Nat) (v0 : (List (Int × List Int))) : Option Bool :=
  ob (g_slices_IndexFunc_apiTask_forest_May_1 (k + (8 : Nat)) v0) fun x25 =>
  some (decide ((0 : Int) ≤ x25))
theorem h_slices_ContainsFunc_apiTask_forest_May_1 (k : Nat) (v0 : (List (Int × List Int))) : xC (k + 18) none 77 [(.ro (List.map taskV v0)), V.fn (Fn.func (78 : FuncId)) [] []] = ob (g_slices_ContainsFunc_apiTask_forest_May_1 k v0) fun r => some ((.lit (.bool r)), []) := by
  rw [xC_eq]
  unfold g_slices_ContainsFunc_apiTask_forest_May_1
  simp (maxSteps := 2000000) -implicitDefEqProofs only [xe77, xb77, xe98, xb98, xz98, xj98_0, xk98_0_ret, ↓syP, syA, rtN, pureL, V.pure, nsh, stBk, V.kill, killL, spl, V.shift, shiftL, V.scal, scalL, intR, boolR, threeV, Nat.reduceAdd, Nat.reduceSub, Nat.reduceMul, Nat.reduceLT, Nat.reduceLeDiff, Nat.reduceEqDiff, Nat.reduceBEq, Nat.reduceBNe, Int.reduceBEq, Int.reduceBNe, Int.reduceLT, Int.reduceLE, Int.reduceAdd, Int.reduceSub, Int.reduceNeg, xF, xcallV, xcallC, xcallL, xcallY, xevY, xY_ready, xrange, xG_fn, xR, xA, xcl62, xclk62, xcl71, xclk71, h_slices_IndexFunc_apiTask_forest_May_1]
  all_goals simp -implicitDefEqProofs only [List.map_nil]
def g_forest_May_L1 (k : Nat) (v0 : (List (Int × List Int))) (o0 : Int → List Bool → Option Bool) : Nat → List Int → Int → Int → List Bool → Int → Option Bool
  | 0, _, _, _, _, _ => none
  | n + 1, s34, s35, s43, s44, s53 =>
    bif decide (s43 < s35) then
     ob (idx s34 s43) fun x63 =>
     bif decide (x63 ≤ s53) then
      some (false)
     else
      bif decide ((↑v0.length : Int) ≤ x63) then
       some (false)
      else
       bif decide ((0 : Int) ≤ x63 ∧ x63.toNat < v0.length) then
        ob (s44[x63.toNat]?) fun x64 =>
        bif x64 then
         some (false)
        else
         bif decide ((0 : Int) ≤ x63 ∧ x63.toNat < v0.length) then
          ob (s44[x63.toNat]?) fun x65 =>
          g_forest_May_L1 k v0 o0 n (s34) (s35) (IntKind.i64.wrap (s43 + (1 : Int))) (s44.set x63.toNat true) (s53)
         else
          none
       else
        none
    else
     o0 (IntKind.i64.wrap (s53 + (1 : Int))) (s44)
theorem g_forest_May_L1_eq (k : Nat) (v0 : (List (Int × List Int))) (n28 : Nat) (o0 : Int → List Bool → Option Bool) (ho0 : ∀ (s47 : Int) (s56 : List Bool) ⦃s29 : Bool⦄ ⦃j45 j46 j55 : V⦄, rt none (bq (itX (xX (xS (k + (17 : Nat))) (93 : Nat) (0 : Nat) (k + (17 : Nat)) false) xl93_0 ((7 : Nat)) (runK (xX (xS (k + (17 : Nat))) (93 : Nat) (0 : Nat) (k + (17 : Nat)) false) (bodyK (xS (k + (17 : Nat))).P Try.f93) xk93_0) n28 ⟨[V.yld (6 : Nat), V.ptr (5 : Nat) (0 : Nat) (0 : Nat) (0 : Nat), uu, j45, j46, uu, j55, V.ro (List.map taskV v0), V.lit (Value.int IntKind.i64 (↑v0.length : Int)), V.lit (Value.int IntKind.i64 s47), V.junk, V.junk, V.junk, V.junk, V.junk, V.junk, V.junk, V.junk, V.junk, V.junk, V.junk, V.junk, V.junk, V.junk, V.junk, V.junk, V.junk, V.junk], [B.box [V.ro (List.map taskV v0)], B.box [V.lit (Value.bool false)], B.rows (1 : Nat) (List.map boolR s56) (0 : Nat) true, B.rows (0 : Nat) [] (0 : Nat) true, B.box [V.own (2 : Nat) (0 : Nat) v0.length], B.box [V.ro (List.map taskV v0)], B.loop (Lp.mk LoopState.ready none (50 : Nat) [V.ro (List.map taskV v0), V.ptr (0 : Nat) (0 : Nat) (0 : Nat) (0 : Nat), V.ptr (1 : Nat) (0 : Nat) (0 : Nat) (0 : Nat), V.ptr (4 : Nat) (0 : Nat) (0 : Nat) (0 : Nat), uu, uu, V.ro (List.map taskV v0), V.lit (Value.int IntKind.i64 (↑v0.length : Int)), V.lit (Value.bool (decide ((30 : Int) < (↑v0.length : Int)))), V.lit (Value.bool false), V.ro (List.map taskV v0), V.lit (Value.bool s29), V.lit (Value.bool s29), V.ro (List.map taskV v0), V.lit (Value.int IntKind.i64 (↑v0.length : Int)), V.own (2 : Nat) (0 : Nat) v0.length, V.ro (List.map taskV v0), V.fn (Fn.func (93 : FuncId)) [] [V.ptr (5 : Nat) (0 : Nat) (0 : Nat) (0 : Nat)], uu, uu, uu, uu, uu, uu, uu, uu, uu, uu, uu, uu, uu, uu, uu, uu, uu, uu, uu, uu] [(18 : Tmp), (19 : Tmp)] xl50_0 xl50_1)]⟩) (rfK (runK (xX (xS (k + (18 : Nat))) (50 : Nat) (0 : Nat) (k + (18 : Nat)) false) (bodyK (xS (k + (18 : Nat))).P Try.f50) xk50_1) [V.ro (List.map taskV v0), V.ptr (0 : Nat) (0 : Nat) (0 : Nat) (0 : Nat), V.ptr (1 : Nat) (0 : Nat) (0 : Nat) (0 : Nat), V.ptr (4 : Nat) (0 : Nat) (0 : Nat) (0 : Nat), uu, uu, V.ro (List.map taskV v0), V.lit (Value.int IntKind.i64 (↑v0.length : Int)), V.lit (Value.bool (decide ((30 : Int) < (↑v0.length : Int)))), V.lit (Value.bool false), V.ro (List.map taskV v0), V.lit (Value.bool s29), V.lit (Value.bool s29), V.ro (List.map taskV v0), V.lit (Value.int IntKind.i64 (↑v0.length : Int)), V.own (2 : Nat) (0 : Nat) v0.length, V.ro (List.map taskV v0), V.fn (Fn.func (93 : FuncId)) [] [V.ptr (5 : Nat) (0 : Nat) (0 : Nat) (0 : Nat)], uu, uu, uu, uu, uu, uu, uu, uu, uu, uu, uu, uu, uu, uu, uu, uu, uu, uu, uu, uu] ((6 : Nat)))) = ob (o0 s47 s56) fun r => some ((.lit (.bool r)), [])) : ∀ (n : Nat) (s34 : List Int) (s35 : Int) (s43 : Int) (s44 : List Bool) (s53 : Int) ⦃s33 : Int⦄ ⦃s36 : Bool⦄ ⦃s54 : Bool⦄ ⦃j42 : V⦄, rt none (bq (itX (xX (xS (k + (17 : Nat))) (93 : Nat) (0 : Nat) (k + (17 : Nat)) false) xl93_1 ((9 : Nat)) (runK (xX (xS (k + (17 : Nat))) (93 : Nat) (0 : Nat) (k + (17 : Nat)) false) (nextK (xX (xS (k + (17 : Nat))) (93 : Nat) (0 : Nat) (k + (17 : Nat)) false) xl93_0 (7 : Nat) (runK (xX (xS (k + (17 : Nat))) (93 : Nat) (0 : Nat) (k + (17 : Nat)) false) (bodyK (xS (k + (17 : Nat))).P Try.f93) xk93_0) n28) xk93_1) n ⟨[V.yld (6 : Nat), V.ptr (5 : Nat) (0 : Nat) (0 : Nat) (0 : Nat), uu, V.lit (Value.int IntKind.i64 s53), V.ptr (8 : Nat) (0 : Nat) (0 : Nat) (0 : Nat), uu, j42, V.ro (List.map taskV v0), V.lit (Value.int IntKind.i64 (↑v0.length : Int)), V.lit (Value.int IntKind.i64 s53), V.lit (Value.bool s54), V.lit (Value.int IntKind.i64 s53), V.rp [V.lit (Value.int IntKind.i64 s33), V.ro (List.map (intR IntKind.i64) s34)], V.agg [V.lit (Value.int IntKind.i64 s33), V.ro (List.map (intR IntKind.i64) s34)], V.ptr (8 : Nat) (0 : Nat) (0 : Nat) (1 : Nat), V.ro (List.map (intR IntKind.i64) s34), V.lit (Value.int IntKind.i64 s35), V.lit (Value.int IntKind.i64 s43), V.junk, V.junk, V.junk, V.junk, V.junk, V.junk, V.junk, V.junk, V.junk, V.junk], [B.box [V.ro (List.map taskV v0)], B.box [V.lit (Value.bool false)], B.rows (1 : Nat) (List.map boolR s44) (0 : Nat) true, B.rows (0 : Nat) [] (0 : Nat) true, B.box [V.own (2 : Nat) (0 : Nat) v0.length], B.box [V.ro (List.map taskV v0)], B.loop (Lp.mk LoopState.ready none (50 : Nat) [V.ro (List.map taskV v0), V.ptr (0 : Nat) (0 : Nat) (0 : Nat) (0 : Nat), V.ptr (1 : Nat) (0 : Nat) (0 : Nat) (0 : Nat), V.ptr (4 : Nat) (0 : Nat) (0 : Nat) (0 : Nat), uu, uu, V.ro (List.map taskV v0), V.lit (Value.int IntKind.i64 (↑v0.length : Int)), V.lit (Value.bool (decide ((30 : Int) < (↑v0.length : Int)))), V.lit (Value.bool false), V.ro (List.map taskV v0), V.lit (Value.bool s36), V.lit (Value.bool s36), V.ro (List.map taskV v0), V.lit (Value.int IntKind.i64 (↑v0.length : Int)), V.own (2 : Nat) (0 : Nat) v0.length, V.ro (List.map taskV v0), V.fn (Fn.func (93 : FuncId)) [] [V.ptr (5 : Nat) (0 : Nat) (0 : Nat) (0 : Nat)], uu, uu, uu, uu, uu, uu, uu, uu, uu, uu, uu, uu, uu, uu, uu, uu, uu, uu, uu, uu] [(18 : Tmp), (19 : Tmp)] xl50_0 xl50_1), B.rows (0 : Nat) [] (0 : Nat) true, B.box [V.lit (Value.int IntKind.i64 s33), V.ro (List.map (intR IntKind.i64) s34)]]⟩) (rfK (runK (xX (xS (k + (18 : Nat))) (50 : Nat) (0 : Nat) (k + (18 : Nat)) false) (bodyK (xS (k + (18 : Nat))).P Try.f50) xk50_1) [V.ro (List.map taskV v0), V.ptr (0 : Nat) (0 : Nat) (0 : Nat) (0 : Nat), V.ptr (1 : Nat) (0 : Nat) (0 : Nat) (0 : Nat), V.ptr (4 : Nat) (0 : Nat) (0 : Nat) (0 : Nat), uu, uu, V.ro (List.map taskV v0), V.lit (Value.int IntKind.i64 (↑v0.length : Int)), V.lit (Value.bool (decide ((30 : Int) < (↑v0.length : Int)))), V.lit (Value.bool false), V.ro (List.map taskV v0), V.lit (Value.bool s36), V.lit (Value.bool s36), V.ro (List.map taskV v0), V.lit (Value.int IntKind.i64 (↑v0.length : Int)), V.own (2 : Nat) (0 : Nat) v0.length, V.ro (List.map taskV v0), V.fn (Fn.func (93 : FuncId)) [] [V.ptr (5 : Nat) (0 : Nat) (0 : Nat) (0 : Nat)], uu, uu, uu, uu, uu, uu, uu, uu, uu, uu, uu, uu, uu, uu, uu, uu, uu, uu, uu, uu] ((6 : Nat)))) = ob (g_forest_May_L1 k v0 o0 n s34 s35 s43 s44 s53) fun r => some ((.lit (.bool r)), []) := by
  intro n
  induction n with
  | zero => intros; rfl
  | succ n ih =>
    intro s34 s35 s43 s44 s53 s33 s36 s54 j42
    rw [g_forest_May_L1]
    simp (maxSteps := 2000000) -implicitDefEqProofs only [xe50, xb50, xz50, xm50_0, xj50_1, xq50_1_1_1_0_1_0_1, xq50_1_1_1_0_1_0_0, xm50_2, xm50_3, xk50_0_ret, xk50_1_ret, xk50_2_ret, xq50_0_eq, xe70, xb70, xC_eq (g := 70), xe77, xb77, xe78, xb78, xm78_0, xk78_0_ret, xe93, xb93, xz93, xj93_0, xj93_1, xk93_0_ret, xk93_1_ret, xe98, xb98, xz98, xj98_0, xk98_0_ret, ↓syP, syA, rtN, pureL, V.pure, nsh, stBk, V.kill, killL, spl, V.shift, shiftL, V.scal, scalL, intR, boolR, threeV, Nat.reduceAdd, Nat.reduceSub, Nat.reduceMul, Nat.reduceLT, Nat.reduceLeDiff, Nat.reduceEqDiff, Nat.reduceBEq, Nat.reduceBNe, Int.reduceBEq, Int.reduceBNe, Int.reduceLT, Int.reduceLE, Int.reduceAdd, Int.reduceSub, Int.reduceNeg, xF, xcallV, xcallC, xcallL, xcallY, xevY, xY_ready, xrange, xG_fn, xR, xA, xcl62, xclk62, xcl71, xclk71, h_slices_ContainsFunc_apiTask_forest_May_1, xr93_1, ih, ho0]
    all_goals simp -implicitDefEqProofs only [List.map_nil]
def g_forest_May_L0 (k : Nat) (v0 : (List (Int × List Int)))  : Nat → Int → List Bool → Option Bool
  | 0, _, _ => none
  | n + 1, s47, s56 =>
    bif decide (s47 < (↑v0.length : Int)) then
     ob (idx v0 s47) fun x62 =>
     g_forest_May_L1 k v0 (fun s47 s56 => g_forest_May_L0 k v0  n s47 s56) (k + (17 : Nat)) (x62.snd) ((↑x62.snd.length : Int)) ((0 : Int)) (s56) (s47)
    else
     some (true)
theorem g_forest_May_L0_eq (k : Nat) (v0 : (List (Int × List Int))) : ∀ (n : Nat) (s47 : Int) (s56 : List Bool) ⦃s29 : Bool⦄ ⦃j45 j46 j55 : V⦄, rt none (bq (itX (xX (xS (k + (17 : Nat))) (93 : Nat) (0 : Nat) (k + (17 : Nat)) false) xl93_0 ((7 : Nat)) (runK (xX (xS (k + (17 : Nat))) (93 : Nat) (0 : Nat) (k + (17 : Nat)) false) (bodyK (xS (k + (17 : Nat))).P Try.f93) xk93_0) n ⟨[V.yld (6 : Nat), V.ptr (5 : Nat) (0 : Nat) (0 : Nat) (0 : Nat), uu, j45, j46, uu, j55, V.ro (List.map taskV v0), V.lit (Value.int IntKind.i64 (↑v0.length : Int)), V.lit (Value.int IntKind.i64 s47), V.junk, V.junk, V.junk, V.junk, V.junk, V.junk, V.junk, V.junk, V.junk, V.junk, V.junk, V.junk, V.junk, V.junk, V.junk, V.junk, V.junk, V.junk], [B.box [V.ro (List.map taskV v0)], B.box [V.lit (Value.bool false)], B.rows (1 : Nat) (List.map boolR s56) (0 : Nat) true, B.rows (0 : Nat) [] (0 : Nat) true, B.box [V.own (2 : Nat) (0 : Nat) v0.length], B.box [V.ro (List.map taskV v0)], B.loop (Lp.mk LoopState.ready none (50 : Nat) [V.ro (List.map taskV v0), V.ptr (0 : Nat) (0 : Nat) (0 : Nat) (0 : Nat), V.ptr (1 : Nat) (0 : Nat) (0 : Nat) (0 : Nat), V.ptr (4 : Nat) (0 : Nat) (0 : Nat) (0 : Nat), uu, uu, V.ro (List.map taskV v0), V.lit (Value.int IntKind.i64 (↑v0.length : Int)), V.lit (Value.bool (decide ((30 : Int) < (↑v0.length : Int)))), V.lit (Value.bool false), V.ro (List.map taskV v0), V.lit (Value.bool s29), V.lit (Value.bool s29), V.ro (List.map taskV v0), V.lit (Value.int IntKind.i64 (↑v0.length : Int)), V.own (2 : Nat) (0 : Nat) v0.length, V.ro (List.map taskV v0), V.fn (Fn.func (93 : FuncId)) [] [V.ptr (5 : Nat) (0 : Nat) (0 : Nat) (0 : Nat)], uu, uu, uu, uu, uu, uu, uu, uu, uu, uu, uu, uu, uu, uu, uu, uu, uu, uu, uu, uu] [(18 : Tmp), (19 : Tmp)] xl50_0 xl50_1)]⟩) (rfK (runK (xX (xS (k + (18 : Nat))) (50 : Nat) (0 : Nat) (k + (18 : Nat)) false) (bodyK (xS (k + (18 : Nat))).P Try.f50) xk50_1) [V.ro (List.map taskV v0), V.ptr (0 : Nat) (0 : Nat) (0 : Nat) (0 : Nat), V.ptr (1 : Nat) (0 : Nat) (0 : Nat) (0 : Nat), V.ptr (4 : Nat) (0 : Nat) (0 : Nat) (0 : Nat), uu, uu, V.ro (List.map taskV v0), V.lit (Value.int IntKind.i64 (↑v0.length : Int)), V.lit (Value.bool (decide ((30 : Int) < (↑v0.length : Int)))), V.lit (Value.bool false), V.ro (List.map taskV v0), V.lit (Value.bool s29), V.lit (Value.bool s29), V.ro (List.map taskV v0), V.lit (Value.int IntKind.i64 (↑v0.length : Int)), V.own (2 : Nat) (0 : Nat) v0.length, V.ro (List.map taskV v0), V.fn (Fn.func (93 : FuncId)) [] [V.ptr (5 : Nat) (0 : Nat) (0 : Nat) (0 : Nat)], uu, uu, uu, uu, uu, uu, uu, uu, uu, uu, uu, uu, uu, uu, uu, uu, uu, uu, uu, uu] ((6 : Nat)))) = ob (g_forest_May_L0 k v0  n s47 s56) fun r => some ((.lit (.bool r)), []) := by
  intro n
  induction n with
  | zero => intros; rfl
  | succ n ih =>
    intro s47 s56 s29 j45 j46 j55
    rw [g_forest_May_L0]
    simp (maxSteps := 2000000) -implicitDefEqProofs only [xe50, xb50, xz50, xm50_0, xj50_1, xq50_1_1_1_0_1_0_1, xq50_1_1_1_0_1_0_0, xm50_2, xm50_3, xk50_0_ret, xk50_1_ret, xk50_2_ret, xq50_0_eq, xe70, xb70, xC_eq (g := 70), xe77, xb77, xe78, xb78, xm78_0, xk78_0_ret, xe93, xb93, xz93, xj93_0, xj93_1, xk93_0_ret, xk93_1_ret, xe98, xb98, xz98, xj98_0, xk98_0_ret, ↓syP, syA, rtN, pureL, V.pure, nsh, stBk, V.kill, killL, spl, V.shift, shiftL, V.scal, scalL, intR, boolR, threeV, Nat.reduceAdd, Nat.reduceSub, Nat.reduceMul, Nat.reduceLT, Nat.reduceLeDiff, Nat.reduceEqDiff, Nat.reduceBEq, Nat.reduceBNe, Int.reduceBEq, Int.reduceBNe, Int.reduceLT, Int.reduceLE, Int.reduceAdd, Int.reduceSub, Int.reduceNeg, xF, xcallV, xcallC, xcallL, xcallY, xevY, xY_ready, xrange, xG_fn, xR, xA, xcl62, xclk62, xcl71, xclk71, h_slices_ContainsFunc_apiTask_forest_May_1, xr93_0, ih, g_forest_May_L1_eq k v0 _ (fun s47 s56 => g_forest_May_L0 k v0  n s47 s56) ih]
    all_goals simp -implicitDefEqProofs only [List.map_nil]
def g_forest_May (k : Nat) (v0 : (List (Int × List Int))) : Option Bool :=
  bif decide ((30 : Int) < (↑v0.length : Int)) then
   some (false)
  else
   ob (g_slices_ContainsFunc_apiTask_forest_May_1 k v0) fun x66 =>
   bif x66 then
    some (false)
   else
    bif decide ((0 : Int) ≤ (↑v0.length : Int) ∧ (↑v0.length : Int) ≤ (9223372036854775807 : Int) ∧ (↑v0.length : Int) * (1 : Int) ≤ (70368744177664 : Int)) then
     g_forest_May_L0 k v0 (k + (17 : Nat)) ((0 : Int)) (List.replicate v0.length false)
    else
     none
theorem h_forest_May (k : Nat) (v0 : (List (Int × List Int))) : xC (k + 19) none 50 [(.ro (List.map taskV v0))] = ob (g_forest_May k v0) fun r => some ((.lit (.bool r)), []) := by
  rw [xC_eq]
  unfold g_forest_May
  simp (maxSteps := 2000000) -implicitDefEqProofs only [xe50, xb50, xz50, xm50_0, xj50_1, xq50_1_1_1_0_1_0_1, xq50_1_1_1_0_1_0_0, xm50_2, xm50_3, xk50_0_ret, xk50_1_ret, xk50_2_ret, xq50_0_eq, xe70, xb70, xC_eq (g := 70), xe77, xb77, xe78, xb78, xm78_0, xk78_0_ret, xe93, xb93, xz93, xj93_0, xj93_1, xk93_0_ret, xk93_1_ret, xe98, xb98, xz98, xj98_0, xk98_0_ret, ↓syP, syA, rtN, pureL, V.pure, nsh, stBk, V.kill, killL, spl, V.shift, shiftL, V.scal, scalL, intR, boolR, threeV, Nat.reduceAdd, Nat.reduceSub, Nat.reduceMul, Nat.reduceLT, Nat.reduceLeDiff, Nat.reduceEqDiff, Nat.reduceBEq, Nat.reduceBNe, Int.reduceBEq, Int.reduceBNe, Int.reduceLT, Int.reduceLE, Int.reduceAdd, Int.reduceSub, Int.reduceNeg, xF, xcallV, xcallC, xcallL, xcallY, xevY, xY_ready, xrange, xG_fn, xR, xA, xcl62, xclk62, xcl71, xclk71, h_slices_ContainsFunc_apiTask_forest_May_1, g_forest_May_L0_eq k v0]
  all_goals simp -implicitDefEqProofs only [List.map_nil]
def g_forest_Sums_L0 (k : Nat) (v0 : (List (Int × List Int)))  : Nat → Int → Int → Option (Int × Int)
  | 0, _, _ => none
  | n + 1, s74, s76 =>
    bif decide (s76 < (↑v0.length : Int)) then
     ob (idx v0 s76) fun x79 =>
     g_forest_Sums_L0 k v0  n (IntKind.i64.wrap (s74 + x79.fst)) (IntKind.i64.wrap (s76 + (1 : Int)))
    else
     some (((↑v0.length : Int)), (s74))
theorem g_forest_Sums_L0_eq (k : Nat) (v0 : (List (Int × List Int))) : ∀ (n : Nat) (s74 : Int) (s76 : Int) ⦃s70 : Bool⦄ ⦃s71 : Bool⦄ ⦃j75 : V⦄, rt none (itX (xX (xS (k + (19 : Nat))) (52 : Nat) (0 : Nat) (k + (19 : Nat)) false) xl52_0 ((0 : Nat)) (runK (xX (xS (k + (19 : Nat))) (52 : Nat) (0 : Nat) (k + (19 : Nat)) false) (bodyK (xS (k + (19 : Nat))).P Try.f52) xk52_0) n ⟨[V.ro (List.map taskV v0), uu, V.lit (Value.int IntKind.i64 (0 : Int)), V.lit (Value.int IntKind.i64 (0 : Int)), V.lit (Value.int IntKind.i64 s74), uu, j75, V.ro (List.map taskV v0), V.lit (Value.bool s70), V.lit (Value.bool s71), V.ro (List.map taskV v0), V.lit (Value.int IntKind.i64 (↑v0.length : Int)), V.lit (Value.int IntKind.i64 s76), V.junk, V.junk, V.junk, V.junk, V.junk, V.junk, V.junk, V.junk, uu, uu, uu], []⟩) = ob (g_forest_Sums_L0 k v0  n s74 s76) fun r => some ((.tup [(.lit (.int .i64 r.1)), (.lit (.int .i64 r.2))]), []) := by
  intro n
  induction n with
  | zero => intros; rfl
  | succ n ih =>
    intro s74 s76 s70 s71 j75
    rw [g_forest_Sums_L0]
    simp (maxSteps := 2000000) -implicitDefEqProofs only [xe52, xb52, xz52, xj52_0, xk52_0_ret, ↓syP, syA, rtN, pureL, V.pure, nsh, stBk, V.kill, killL, spl, V.shift, shiftL, V.scal, scalL, intR, boolR, threeV, Nat.reduceAdd, Nat.reduceSub, Nat.reduceMul, Nat.reduceLT, Nat.reduceLeDiff, Nat.reduceEqDiff, Nat.reduceBEq, Nat.reduceBNe, Int.reduceBEq, Int.reduceBNe, Int.reduceLT, Int.reduceLE, Int.reduceAdd, Int.reduceSub, Int.reduceNeg, xF, xcallV, xcallC, xcallL, xcallY, xevY, xY_ready, xrange, xG_fn, xR, xA, xcl62, xclk62, xcl71, xclk71, h_forest_May, xr52_0, ih]
    all_goals simp -implicitDefEqProofs only [List.map_nil]
def g_forest_Sums (k : Nat) (v0 : (List (Int × List Int))) : Option (Int × Int) :=
  ob (g_forest_May k v0) fun x80 =>
  bif !x80 then
   some (((0 : Int)), ((0 : Int)))
  else
   g_forest_Sums_L0 k v0 (k + (19 : Nat)) ((0 : Int)) ((0 : Int))
theorem h_forest_Sums (k : Nat) (v0 : (List (Int × List Int))) : xC (k + 20) none 52 [(.ro (List.map taskV v0))] = ob (g_forest_Sums k v0) fun r => some ((.tup [(.lit (.int .i64 r.1)), (.lit (.int .i64 r.2))]), []) := by
  rw [xC_eq]
  unfold g_forest_Sums
  simp (maxSteps := 2000000) -implicitDefEqProofs only [xe52, xb52, xz52, xj52_0, xk52_0_ret, ↓syP, syA, rtN, pureL, V.pure, nsh, stBk, V.kill, killL, spl, V.shift, shiftL, V.scal, scalL, intR, boolR, threeV, Nat.reduceAdd, Nat.reduceSub, Nat.reduceMul, Nat.reduceLT, Nat.reduceLeDiff, Nat.reduceEqDiff, Nat.reduceBEq, Nat.reduceBNe, Int.reduceBEq, Int.reduceBNe, Int.reduceLT, Int.reduceLE, Int.reduceAdd, Int.reduceSub, Int.reduceNeg, xF, xcallV, xcallC, xcallL, xcallY, xevY, xY_ready, xrange, xG_fn, xR, xA, xcl62, xclk62, xcl71, xclk71, h_forest_May, g_forest_Sums_L0_eq k v0]
  all_goals simp -implicitDefEqProofs only [List.map_nil]
def g_forest_Parent_L1 (k : Nat) (v0 : (List (Int × List Int))) (v1 : Int) (o0 : Int → Option Int) : Nat → List Int → Int → Int → Int → Option Int
  | 0, _, _, _, _ => none
  | n + 1, s89, s90, s96, s103 =>
    bif decide (s96 < s90) then
     ob (idx s89 s96) fun x110 =>
     bif x110 == v1 then
      some (s103)
     else
      g_forest_Parent_L1 k v0 v1 o0 n (s89) (s90) (IntKind.i64.wrap (s96 + (1 : Int))) (s103)
    else
     o0 (IntKind.i64.wrap (s103 + (1 : Int)))
theorem g_forest_Parent_L1_eq (k : Nat) (v0 : (List (Int × List Int))) (v1 : Int) (n83 : Nat) (o0 : Int → Option Int) (ho0 : ∀ (s99 : Int) ⦃s84 : Bool⦄ ⦃j97 j98 j105 : V⦄, rt none (bq (itX (xX (xS (k + (18 : Nat))) (93 : Nat) (0 : Nat) (k + (18 : Nat)) false) xl93_0 ((4 : Nat)) (runK (xX (xS (k + (18 : Nat))) (93 : Nat) (0 : Nat) (k + (18 : Nat)) false) (bodyK (xS (k + (18 : Nat))).P Try.f93) xk93_0) n83 ⟨[V.yld (3 : Nat), V.ptr (2 : Nat) (0 : Nat) (0 : Nat) (0 : Nat), uu, j97, j98, uu, j105, V.ro (List.map taskV v0), V.lit (Value.int IntKind.i64 (↑v0.length : Int)), V.lit (Value.int IntKind.i64 s99), V.junk, V.junk, V.junk, V.junk, V.junk, V.junk, V.junk, V.junk, V.junk, V.junk, V.junk, V.junk, V.junk, V.junk, V.junk, V.junk, V.junk, V.junk], [B.box [V.lit (Value.int IntKind.i64 v1)], B.box [V.lit (Value.int IntKind.i64 (0 : Int))], B.box [V.ro (List.map taskV v0)], B.loop (Lp.mk LoopState.ready none (36 : Nat) [V.ro (List.map taskV v0), V.lit (Value.int IntKind.i64 v1), uu, V.ptr (0 : Nat) (0 : Nat) (0 : Nat) (0 : Nat), V.ptr (1 : Nat) (0 : Nat) (0 : Nat) (0 : Nat), uu, uu, V.ro (List.map taskV v0), V.lit (Value.bool s84), V.ro (List.map taskV v0), V.fn (Fn.func (93 : FuncId)) [] [V.ptr (2 : Nat) (0 : Nat) (0 : Nat) (0 : Nat)], uu, uu, uu, uu, uu, uu] [(11 : Tmp), (12 : Tmp)] xl36_0 xl36_1)]⟩) (rfK (runK (xX (xS (k + (19 : Nat))) (36 : Nat) (0 : Nat) (k + (19 : Nat)) false) (bodyK (xS (k + (19 : Nat))).P Try.f36) xk36_0) [V.ro (List.map taskV v0), V.lit (Value.int IntKind.i64 v1), uu, V.ptr (0 : Nat) (0 : Nat) (0 : Nat) (0 : Nat), V.ptr (1 : Nat) (0 : Nat) (0 : Nat) (0 : Nat), uu, uu, V.ro (List.map taskV v0), V.lit (Value.bool s84), V.ro (List.map taskV v0), V.fn (Fn.func (93 : FuncId)) [] [V.ptr (2 : Nat) (0 : Nat) (0 : Nat) (0 : Nat)], uu, uu, uu, uu, uu, uu] ((3 : Nat)))) = ob (o0 s99) fun r => some ((.lit (.int .i64 r)), [])) : ∀ (n : Nat) (s89 : List Int) (s90 : Int) (s96 : Int) (s103 : Int) ⦃s88 : Int⦄ ⦃s91 : Bool⦄ ⦃s104 : Bool⦄ ⦃j95 : V⦄, rt none (bq (itX (xX (xS (k + (18 : Nat))) (93 : Nat) (0 : Nat) (k + (18 : Nat)) false) xl93_1 ((6 : Nat)) (runK (xX (xS (k + (18 : Nat))) (93 : Nat) (0 : Nat) (k + (18 : Nat)) false) (nextK (xX (xS (k + (18 : Nat))) (93 : Nat) (0 : Nat) (k + (18 : Nat)) false) xl93_0 (4 : Nat) (runK (xX (xS (k + (18 : Nat))) (93 : Nat) (0 : Nat) (k + (18 : Nat)) false) (bodyK (xS (k + (18 : Nat))).P Try.f93) xk93_0) n83) xk93_1) n ⟨[V.yld (3 : Nat), V.ptr (2 : Nat) (0 : Nat) (0 : Nat) (0 : Nat), uu, V.lit (Value.int IntKind.i64 s103), V.ptr (5 : Nat) (0 : Nat) (0 : Nat) (0 : Nat), uu, j95, V.ro (List.map taskV v0), V.lit (Value.int IntKind.i64 (↑v0.length : Int)), V.lit (Value.int IntKind.i64 s103), V.lit (Value.bool s104), V.lit (Value.int IntKind.i64 s103), V.rp [V.lit (Value.int IntKind.i64 s88), V.ro (List.map (intR IntKind.i64) s89)], V.agg [V.lit (Value.int IntKind.i64 s88), V.ro (List.map (intR IntKind.i64) s89)], V.ptr (5 : Nat) (0 : Nat) (0 : Nat) (1 : Nat), V.ro (List.map (intR IntKind.i64) s89), V.lit (Value.int IntKind.i64 s90), V.lit (Value.int IntKind.i64 s96), V.junk, V.junk, V.junk, V.junk, V.junk, V.junk, V.junk, V.junk, V.junk, V.junk], [B.box [V.lit (Value.int IntKind.i64 v1)], B.box [V.lit (Value.int IntKind.i64 (0 : Int))], B.box [V.ro (List.map taskV v0)], B.loop (Lp.mk LoopState.ready none (36 : Nat) [V.ro (List.map taskV v0), V.lit (Value.int IntKind.i64 v1), uu, V.ptr (0 : Nat) (0 : Nat) (0 : Nat) (0 : Nat), V.ptr (1 : Nat) (0 : Nat) (0 : Nat) (0 : Nat), uu, uu, V.ro (List.map taskV v0), V.lit (Value.bool s91), V.ro (List.map taskV v0), V.fn (Fn.func (93 : FuncId)) [] [V.ptr (2 : Nat) (0 : Nat) (0 : Nat) (0 : Nat)], uu, uu, uu, uu, uu, uu] [(11 : Tmp), (12 : Tmp)] xl36_0 xl36_1), B.rows (0 : Nat) [] (0 : Nat) true, B.box [V.lit (Value.int IntKind.i64 s88), V.ro (List.map (intR IntKind.i64) s89)]]⟩) (rfK (runK (xX (xS (k + (19 : Nat))) (36 : Nat) (0 : Nat) (k + (19 : Nat)) false) (bodyK (xS (k + (19 : Nat))).P Try.f36) xk36_0) [V.ro (List.map taskV v0), V.lit (Value.int IntKind.i64 v1), uu, V.ptr (0 : Nat) (0 : Nat) (0 : Nat) (0 : Nat), V.ptr (1 : Nat) (0 : Nat) (0 : Nat) (0 : Nat), uu, uu, V.ro (List.map taskV v0), V.lit (Value.bool s91), V.ro (List.map taskV v0), V.fn (Fn.func (93 : FuncId)) [] [V.ptr (2 : Nat) (0 : Nat) (0 : Nat) (0 : Nat)], uu, uu, uu, uu, uu, uu] ((3 : Nat)))) = ob (g_forest_Parent_L1 k v0 v1 o0 n s89 s90 s96 s103) fun r => some ((.lit (.int .i64 r)), []) := by
  intro n
  induction n with
  | zero => intros; rfl
  | succ n ih =>
    intro s89 s90 s96 s103 s88 s91 s104 j95
    rw [g_forest_Parent_L1]
    simp (maxSteps := 2000000) -implicitDefEqProofs only [xe36, xb36, xz36, xj36_0, xq36_1_0_1_0_1_0_1, xq36_1_0_1_0_1_0_0, xk36_0_ret, xq36_0_eq, xe70, xb70, xC_eq (g := 70), xe93, xb93, xz93, xj93_0, xj93_1, xk93_0_ret, xk93_1_ret, ↓syP, syA, rtN, pureL, V.pure, nsh, stBk, V.kill, killL, spl, V.shift, shiftL, V.scal, scalL, intR, boolR, threeV, Nat.reduceAdd, Nat.reduceSub, Nat.reduceMul, Nat.reduceLT, Nat.reduceLeDiff, Nat.reduceEqDiff, Nat.reduceBEq, Nat.reduceBNe, Int.reduceBEq, Int.reduceBNe, Int.reduceLT, Int.reduceLE, Int.reduceAdd, Int.reduceSub, Int.reduceNeg, xF, xcallV, xcallC, xcallL, xcallY, xevY, xY_ready, xrange, xG_fn, xR, xA, xcl62, xclk62, xcl71, xclk71, h_forest_May, xr93_1, ih, ho0]
    all_goals simp -implicitDefEqProofs only [List.map_nil]
def g_forest_Parent_L0 (k : Nat) (v0 : (List (Int × List Int))) (v1 : Int)  : Nat → Int → Option Int
  | 0, _ => none
  | n + 1, s99 =>
    bif decide (s99 < (↑v0.length : Int)) then
     ob (idx v0 s99) fun x109 =>
     g_forest_Parent_L1 k v0 v1 (fun s99 => g_forest_Parent_L0 k v0 v1  n s99) (k + (18 : Nat)) (x109.snd) ((↑x109.snd.length : Int)) ((0 : Int)) (s99)
    else
     some ((-1 : Int))
theorem g_forest_Parent_L0_eq (k : Nat) (v0 : (List (Int × List Int))) (v1 : Int) : ∀ (n : Nat) (s99 : Int) ⦃s84 : Bool⦄ ⦃j97 j98 j105 : V⦄, rt none (bq (itX (xX (xS (k + (18 : Nat))) (93 : Nat) (0 : Nat) (k + (18 : Nat)) false) xl93_0 ((4 : Nat)) (runK (xX (xS (k + (18 : Nat))) (93 : Nat) (0 : Nat) (k + (18 : Nat)) false) (bodyK (xS (k + (18 : Nat))).P Try.f93) xk93_0) n ⟨[V.yld (3 : Nat), V.ptr (2 : Nat) (0 : Nat) (0 : Nat) (0 : Nat), uu, j97, j98, uu, j105, V.ro (List.map taskV v0), V.lit (Value.int IntKind.i64 (↑v0.length : Int)), V.lit (Value.int IntKind.i64 s99), V.junk, V.junk, V.junk, V.junk, V.junk, V.junk, V.junk, V.junk, V.junk, V.junk, V.junk, V.junk, V.junk, V.junk, V.junk, V.junk, V.junk, V.junk], [B.box [V.lit (Value.int IntKind.i64 v1)], B.box [V.lit (Value.int IntKind.i64 (0 : Int))], B.box [V.ro (List.map taskV v0)], B.loop (Lp.mk LoopState.ready none (36 : Nat) [V.ro (List.map taskV v0), V.lit (Value.int IntKind.i64 v1), uu, V.ptr (0 : Nat) (0 : Nat) (0 : Nat) (0 : Nat), V.ptr (1 : Nat) (0 : Nat) (0 : Nat) (0 : Nat), uu, uu, V.ro (List.map taskV v0), V.lit (Value.bool s84), V.ro (List.map taskV v0), V.fn (Fn.func (93 : FuncId)) [] [V.ptr (2 : Nat) (0 : Nat) (0 : Nat) (0 : Nat)], uu, uu, uu, uu, uu, uu] [(11 : Tmp), (12 : Tmp)] xl36_0 xl36_1)]⟩) (rfK (runK (xX (xS (k + (19 : Nat))) (36 : Nat) (0 : Nat) (k + (19 : Nat)) false) (bodyK (xS (k + (19 : Nat))).P Try.f36) xk36_0) [V.ro (List.map taskV v0), V.lit (Value.int IntKind.i64 v1), uu, V.ptr (0 : Nat) (0 : Nat) (0 : Nat) (0 : Nat), V.ptr (1 : Nat) (0 : Nat) (0 : Nat) (0 : Nat), uu, uu, V.ro (List.map taskV v0), V.lit (Value.bool s84), V.ro (List.map taskV v0), V.fn (Fn.func (93 : FuncId)) [] [V.ptr (2 : Nat) (0 : Nat) (0 : Nat) (0 : Nat)], uu, uu, uu, uu, uu, uu] ((3 : Nat)))) = ob (g_forest_Parent_L0 k v0 v1  n s99) fun r => some ((.lit (.int .i64 r)), []) := by
  intro n
  induction n with
  | zero => intros; rfl
  | succ n ih =>
    intro s99 s84 j97 j98 j105
    rw [g_forest_Parent_L0]
    simp (maxSteps := 2000000) -implicitDefEqProofs only [xe36, xb36, xz36, xj36_0, xq36_1_0_1_0_1_0_1, xq36_1_0_1_0_1_0_0, xk36_0_ret, xq36_0_eq, xe70, xb70, xC_eq (g := 70), xe93, xb93, xz93, xj93_0, xj93_1, xk93_0_ret, xk93_1_ret, ↓syP, syA, rtN, pureL, V.pure, nsh, stBk, V.kill, killL, spl, V.shift, shiftL, V.scal, scalL, intR, boolR, threeV, Nat.reduceAdd, Nat.reduceSub, Nat.reduceMul, Nat.reduceLT, Nat.reduceLeDiff, Nat.reduceEqDiff, Nat.reduceBEq, Nat.reduceBNe, Int.reduceBEq, Int.reduceBNe, Int.reduceLT, Int.reduceLE, Int.reduceAdd, Int.reduceSub, Int.reduceNeg, xF, xcallV, xcallC, xcallL, xcallY, xevY, xY_ready, xrange, xG_fn, xR, xA, xcl62, xclk62, xcl71, xclk71, h_forest_May, xr93_0, ih, g_forest_Parent_L1_eq k v0 v1 _ (fun s99 => g_forest_Parent_L0 k v0 v1  n s99) ih]
    all_goals simp -implicitDefEqProofs only [List.map_nil]
def g_forest_Parent (k : Nat) (v0 : (List (Int × List Int))) (v1 : Int) : Option Int :=
  ob (g_forest_May k v0) fun x111 =>
  bif x111 then
   g_forest_Parent_L0 k v0 v1 (k + (18 : Nat)) ((0 : Int))
  else
   some ((-1 : Int))
theorem h_forest_Parent (k : Nat) (v0 : (List (Int × List Int))) (v1 : Int) : xC (k + 20) none 36 [(.ro (List.map taskV v0)), (.lit (.int .i64 v1))] = ob (g_forest_Parent k v0 v1) fun r => some ((.lit (.int .i64 r)), []) := by
  rw [xC_eq]
  unfold g_forest_Parent
  simp (maxSteps := 2000000) -implicitDefEqProofs only [xe36, xb36, xz36, xj36_0, xq36_1_0_1_0_1_0_1, xq36_1_0_1_0_1_0_0, xk36_0_ret, xq36_0_eq, xe70, xb70, xC_eq (g := 70), xe93, xb93, xz93, xj93_0, xj93_1, xk93_0_ret, xk93_1_ret, ↓syP, syA, rtN, pureL, V.pure, nsh, stBk, V.kill, killL, spl, V.shift, shiftL, V.scal, scalL, intR, boolR, threeV, Nat.reduceAdd, Nat.reduceSub, Nat.reduceMul, Nat.reduceLT, Nat.reduceLeDiff, Nat.reduceEqDiff, Nat.reduceBEq, Nat.reduceBNe, Int.reduceBEq, Int.reduceBNe, Int.reduceLT, Int.reduceLE, Int.reduceAdd, Int.reduceSub, Int.reduceNeg, xF, xcallV, xcallC, xcallL, xcallY, xevY, xY_ready, xrange, xG_fn, xR, xA, xcl62, xclk62, xcl71, xclk71, h_forest_May, g_forest_Parent_L0_eq k v0 v1]
  all_goals simp -implicitDefEqProofs only [List.map_nil]
def g_forest_Roots_L0 (k : Nat) (v0 : (List (Int × List Int)))  : Nat → List Int → Int → Nat → Option (List Int)
  | 0, _, _, _ => none
  | n + 1, s120, s122, s125 =>
    bif decide (s122 < (↑v0.length : Int)) then
     ob (g_forest_Parent k v0 s122) fun x128 =>
     bif x128 == (-1 : Int) then
      ck (s125 == (1 : Nat) || s125 == (0 : Nat)) (
      bif room (s120 ++ [s122]).length (8 : Nat) then
       g_forest_Roots_L0 k v0  n (s120 ++ [s122]) (IntKind.i64.wrap (s122 + (1 : Int))) ((1 : Nat))
      else
       none)
     else
      g_forest_Roots_L0 k v0  n (s120) (IntKind.i64.wrap (s122 + (1 : Int))) (s125)
    else
     some (s120)
theorem g_forest_Roots_L0_eq (k : Nat) (v0 : (List (Int × List Int))) : ∀ (n : Nat) (s120 : List Int) (s122 : Int) (s125 : Nat) ⦃s115 : Bool⦄ ⦃s116 : Bool⦄ ⦃s119 : Nat⦄ ⦃j121 : V⦄, rt none (itX (xX (xS (k + (20 : Nat))) (56 : Nat) (0 : Nat) (k + (20 : Nat)) false) xl56_0 ((2 : Nat)) (runK (xX (xS (k + (20 : Nat))) (56 : Nat) (0 : Nat) (k + (20 : Nat)) false) (bodyK (xS (k + (20 : Nat))).P Try.f56) xk56_0) n ⟨[V.ro (List.map taskV v0), uu, V.own (0 : Nat) (0 : Nat) (0 : Nat), V.own (1 : Nat) s119 s120.length, j121, V.ro (List.map taskV v0), V.lit (Value.bool s115), V.lit (Value.bool s116), V.ro (List.map taskV v0), V.lit (Value.int IntKind.i64 (↑v0.length : Int)), V.lit (Value.int IntKind.i64 s122), V.junk, V.junk, V.junk, V.junk, V.junk, V.junk, V.junk, V.junk, V.junk, V.junk, V.junk, uu], [B.rows (0 : Nat) [] (0 : Nat) true, B.rows s125 (List.map (intR IntKind.i64) s120) s119 true]⟩) = ob (g_forest_Roots_L0 k v0  n s120 s122 s125) fun r => some ((.ro (List.map (intR .i64) r)), []) := by
  intro n
  induction n with
  | zero => intros; rfl
  | succ n ih =>
    intro s120 s122 s125 s115 s116 s119 j121
    rw [g_forest_Roots_L0]
    simp (maxSteps := 2000000) -implicitDefEqProofs only [xe56, xb56, xz56, xj56_0, xk56_0_ret, ↓syP, syA, rtN, pureL, V.pure, nsh, stBk, V.kill, killL, spl, V.shift, shiftL, V.scal, scalL, intR, boolR, threeV, Nat.reduceAdd, Nat.reduceSub, Nat.reduceMul, Nat.reduceLT, Nat.reduceLeDiff, Nat.reduceEqDiff, Nat.reduceBEq, Nat.reduceBNe, Int.reduceBEq, Int.reduceBNe, Int.reduceLT, Int.reduceLE, Int.reduceAdd, Int.reduceSub, Int.reduceNeg, xF, xcallV, xcallC, xcallL, xcallY, xevY, xY_ready, xrange, xG_fn, xR, xA, xcl62, xclk62, xcl71, xclk71, h_forest_May, h_forest_Parent, xr56_0, ih]
    all_goals simp -implicitDefEqProofs only [List.map_nil]
def g_forest_Roots (k : Nat) (v0 : (List (Int × List Int))) : Option (List Int) :=
  ob (g_forest_May (k + (1 : Nat)) v0) fun x129 =>
  bif !x129 then
   some []
  else
   g_forest_Roots_L0 k v0 (k + (20 : Nat)) ([]) ((0 : Int)) ((0 : Nat))
theorem h_forest_Roots (k : Nat) (v0 : (List (Int × List Int))) : xC (k + 21) none 56 [(.ro (List.map taskV v0))] = ob (g_forest_Roots k v0) fun r => some ((.ro (List.map (intR .i64) r)), []) := by
  rw [xC_eq]
  unfold g_forest_Roots
  have hl0 := g_forest_Roots_L0_eq k v0 (k + (20 : Nat)) ([]) ((0 : Int)) ((0 : Nat))
  simp -implicitDefEqProofs only [List.map_nil, List.length_nil] at hl0
  simp (maxSteps := 2000000) -implicitDefEqProofs only [xe56, xb56, xz56, xj56_0, xk56_0_ret, ↓syP, syA, rtN, pureL, V.pure, nsh, stBk, V.kill, killL, spl, V.shift, shiftL, V.scal, scalL, intR, boolR, threeV, Nat.reduceAdd, Nat.reduceSub, Nat.reduceMul, Nat.reduceLT, Nat.reduceLeDiff, Nat.reduceEqDiff, Nat.reduceBEq, Nat.reduceBNe, Int.reduceBEq, Int.reduceBNe, Int.reduceLT, Int.reduceLE, Int.reduceAdd, Int.reduceSub, Int.reduceNeg, xF, xcallV, xcallC, xcallL, xcallY, xevY, xY_ready, xrange, xG_fn, xR, xA, xcl62, xclk62, xcl71, xclk71, h_forest_May, g_forest_Roots_L0_eq k v0, hl0]
  all_goals simp -implicitDefEqProofs only [List.map_nil]
def g_slices_Equal_int_L0 (k : Nat) (v0 : (List Int)) (v1 : (List Int))  : Nat → Int → Option Bool
  | 0, _ => none
  | n + 1, s138 =>
    bif decide (s138 < (↑v0.length : Int)) then
     ob (idx v0 s138) fun x141 =>
     ob (idx v1 s138) fun x142 =>
     bif x141 != x142 then
      some (false)
     else
      g_slices_Equal_int_L0 k v0 v1  n (IntKind.i64.wrap (s138 + (1 : Int)))
    else
     some (true)
theorem g_slices_Equal_int_L0_eq (k : Nat) (v0 : (List Int)) (v1 : (List Int)) : ∀ (n : Nat) (s138 : Int) ⦃j137 : V⦄, rt none (itX (xX (xS k) (85 : Nat) (0 : Nat) k false) xl85_0 ((0 : Nat)) (runK (xX (xS k) (85 : Nat) (0 : Nat) k false) (bodyK (xS k).P Try.f85) xk85_0) n ⟨[V.ro (List.map (intR IntKind.i64) v0), V.ro (List.map (intR IntKind.i64) v1), uu, uu, V.lit (Value.bool false), j137, V.ro (List.map (intR IntKind.i64) v0), V.lit (Value.int IntKind.i64 (↑v0.length : Int)), V.ro (List.map (intR IntKind.i64) v1), V.lit (Value.int IntKind.i64 (↑v1.length : Int)), V.lit (Value.bool ((↑v0.length : Int) != (↑v1.length : Int))), V.ro (List.map (intR IntKind.i64) v0), V.lit (Value.int IntKind.i64 (↑v0.length : Int)), V.lit (Value.int IntKind.i64 s138), V.junk, V.junk, V.junk, V.junk, V.junk, V.junk, V.junk, V.junk, V.junk, V.junk, V.junk, V.junk], []⟩) = ob (g_slices_Equal_int_L0 k v0 v1  n s138) fun r => some ((.lit (.bool r)), []) := by
  intro n
  induction n with
  | zero => intros; rfl
  | succ n ih =>
    intro s138 j137
    rw [g_slices_Equal_int_L0]
    simp (maxSteps := 2000000) -implicitDefEqProofs only [xe85, xb85, xz85, xj85_0, xk85_0_ret, ↓syP, syA, rtN, pureL, V.pure, nsh, stBk, V.kill, killL, spl, V.shift, shiftL, V.scal, scalL, intR, boolR, threeV, Nat.reduceAdd, Nat.reduceSub, Nat.reduceMul, Nat.reduceLT, Nat.reduceLeDiff, Nat.reduceEqDiff, Nat.reduceBEq, Nat.reduceBNe, Int.reduceBEq, Int.reduceBNe, Int.reduceLT, Int.reduceLE, Int.reduceAdd, Int.reduceSub, Int.reduceNeg, xF, xcallV, xcallC, xcallL, xcallY, xevY, xY_ready, xrange, xG_fn, xR, xA, xcl62, xclk62, xcl71, xclk71, xr85_0, ih]
    all_goals simp -implicitDefEqProofs only [List.map_nil]
def g_slices_Equal_int (k : Nat) (v0 : (List Int)) (v1 : (List Int)) : Option Bool :=
  bif (↑v0.length : Int) != (↑v1.length : Int) then
   some (false)
  else
   g_slices_Equal_int_L0 k v0 v1 (k) ((0 : Int))
theorem h_slices_Equal_int (k : Nat) (v0 : (List Int)) (v1 : (List Int)) : xC (k + 1) none 85 [(.ro (List.map (intR .i64) v0)), (.ro (List.map (intR .i64) v1))] = ob (g_slices_Equal_int k v0 v1) fun r => some ((.lit (.bool r)), []) := by
  rw [xC_eq]
  unfold g_slices_Equal_int
  simp (maxSteps := 2000000) -implicitDefEqProofs only [xe85, xb85, xz85, xj85_0, xk85_0_ret, ↓syP, syA, rtN, pureL, V.pure, nsh, stBk, V.kill, killL, spl, V.shift, shiftL, V.scal, scalL, intR, boolR, threeV, Nat.reduceAdd, Nat.reduceSub, Nat.reduceMul, Nat.reduceLT, Nat.reduceLeDiff, Nat.reduceEqDiff, Nat.reduceBEq, Nat.reduceBNe, Int.reduceBEq, Int.reduceBNe, Int.reduceLT, Int.reduceLE, Int.reduceAdd, Int.reduceSub, Int.reduceNeg, xF, xcallV, xcallC, xcallL, xcallY, xevY, xY_ready, xrange, xG_fn, xR, xA, xcl62, xclk62, xcl71, xclk71, g_slices_Equal_int_L0_eq k v0 v1]
  all_goals simp -implicitDefEqProofs only [List.map_nil]
def g_forest_Same_1 (k : Nat) (v0 : (Int × List Int)) (v1 : (Int × List Int)) : Option Bool :=
  bif v0.1 == v1.1 then
   ob (g_slices_Equal_int k v0.2 v1.2) fun x144 =>
   some (x144)
  else
   some (false)
theorem h_forest_Same_1 (k : Nat) (v0_0 : Int) (v0_1 : (List Int)) (v1_0 : Int) (v1_1 : (List Int)) : xC (k + 2) none 84 [(.agg [(.lit (.int .i64 v0_0)), (.ro (List.map (intR .i64) v0_1))]), (.agg [(.lit (.int .i64 v1_0)), (.ro (List.map (intR .i64) v1_1))])] = ob (g_forest_Same_1 k (v0_0, v0_1) (v1_0, v1_1)) fun r => some ((.lit (.bool r)), []) := by
  rw [xC_eq]
  unfold g_forest_Same_1
  simp (maxSteps := 2000000) -implicitDefEqProofs only [xe84, xb84, xm84_0, xk84_0_ret, ↓syP, syA, rtN, pureL, V.pure, nsh, stBk, V.kill, killL, spl, V.shift, shiftL, V.scal, scalL, intR, boolR, threeV, Nat.reduceAdd, Nat.reduceSub, Nat.reduceMul, Nat.reduceLT, Nat.reduceLeDiff, Nat.reduceEqDiff, Nat.reduceBEq, Nat.reduceBNe, Int.reduceBEq, Int.reduceBNe, Int.reduceLT, Int.reduceLE, Int.reduceAdd, Int.reduceSub, Int.reduceNeg, xF, xcallV, xcallC, xcallL, xcallY, xevY, xY_ready, xrange, xG_fn, xR, xA, xcl62, xclk62, xcl71, xclk71, h_slices_Equal_int]
  all_goals simp -implicitDefEqProofs only [List.map_nil]
def g_slices_EqualFunc_apiTask_forest_Same_1_L0 (k : Nat) (v0 : (List (Int × List Int))) (v1 : (List (Int × List Int)))  : Nat → Int → Option Bool
  | 0, _ => none
  | n + 1, s151 =>
    bif decide (s151 < (↑v0.length : Int)) then
     ob (idx v0 s151) fun x155 =>
     ob (idx v1 s151) fun x156 =>
     ob (g_forest_Same_1 (k + (6 : Nat)) (x155.fst, x155.snd) (x156.fst, x156.snd)) fun x157 =>
     bif !x157 then
      some (false)
     else
      g_slices_EqualFunc_apiTask_forest_Same_1_L0 k v0 v1  n (IntKind.i64.wrap (s151 + (1 : Int)))
    else
     some (true)
theorem g_slices_EqualFunc_apiTask_forest_Same_1_L0_eq (k : Nat) (v0 : (List (Int × List Int))) (v1 : (List (Int × List Int))) : ∀ (n : Nat) (s151 : Int) ⦃j149 j150 : V⦄, rt none (itX (xX (xS (k + (8 : Nat))) (83 : Nat) (0 : Nat) (k + (8 : Nat)) false) xl83_0 ((0 : Nat)) (runK (xX (xS (k + (8 : Nat))) (83 : Nat) (0 : Nat) (k + (8 : Nat)) false) (bodyK (xS (k + (8 : Nat))).P Try.f83) xk83_0) n ⟨[V.ro (List.map taskV v0), V.ro (List.map taskV v1), V.fn (Fn.func (84 : FuncId)) [] [], uu, uu, uu, V.lit (Value.bool false), j149, j150, j150, V.ro (List.map taskV v0), V.lit (Value.int IntKind.i64 (↑v0.length : Int)), V.ro (List.map taskV v1), V.lit (Value.int IntKind.i64 (↑v1.length : Int)), V.lit (Value.bool ((↑v0.length : Int) != (↑v1.length : Int))), V.ro (List.map taskV v0), V.lit (Value.int IntKind.i64 (↑v0.length : Int)), V.lit (Value.int IntKind.i64 s151), V.junk, V.junk, V.junk, V.junk, V.junk, V.junk, V.junk, V.junk, V.junk, V.junk, V.junk, V.junk, V.junk, V.junk], []⟩) = ob (g_slices_EqualFunc_apiTask_forest_Same_1_L0 k v0 v1  n s151) fun r => some ((.lit (.bool r)), []) := by
  intro n
  induction n with
  | zero => intros; rfl
  | succ n ih =>
    intro s151 j149 j150
    rw [g_slices_EqualFunc_apiTask_forest_Same_1_L0]
    simp (maxSteps := 2000000) -implicitDefEqProofs only [xe83, xb83, xz83, xj83_0, xk83_0_ret, ↓syP, syA, rtN, pureL, V.pure, nsh, stBk, V.kill, killL, spl, V.shift, shiftL, V.scal, scalL, intR, boolR, threeV, Nat.reduceAdd, Nat.reduceSub, Nat.reduceMul, Nat.reduceLT, Nat.reduceLeDiff, Nat.reduceEqDiff, Nat.reduceBEq, Nat.reduceBNe, Int.reduceBEq, Int.reduceBNe, Int.reduceLT, Int.reduceLE, Int.reduceAdd, Int.reduceSub, Int.reduceNeg, xF, xcallV, xcallC, xcallL, xcallY, xevY, xY_ready, xrange, xG_fn, xR, xA, xcl62, xclk62, xcl71, xclk71, h_forest_Same_1, xr83_0, ih]
    all_goals simp -implicitDefEqProofs only [List.map_nil]
def g_slices_EqualFunc_apiTask_forest_Same_1 (k : Nat) (v0 : (List (Int × List Int))) (v1 : (List (Int × List Int))) : Option Bool :=
  bif (↑v0.length : Int) != (↑v1.length : Int) then
   some (false)
  else
   g_slices_EqualFunc_apiTask_forest_Same_1_L0 k v0 v1 (k + (8 : Nat)) ((0 : Int))
theorem h_slices_EqualFunc_apiTask_forest_Same_1 (k : Nat) (v0 : (List (Int × List Int))) (v1 : (List (Int × List Int))) : xC (k + 9) none 83 [(.ro (List.map taskV v0)), (.ro (List.map taskV v1)), V.fn (Fn.func (84 : FuncId)) [] []] = ob (g_slices_EqualFunc_apiTask_forest_Same_1 k v0 v1) fun r => some ((.lit (.bool r)), []) := by
  rw [xC_eq]
  unfold g_slices_EqualFunc_apiTask_forest_Same_1
  simp (maxSteps := 2000000) -implicitDefEqProofs only [xe83, xb83, xz83, xj83_0, xk83_0_ret, ↓syP, syA, rtN, pureL, V.pure, nsh, stBk, V.kill, killL, spl, V.shift, shiftL, V.scal, scalL, intR, boolR, threeV, Nat.reduceAdd, Nat.reduceSub, Nat.reduceMul, Nat.reduceLT, Nat.reduceLeDiff, Nat.reduceEqDiff, Nat.reduceBEq, Nat.reduceBNe, Int.reduceBEq, Int.reduceBNe, Int.reduceLT, Int.reduceLE, Int.reduceAdd, Int.reduceSub, Int.reduceNeg, xF, xcallV, xcallC, xcallL, xcallY, xevY, xY_ready, xrange, xG_fn, xR, xA, xcl62, xclk62, xcl71, xclk71, g_slices_EqualFunc_apiTask_forest_Same_1_L0_eq k v0 v1]
  all_goals simp -implicitDefEqProofs only [List.map_nil]
def g_forest_Same (k : Nat) (v0 : (List (Int × List Int))) (v1 : (List (Int × List Int))) : Option Bool :=
  ob (g_slices_EqualFunc_apiTask_forest_Same_1 k v0 v1) fun x159 =>
  some (x159)
theorem h_forest_Same (k : Nat) (v0 : (List (Int × List Int))) (v1 : (List (Int × List Int))) : xC (k + 10) none 60 [(.ro (List.map taskV v0)), (.ro (List.map taskV v1))] = ob (g_forest_Same k v0 v1) fun r => some ((.lit (.bool r)), []) := by
  rw [xC_eq]
  unfold g_forest_Same
  simp (maxSteps := 2000000) -implicitDefEqProofs only [xe60, xb60, xe83, xb83, xz83, xj83_0, xk83_0_ret, xe84, xb84, xm84_0, xk84_0_ret, ↓syP, syA, rtN, pureL, V.pure, nsh, stBk, V.kill, killL, spl, V.shift, shiftL, V.scal, scalL, intR, boolR, threeV, Nat.reduceAdd, Nat.reduceSub, Nat.reduceMul, Nat.reduceLT, Nat.reduceLeDiff, Nat.reduceEqDiff, Nat.reduceBEq, Nat.reduceBNe, Int.reduceBEq, Int.reduceBNe, Int.reduceLT, Int.reduceLE, Int.reduceAdd, Int.reduceSub, Int.reduceNeg, xF, xcallV, xcallC, xcallL, xcallY, xevY, xY_ready, xrange, xG_fn, xR, xA, xcl62, xclk62, xcl71, xclk71, h_slices_EqualFunc_apiTask_forest_Same_1]
  all_goals simp -implicitDefEqProofs only [List.map_nil]
def g_poacherref04_May_L1 (k : Nat) (v0 : (List (Int × List Int))) (o0 : Int → List Bool → Option Bool) : Nat → Int → List Bool → Int → Option Bool
  | 0, _, _, _ => none
  | n + 1, s178, s180, s190 =>
    ob (idx v0 s190) fun x203 =>
    bif decide (s178 < (↑x203.snd.length : Int)) then
     ob (idx v0 s190) fun x204 =>
     ob (idx x204.snd s178) fun x205 =>
     bif decide (x205 ≤ s190) then
      some (false)
     else
      bif decide ((↑v0.length : Int) ≤ x205) then
       some (false)
      else
       bif decide ((0 : Int) ≤ x205 ∧ x205.toNat < v0.length) then
        ob (s180[x205.toNat]?) fun x206 =>
        bif x206 then
         some (false)
        else
         bif decide ((0 : Int) ≤ x205 ∧ x205.toNat < v0.length) then
          ob (s180[x205.toNat]?) fun x207 =>
          g_poacherref04_May_L1 k v0 o0 n (IntKind.i64.wrap (s178 + (1 : Int))) (s180.set x205.toNat true) (s190)
         else
          none
       else
        none
    else
     o0 (IntKind.i64.wrap (s190 + (1 : Int))) (s180)
theorem g_poacherref04_May_L1_eq (k : Nat) (v0 : (List (Int × List Int))) (n161 : Nat) (o0 : Int → List Bool → Option Bool) (ho0 : ∀ (s181 : Int) (s193 : List Bool) ⦃j182 j192 : V⦄, rt none (itX (xX (xS k) (54 : Nat) (0 : Nat) k false) xl54_0 ((1 : Nat)) (runK (xX (xS k) (54 : Nat) (0 : Nat) k false) (bodyK (xS k).P Try.f54) xk54_0) n161 ⟨(V.ro (List.map taskV v0) :: uu :: V.lit (Value.bool false) :: V.own (0 : Nat) (0 : Nat) v0.length :: V.lit (Value.int IntKind.i64 s181) :: j182 :: j192 :: V.ro (List.map taskV v0) :: V.lit (Value.int IntKind.i64 (↑v0.length : Int)) :: V.lit (Value.bool (decide ((30 : Int) < (↑v0.length : Int)))) :: V.ro (List.map taskV v0) :: V.lit (Value.int IntKind.i64 (↑v0.length : Int)) :: V.own (0 : Nat) (0 : Nat) v0.length :: V.junk :: V.junk :: V.junk :: V.junk :: V.junk :: V.junk :: V.junk :: V.junk :: V.junk :: V.junk :: V.junk :: V.junk :: V.junk :: V.junk :: V.junk :: V.junk :: V.junk :: V.junk :: V.junk :: V.junk :: V.junk :: V.junk :: V.junk :: V.junk :: V.junk :: V.junk :: V.junk :: V.junk :: V.junk :: V.junk :: V.junk :: V.junk :: V.junk :: V.junk :: V.junk :: V.junk :: V.junk :: V.junk :: V.junk :: V.junk :: V.junk :: V.junk :: V.junk :: V.junk :: V.junk :: V.junk :: V.junk :: V.junk :: V.junk :: V.junk :: V.junk :: V.junk :: V.junk :: V.junk :: V.junk :: V.junk :: []), [B.rows (1 : Nat) (List.map boolR s193) (0 : Nat) true]⟩) = ob (o0 s181 s193) fun r => some ((.lit (.bool r)), [])) : ∀ (n : Nat) (s178 : Int) (s180 : List Bool) (s190 : Int) ⦃s165 : Int⦄ ⦃s166 : List Int⦄ ⦃s167 : Bool⦄ ⦃s168 : Int⦄ ⦃s169 : List Int⦄ ⦃s170 : Bool⦄ ⦃s191 : Bool⦄ ⦃j179 : V⦄, rt none (itX (xX (xS k) (54 : Nat) (0 : Nat) k false) xl54_1 ((1 : Nat)) (runK (xX (xS k) (54 : Nat) (0 : Nat) k false) (nextK (xX (xS k) (54 : Nat) (0 : Nat) k false) xl54_0 (1 : Nat) (runK (xX (xS k) (54 : Nat) (0 : Nat) k false) (bodyK (xS k).P Try.f54) xk54_0) n161) xk54_2) n ⟨(V.ro (List.map taskV v0) :: uu :: V.lit (Value.bool false) :: V.own (0 : Nat) (0 : Nat) v0.length :: V.lit (Value.int IntKind.i64 s190) :: V.lit (Value.int IntKind.i64 s178) :: j179 :: V.ro (List.map taskV v0) :: V.lit (Value.int IntKind.i64 (↑v0.length : Int)) :: V.lit (Value.bool (decide ((30 : Int) < (↑v0.length : Int)))) :: V.ro (List.map taskV v0) :: V.lit (Value.int IntKind.i64 (↑v0.length : Int)) :: V.own (0 : Nat) (0 : Nat) v0.length :: V.lit (Value.int IntKind.i64 s190) :: V.ro (List.map taskV v0) :: V.lit (Value.int IntKind.i64 (↑v0.length : Int)) :: V.lit (Value.bool s191) :: V.junk :: V.junk :: V.ro (List.map taskV v0) :: V.lit (Value.int IntKind.i64 s190) :: V.rp [V.lit (Value.int IntKind.i64 s165), V.ro (List.map (intR IntKind.i64) s166)] :: V.rp [V.lit (Value.int IntKind.i64 s165), V.ro (List.map (intR IntKind.i64) s166)] :: V.lit (Value.int IntKind.i64 s165) :: V.lit (Value.bool s167) :: V.lit (Value.bool false) :: V.ro (List.map taskV v0) :: V.lit (Value.int IntKind.i64 s190) :: V.rp [V.lit (Value.int IntKind.i64 s168), V.ro (List.map (intR IntKind.i64) s169)] :: V.rp [V.lit (Value.int IntKind.i64 s168), V.ro (List.map (intR IntKind.i64) s169)] :: V.lit (Value.int IntKind.i64 s168) :: V.lit (Value.bool s170) :: V.lit (Value.bool s170) :: V.junk :: V.junk :: V.junk :: V.junk :: V.junk :: V.junk :: V.junk :: V.junk :: V.junk :: V.junk :: V.junk :: V.junk :: V.junk :: V.junk :: V.junk :: V.junk :: V.junk :: V.junk :: V.junk :: V.junk :: V.junk :: V.junk :: V.junk :: V.junk :: V.junk :: V.junk :: V.junk :: V.junk :: V.junk :: V.junk :: V.junk :: V.junk :: V.junk :: V.junk :: V.junk :: V.junk :: []), [B.rows (1 : Nat) (List.map boolR s180) (0 : Nat) true]⟩) = ob (g_poacherref04_May_L1 k v0 o0 n s178 s180 s190) fun r => some ((.lit (.bool r)), []) := by
  intro n
  induction n with
  | zero => intros; rfl
  | succ n ih =>
    intro s178 s180 s190 s165 s166 s167 s168 s169 s170 s191 j179
    rw [g_poacherref04_May_L1]
    simp (maxSteps := 2000000) -implicitDefEqProofs only [xe54, xb54, xz54, xj54_0, xm54_1, xj54_2, xm54_3, xm54_4, xk54_0_ret, xk54_1_ret, xk54_2_ret, xk54_3_ret, ↓syP, syA, rtN, pureL, V.pure, nsh, stBk, V.kill, killL, spl, V.shift, shiftL, V.scal, scalL, intR, boolR, threeV, Nat.reduceAdd, Nat.reduceSub, Nat.reduceMul, Nat.reduceLT, Nat.reduceLeDiff, Nat.reduceEqDiff, Nat.reduceBEq, Nat.reduceBNe, Int.reduceBEq, Int.reduceBNe, Int.reduceLT, Int.reduceLE, Int.reduceAdd, Int.reduceSub, Int.reduceNeg, xF, xcallV, xcallC, xcallL, xcallY, xevY, xY_ready, xrange, xG_fn, xR, xA, xcl62, xclk62, xcl71, xclk71, xr54_1, ih, ho0]
    all_goals simp -implicitDefEqProofs only [List.map_nil]
def g_poacherref04_May_L0 (k : Nat) (v0 : (List (Int × List Int)))  : Nat → Int → List Bool → Option Bool
  | 0, _, _ => none
  | n + 1, s181, s193 =>
    bif decide (s181 < (↑v0.length : Int)) then
     ob (idx v0 s181) fun x201 =>
     bif decide (x201.fst < (0 : Int)) then
      some (false)
     else
      ob (idx v0 s181) fun x202 =>
      bif decide ((20 : Int) < x202.fst) then
       some (false)
      else
       g_poacherref04_May_L1 k v0 (fun s181 s193 => g_poacherref04_May_L0 k v0  n s181 s193) (k) ((0 : Int)) (s193) (s181)
    else
     some (true)
theorem g_poacherref04_May_L0_eq (k : Nat) (v0 : (List (Int × List Int))) : ∀ (n : Nat) (s181 : Int) (s193 : List Bool) ⦃j182 j192 : V⦄, rt none (itX (xX (xS k) (54 : Nat) (0 : Nat) k false) xl54_0 ((1 : Nat)) (runK (xX (xS k) (54 : Nat) (0 : Nat) k false) (bodyK (xS k).P Try.f54) xk54_0) n ⟨(V.ro (List.map taskV v0) :: uu :: V.lit (Value.bool false) :: V.own (0 : Nat) (0 : Nat) v0.length :: V.lit (Value.int IntKind.i64 s181) :: j182 :: j192 :: V.ro (List.map taskV v0) :: V.lit (Value.int IntKind.i64 (↑v0.length : Int)) :: V.lit (Value.bool (decide ((30 : Int) < (↑v0.length : Int)))) :: V.ro (List.map taskV v0) :: V.lit (Value.int IntKind.i64 (↑v0.length : Int)) :: V.own (0 : Nat) (0 : Nat) v0.length :: V.junk :: V.junk :: V.junk :: V.junk :: V.junk :: V.junk :: V.junk :: V.junk :: V.junk :: V.junk :: V.junk :: V.junk :: V.junk :: V.junk :: V.junk :: V.junk :: V.junk :: V.junk :: V.junk :: V.junk :: V.junk :: V.junk :: V.junk :: V.junk :: V.junk :: V.junk :: V.junk :: V.junk :: V.junk :: V.junk :: V.junk :: V.junk :: V.junk :: V.junk :: V.junk :: V.junk :: V.junk :: V.junk :: V.junk :: V.junk :: V.junk :: V.junk :: V.junk :: V.junk :: V.junk :: V.junk :: V.junk :: V.junk :: V.junk :: V.junk :: V.junk :: V.junk :: V.junk :: V.junk :: V.junk :: V.junk :: []), [B.rows (1 : Nat) (List.map boolR s193) (0 : Nat) true]⟩) = ob (g_poacherref04_May_L0 k v0  n s181 s193) fun r => some ((.lit (.bool r)), []) := by
  intro n
  induction n with
  | zero => intros; rfl
  | succ n ih =>
    intro s181 s193 j182 j192
    rw [g_poacherref04_May_L0]
    simp (maxSteps := 2000000) -implicitDefEqProofs only [xe54, xb54, xz54, xj54_0, xm54_1, xj54_2, xm54_3, xm54_4, xk54_0_ret, xk54_1_ret, xk54_2_ret, xk54_3_ret, ↓syP, syA, rtN, pureL, V.pure, nsh, stBk, V.kill, killL, spl, V.shift, shiftL, V.scal, scalL, intR, boolR, threeV, Nat.reduceAdd, Nat.reduceSub, Nat.reduceMul, Nat.reduceLT, Nat.reduceLeDiff, Nat.reduceEqDiff, Nat.reduceBEq, Nat.reduceBNe, Int.reduceBEq, Int.reduceBNe, Int.reduceLT, Int.reduceLE, Int.reduceAdd, Int.reduceSub, Int.reduceNeg, xF, xcallV, xcallC, xcallL, xcallY, xevY, xY_ready, xrange, xG_fn, xR, xA, xcl62, xclk62, xcl71, xclk71, xr54_0, ih, g_poacherref04_May_L1_eq k v0 _ (fun s181 s193 => g_poacherref04_May_L0 k v0  n s181 s193) ih]
    all_goals simp -implicitDefEqProofs only [List.map_nil]
def g_poacherref04_May (k : Nat) (v0 : (List (Int × List Int))) : Option Bool :=
  bif decide ((30 : Int) < (↑v0.length : Int)) then
   some (false)
  else
   bif decide ((0 : Int) ≤ (↑v0.length : Int) ∧ (↑v0.length : Int) ≤ (9223372036854775807 : Int) ∧ (↑v0.length : Int) * (1 : Int) ≤ (70368744177664 : Int)) then
    g_poacherref04_May_L0 k v0 (k) ((0 : Int)) (List.replicate v0.length false)
   else
    none
theorem h_poacherref04_May (k : Nat) (v0 : (List (Int × List Int))) : xC (k + 1) none 54 [(.ro (List.map taskV v0))] = ob (g_poacherref04_May k v0) fun r => some ((.lit (.bool r)), []) := by
  rw [xC_eq]
  unfold g_poacherref04_May
  simp (maxSteps := 2000000) -implicitDefEqProofs only [xe54, xb54, xz54, xj54_0, xm54_1, xj54_2, xm54_3, xm54_4, xk54_0_ret, xk54_1_ret, xk54_2_ret, xk54_3_ret, ↓syP, syA, rtN, pureL, V.pure, nsh, stBk, V.kill, killL, spl, V.shift, shiftL, V.scal, scalL, intR, boolR, threeV, Nat.reduceAdd, Nat.reduceSub, Nat.reduceMul, Nat.reduceLT, Nat.reduceLeDiff, Nat.reduceEqDiff, Nat.reduceBEq, Nat.reduceBNe, Int.reduceBEq, Int.reduceBNe, Int.reduceLT, Int.reduceLE, Int.reduceAdd, Int.reduceSub, Int.reduceNeg, xF, xcallV, xcallC, xcallL, xcallY, xevY, xY_ready, xrange, xG_fn, xR, xA, xcl62, xclk62, xcl71, xclk71, g_poacherref04_May_L0_eq k v0]
  all_goals simp -implicitDefEqProofs only [List.map_nil]
def g_poacherref04_Same_L0 (k : Nat) (v0 : (List (Int × List Int))) (v1 : (List (Int × List Int)))  : Nat → Int → Option Bool
  | 0, _ => none
  | n + 1, s214 =>
    bif decide (s214 < (↑v0.length : Int)) then
     ob (idx v0 s214) fun x221 =>
     ob (idx v1 s214) fun x222 =>
     ob (g_poacherref04_Ints k x221.snd x222.snd) fun x223 =>
     bif !x223 then
      some (false)
     else
      ob (idx v0 s214) fun x224 =>
      ob (idx v1 s214) fun x225 =>
      bif x224.fst != x225.fst then
       some (false)
      else
       g_poacherref04_Same_L0 k v0 v1  n (IntKind.i64.wrap (s214 + (1 : Int)))
    else
     some (true)
theorem g_poacherref04_Same_L0_eq (k : Nat) (v0 : (List (Int × List Int))) (v1 : (List (Int × List Int))) : ∀ (n : Nat) (s214 : Int) ⦃j215 : V⦄, rt none (itX (xX (xS (k + (1 : Nat))) (55 : Nat) (0 : Nat) (k + (1 : Nat)) false) xl55_0 ((0 : Nat)) (runK (xX (xS (k + (1 : Nat))) (55 : Nat) (0 : Nat) (k + (1 : Nat)) false) (bodyK (xS (k + (1 : Nat))).P Try.f55) xk55_0) n ⟨[V.ro (List.map taskV v0), V.ro (List.map taskV v1), uu, uu, V.lit (Value.bool false), V.lit (Value.int IntKind.i64 s214), j215, V.ro (List.map taskV v0), V.lit (Value.int IntKind.i64 (↑v0.length : Int)), V.ro (List.map taskV v1), V.lit (Value.int IntKind.i64 (↑v1.length : Int)), V.lit (Value.bool ((↑v0.length : Int) != (↑v1.length : Int))), V.junk, V.junk, V.junk, V.junk, V.junk, V.junk, V.junk, V.junk, V.junk, V.junk, V.junk, V.junk, V.junk, V.junk, V.junk, V.junk, V.junk, V.junk, V.junk, V.junk, V.junk, V.junk, V.junk, V.junk, V.junk, V.junk, V.junk, V.junk, V.junk, V.junk, V.junk, V.junk], []⟩) = ob (g_poacherref04_Same_L0 k v0 v1  n s214) fun r => some ((.lit (.bool r)), []) := by
  intro n
  induction n with
  | zero => intros; rfl
  | succ n ih =>
    intro s214 j215
    rw [g_poacherref04_Same_L0]
    simp (maxSteps := 2000000) -implicitDefEqProofs only [xe55, xb55, xz55, xj55_0, xm55_1, xk55_0_ret, xk55_1_ret, ↓syP, syA, rtN, pureL, V.pure, nsh, stBk, V.kill, killL, spl, V.shift, shiftL, V.scal, scalL, intR, boolR, threeV, Nat.reduceAdd, Nat.reduceSub, Nat.reduceMul, Nat.reduceLT, Nat.reduceLeDiff, Nat.reduceEqDiff, Nat.reduceBEq, Nat.reduceBNe, Int.reduceBEq, Int.reduceBNe, Int.reduceLT, Int.reduceLE, Int.reduceAdd, Int.reduceSub, Int.reduceNeg, xF, xcallV, xcallC, xcallL, xcallY, xevY, xY_ready, xrange, xG_fn, xR, xA, xcl62, xclk62, xcl71, xclk71, h_poacherref04_Ints, xr55_0, ih]
    all_goals simp -implicitDefEqProofs only [List.map_nil]
def g_poacherref04_Same (k : Nat) (v0 : (List (Int × List Int))) (v1 : (List (Int × List Int))) : Option Bool :=
  bif (↑v0.length : Int) != (↑v1.length : Int) then
   some (false)
  else
   g_poacherref04_Same_L0 k v0 v1 (k + (1 : Nat)) ((0 : Int))
theorem h_poacherref04_Same (k : Nat) (v0 : (List (Int × List Int))) (v1 : (List (Int × List Int))) : xC (k + 2) none 55 [(.ro (List.map taskV v0)), (.ro (List.map taskV v1))] = ob (g_poacherref04_Same k v0 v1) fun r => some ((.lit (.bool r)), []) := by
  rw [xC_eq]
  unfold g_poacherref04_Same
  simp (maxSteps := 2000000) -implicitDefEqProofs only [xe55, xb55, xz55, xj55_0, xm55_1, xk55_0_ret, xk55_1_ret, ↓syP, syA, rtN, pureL, V.pure, nsh, stBk, V.kill, killL, spl, V.shift, shiftL, V.scal, scalL, intR, boolR, threeV, Nat.reduceAdd, Nat.reduceSub, Nat.reduceMul, Nat.reduceLT, Nat.reduceLeDiff, Nat.reduceEqDiff, Nat.reduceBEq, Nat.reduceBNe, Int.reduceBEq, Int.reduceBNe, Int.reduceLT, Int.reduceLE, Int.reduceAdd, Int.reduceSub, Int.reduceNeg, xF, xcallV, xcallC, xcallL, xcallY, xevY, xY_ready, xrange, xG_fn, xR, xA, xcl62, xclk62, xcl71, xclk71, g_poacherref04_Same_L0_eq k v0 v1]
  all_goals simp -implicitDefEqProofs only [List.map_nil]
def g_poacherref04_Sums_L0 (k : Nat) (v0 : (List (Int × List Int)))  : Nat → Int → Int → Option (Int × Int)
  | 0, _, _ => none
  | n + 1, s232, s233 =>
    bif decide (s233 < (↑v0.length : Int)) then
     ob (idx v0 s233) fun x236 =>
     g_poacherref04_Sums_L0 k v0  n (IntKind.i64.wrap (s232 + x236.fst)) (IntKind.i64.wrap (s233 + (1 : Int)))
    else
     some (((↑v0.length : Int)), (s232))
theorem g_poacherref04_Sums_L0_eq (k : Nat) (v0 : (List (Int × List Int))) : ∀ (n : Nat) (s232 : Int) (s233 : Int) ⦃s228 : Bool⦄ ⦃s229 : Bool⦄, rt none (itX (xX (xS (k + (1 : Nat))) (53 : Nat) (0 : Nat) (k + (1 : Nat)) false) xl53_0 ((0 : Nat)) (runK (xX (xS (k + (1 : Nat))) (53 : Nat) (0 : Nat) (k + (1 : Nat)) false) (bodyK (xS (k + (1 : Nat))).P Try.f53) xk53_0) n ⟨[V.ro (List.map taskV v0), uu, V.lit (Value.int IntKind.i64 (0 : Int)), V.lit (Value.int IntKind.i64 (0 : Int)), V.lit (Value.bool s228), V.lit (Value.int IntKind.i64 s232), V.lit (Value.int IntKind.i64 s233), V.ro (List.map taskV v0), V.lit (Value.bool s228), V.lit (Value.bool s228), V.lit (Value.bool s229), V.junk, V.junk, V.junk, V.junk, V.junk, V.junk, V.junk, V.junk, V.junk, V.junk, V.junk, V.junk, V.junk, uu, uu, uu], []⟩) = ob (g_poacherref04_Sums_L0 k v0  n s232 s233) fun r => some ((.tup [(.lit (.int .i64 r.1)), (.lit (.int .i64 r.2))]), []) := by
  intro n
  induction n with
  | zero => intros; rfl
  | succ n ih =>
    intro s232 s233 s228 s229
    rw [g_poacherref04_Sums_L0]
    simp (maxSteps := 2000000) -implicitDefEqProofs only [xe53, xb53, xz53, xj53_0, xk53_0_ret, ↓syP, syA, rtN, pureL, V.pure, nsh, stBk, V.kill, killL, spl, V.shift, shiftL, V.scal, scalL, intR, boolR, threeV, Nat.reduceAdd, Nat.reduceSub, Nat.reduceMul, Nat.reduceLT, Nat.reduceLeDiff, Nat.reduceEqDiff, Nat.reduceBEq, Nat.reduceBNe, Int.reduceBEq, Int.reduceBNe, Int.reduceLT, Int.reduceLE, Int.reduceAdd, Int.reduceSub, Int.reduceNeg, xF, xcallV, xcallC, xcallL, xcallY, xevY, xY_ready, xrange, xG_fn, xR, xA, xcl62, xclk62, xcl71, xclk71, h_poacherref04_May, xr53_0, ih]
    all_goals simp -implicitDefEqProofs only [List.map_nil]
def g_poacherref04_Sums (k : Nat) (v0 : (List (Int × List Int))) : Option (Int × Int) :=
  ob (g_poacherref04_May k v0) fun x237 =>
  bif !x237 then
   some (((0 : Int)), ((0 : Int)))
  else
   g_poacherref04_Sums_L0 k v0 (k + (1 : Nat)) ((0 : Int)) ((0 : Int))
theorem h_poacherref04_Sums (k : Nat) (v0 : (List (Int × List Int))) : xC (k + 2) none 53 [(.ro (List.map taskV v0))] = ob (g_poacherref04_Sums k v0) fun r => some ((.tup [(.lit (.int .i64 r.1)), (.lit (.int .i64 r.2))]), []) := by
  rw [xC_eq]
  unfold g_poacherref04_Sums
  simp (maxSteps := 2000000) -implicitDefEqProofs only [xe53, xb53, xz53, xj53_0, xk53_0_ret, ↓syP, syA, rtN, pureL, V.pure, nsh, stBk, V.kill, killL, spl, V.shift, shiftL, V.scal, scalL, intR, boolR, threeV, Nat.reduceAdd, Nat.reduceSub, Nat.reduceMul, Nat.reduceLT, Nat.reduceLeDiff, Nat.reduceEqDiff, Nat.reduceBEq, Nat.reduceBNe, Int.reduceBEq, Int.reduceBNe, Int.reduceLT, Int.reduceLE, Int.reduceAdd, Int.reduceSub, Int.reduceNeg, xF, xcallV, xcallC, xcallL, xcallY, xevY, xY_ready, xrange, xG_fn, xR, xA, xcl62, xclk62, xcl71, xclk71, h_poacherref04_May, g_poacherref04_Sums_L0_eq k v0]
  all_goals simp -implicitDefEqProofs only [List.map_nil]
def g_poacherref04_Parent_L1 (k : Nat) (v0 : (List (Int × List Int))) (v1 : Int) (o0 : Bool → Int → Option Int) : Nat → Bool → Int → Int → Option Int
  | 0, _, _, _ => none
  | n + 1, s244, s249, s256 =>
    ob (idx v0 s256) fun x262 =>
    bif decide (s249 < (↑x262.snd.length : Int)) then
     ob (idx v0 s256) fun x263 =>
     ob (idx x263.snd s249) fun x264 =>
     bif x264 == v1 then
      some (s256)
     else
      g_poacherref04_Parent_L1 k v0 v1 o0 n (s244) (IntKind.i64.wrap (s249 + (1 : Int))) (s256)
    else
     o0 (s244) (IntKind.i64.wrap (s256 + (1 : Int)))
theorem g_poacherref04_Parent_L1_eq (k : Nat) (v0 : (List (Int × List Int))) (v1 : Int) (n240 : Nat) (o0 : Bool → Int → Option Int) (ho0 : ∀ (s241 : Bool) (s250 : Int) ⦃j251 : V⦄, rt none (itX (xX (xS (k + (1 : Nat))) (61 : Nat) (0 : Nat) (k + (1 : Nat)) false) xl61_0 ((0 : Nat)) (runK (xX (xS (k + (1 : Nat))) (61 : Nat) (0 : Nat) (k + (1 : Nat)) false) (bodyK (xS (k + (1 : Nat))).P Try.f61) xk61_0) n240 ⟨[V.ro (List.map taskV v0), V.lit (Value.int IntKind.i64 v1), uu, uu, V.lit (Value.int IntKind.i64 (0 : Int)), V.lit (Value.bool s241), V.lit (Value.int IntKind.i64 s250), j251, V.ro (List.map taskV v0), V.lit (Value.bool s241), V.junk, V.junk, V.junk, V.junk, V.junk, V.junk, V.junk, V.junk, V.junk, V.junk, V.junk, V.junk, V.junk, V.junk, V.junk, V.junk, V.junk, V.junk, V.junk, V.junk, V.junk, V.junk, V.junk, V.junk, V.junk, V.junk, V.junk, V.junk, V.junk, V.junk], []⟩) = ob (o0 s241 s250) fun r => some ((.lit (.int .i64 r)), [])) : ∀ (n : Nat) (s244 : Bool) (s249 : Int) (s256 : Int) ⦃s257 : Bool⦄, rt none (itX (xX (xS (k + (1 : Nat))) (61 : Nat) (0 : Nat) (k + (1 : Nat)) false) xl61_1 ((0 : Nat)) (runK (xX (xS (k + (1 : Nat))) (61 : Nat) (0 : Nat) (k + (1 : Nat)) false) (nextK (xX (xS (k + (1 : Nat))) (61 : Nat) (0 : Nat) (k + (1 : Nat)) false) xl61_0 (0 : Nat) (runK (xX (xS (k + (1 : Nat))) (61 : Nat) (0 : Nat) (k + (1 : Nat)) false) (bodyK (xS (k + (1 : Nat))).P Try.f61) xk61_0) n240) xk61_2) n ⟨[V.ro (List.map taskV v0), V.lit (Value.int IntKind.i64 v1), uu, uu, V.lit (Value.int IntKind.i64 (0 : Int)), V.lit (Value.bool s244), V.lit (Value.int IntKind.i64 s256), V.lit (Value.int IntKind.i64 s249), V.ro (List.map taskV v0), V.lit (Value.bool s244), V.lit (Value.int IntKind.i64 s256), V.ro (List.map taskV v0), V.lit (Value.int IntKind.i64 (↑v0.length : Int)), V.lit (Value.bool s257), V.lit (Value.bool true), V.lit (Value.bool s244), V.lit (Value.bool s244), V.junk, V.junk, V.junk, V.junk, V.junk, V.junk, V.junk, V.junk, V.junk, V.junk, V.junk, V.junk, V.junk, V.junk, V.junk, V.junk, V.junk, V.junk, V.junk, V.junk, V.junk, V.junk, V.junk], []⟩) = ob (g_poacherref04_Parent_L1 k v0 v1 o0 n s244 s249 s256) fun r => some ((.lit (.int .i64 r)), []) := by
  intro n
  induction n with
  | zero => intros; rfl
  | succ n ih =>
    intro s244 s249 s256 s257
    rw [g_poacherref04_Parent_L1]
    simp (maxSteps := 2000000) -implicitDefEqProofs only [xe61, xb61, xz61, xj61_0, xm61_1, xj61_2, xk61_0_ret, xk61_1_ret, xk61_2_ret, ↓syP, syA, rtN, pureL, V.pure, nsh, stBk, V.kill, killL, spl, V.shift, shiftL, V.scal, scalL, intR, boolR, threeV, Nat.reduceAdd, Nat.reduceSub, Nat.reduceMul, Nat.reduceLT, Nat.reduceLeDiff, Nat.reduceEqDiff, Nat.reduceBEq, Nat.reduceBNe, Int.reduceBEq, Int.reduceBNe, Int.reduceLT, Int.reduceLE, Int.reduceAdd, Int.reduceSub, Int.reduceNeg, xF, xcallV, xcallC, xcallL, xcallY, xevY, xY_ready, xrange, xG_fn, xR, xA, xcl62, xclk62, xcl71, xclk71, h_poacherref04_May, xr61_1, ih, ho0]
    all_goals simp -implicitDefEqProofs only [List.map_nil]
def g_poacherref04_Parent_L0 (k : Nat) (v0 : (List (Int × List Int))) (v1 : Int)  : Nat → Bool → Int → Option Int
  | 0, _, _ => none
  | n + 1, s241, s250 =>
    bif decide (s250 < (↑v0.length : Int)) then
     bif s241 then
      g_poacherref04_Parent_L1 k v0 v1 (fun s241 s250 => g_poacherref04_Parent_L0 k v0 v1  n s241 s250) (k + (1 : Nat)) (s241) ((0 : Int)) (s250)
     else
      some ((-1 : Int))
    else
     some ((-1 : Int))
theorem g_poacherref04_Parent_L0_eq (k : Nat) (v0 : (List (Int × List Int))) (v1 : Int) : ∀ (n : Nat) (s241 : Bool) (s250 : Int) ⦃j251 : V⦄, rt none (itX (xX (xS (k + (1 : Nat))) (61 : Nat) (0 : Nat) (k + (1 : Nat)) false) xl61_0 ((0 : Nat)) (runK (xX (xS (k + (1 : Nat))) (61 : Nat) (0 : Nat) (k + (1 : Nat)) false) (bodyK (xS (k + (1 : Nat))).P Try.f61) xk61_0) n ⟨[V.ro (List.map taskV v0), V.lit (Value.int IntKind.i64 v1), uu, uu, V.lit (Value.int IntKind.i64 (0 : Int)), V.lit (Value.bool s241), V.lit (Value.int IntKind.i64 s250), j251, V.ro (List.map taskV v0), V.lit (Value.bool s241), V.junk, V.junk, V.junk, V.junk, V.junk, V.junk, V.junk, V.junk, V.junk, V.junk, V.junk, V.junk, V.junk, V.junk, V.junk, V.junk, V.junk, V.junk, V.junk, V.junk, V.junk, V.junk, V.junk, V.junk, V.junk, V.junk, V.junk, V.junk, V.junk, V.junk], []⟩) = ob (g_poacherref04_Parent_L0 k v0 v1  n s241 s250) fun r => some ((.lit (.int .i64 r)), []) := by
  intro n
  induction n with
  | zero => intros; rfl
  | succ n ih =>
    intro s241 s250 j251
    rw [g_poacherref04_Parent_L0]
    simp (maxSteps := 2000000) -implicitDefEqProofs only [xe61, xb61, xz61, xj61_0, xm61_1, xj61_2, xk61_0_ret, xk61_1_ret, xk61_2_ret, ↓syP, syA, rtN, pureL, V.pure, nsh, stBk, V.kill, killL, spl, V.shift, shiftL, V.scal, scalL, intR, boolR, threeV, Nat.reduceAdd, Nat.reduceSub, Nat.reduceMul, Nat.reduceLT, Nat.reduceLeDiff, Nat.reduceEqDiff, Nat.reduceBEq, Nat.reduceBNe, Int.reduceBEq, Int.reduceBNe, Int.reduceLT, Int.reduceLE, Int.reduceAdd, Int.reduceSub, Int.reduceNeg, xF, xcallV, xcallC, xcallL, xcallY, xevY, xY_ready, xrange, xG_fn, xR, xA, xcl62, xclk62, xcl71, xclk71, h_poacherref04_May, xr61_0, ih, g_poacherref04_Parent_L1_eq k v0 v1 _ (fun s241 s250 => g_poacherref04_Parent_L0 k v0 v1  n s241 s250) ih]
    all_goals simp -implicitDefEqProofs only [List.map_nil]
def g_poacherref04_Parent (k : Nat) (v0 : (List (Int × List Int))) (v1 : Int) : Option Int :=
  ob (g_poacherref04_May k v0) fun x265 =>
  g_poacherref04_Parent_L0 k v0 v1 (k + (1 : Nat)) (x265) ((0 : Int))
theorem h_poacherref04_Parent (k : Nat) (v0 : (List (Int × List Int))) (v1 : Int) : xC (k + 2) none 61 [(.ro (List.map taskV v0)), (.lit (.int .i64 v1))] = ob (g_poacherref04_Parent k v0 v1) fun r => some ((.lit (.int .i64 r)), []) := by
  rw [xC_eq]
  unfold g_poacherref04_Parent
  simp (maxSteps := 2000000) -implicitDefEqProofs only [xe61, xb61, xz61, xj61_0, xm61_1, xj61_2, xk61_0_ret, xk61_1_ret, xk61_2_ret, ↓syP, syA, rtN, pureL, V.pure, nsh, stBk, V.kill, killL, spl, V.shift, shiftL, V.scal, scalL, intR, boolR, threeV, Nat.reduceAdd, Nat.reduceSub, Nat.reduceMul, Nat.reduceLT, Nat.reduceLeDiff, Nat.reduceEqDiff, Nat.reduceBEq, Nat.reduceBNe, Int.reduceBEq, Int.reduceBNe, Int.reduceLT, Int.reduceLE, Int.reduceAdd, Int.reduceSub, Int.reduceNeg, xF, xcallV, xcallC, xcallL, xcallY, xevY, xY_ready, xrange, xG_fn, xR, xA, xcl62, xclk62, xcl71, xclk71, h_poacherref04_May, g_poacherref04_Parent_L0_eq k v0 v1]
  all_goals simp -implicitDefEqProofs only [List.map_nil]
def g_poacherref04_Roots_L0 (k : Nat) (v0 : (List (Int × List Int)))  : Nat → Bool → List Int → Int → Nat → Option (List Int)
  | 0, _, _, _, _ => none
  | n + 1, s269, s273, s274, s277 =>
    bif decide (s274 < (↑v0.length : Int)) then
     bif s269 then
      ob (g_poacherref04_Parent k v0 s274) fun x280 =>
      bif decide (x280 < (0 : Int)) then
       ck (s277 == (1 : Nat) || s277 == (0 : Nat)) (
       bif room (s273 ++ [s274]).length (8 : Nat) then
        g_poacherref04_Roots_L0 k v0  n (s269) (s273 ++ [s274]) (IntKind.i64.wrap (s274 + (1 : Int))) ((1 : Nat))
       else
        none)
      else
       g_poacherref04_Roots_L0 k v0  n (s269) (s273) (IntKind.i64.wrap (s274 + (1 : Int))) (s277)
     else
      some (s273)
    else
     some (s273)
theorem g_poacherref04_Roots_L0_eq (k : Nat) (v0 : (List (Int × List Int))) : ∀ (n : Nat) (s269 : Bool) (s273 : List Int) (s274 : Int) (s277 : Nat) ⦃s272 : Nat⦄, rt none (itX (xX (xS (k + (2 : Nat))) (57 : Nat) (0 : Nat) (k + (2 : Nat)) false) xl57_0 ((2 : Nat)) (runK (xX (xS (k + (2 : Nat))) (57 : Nat) (0 : Nat) (k + (2 : Nat)) false) (bodyK (xS (k + (2 : Nat))).P Try.f57) xk57_0) n ⟨[V.ro (List.map taskV v0), uu, V.own (0 : Nat) (0 : Nat) (0 : Nat), V.lit (Value.bool s269), V.own (1 : Nat) s272 s273.length, V.lit (Value.int IntKind.i64 s274), V.ro (List.map taskV v0), V.lit (Value.bool s269), V.junk, V.junk, V.junk, V.junk, V.junk, V.junk, V.junk, V.junk, V.junk, V.junk, V.junk, V.junk, V.junk, V.junk, V.junk, V.junk, V.junk, uu], [B.rows (0 : Nat) [] (0 : Nat) true, B.rows s277 (List.map (intR IntKind.i64) s273) s272 true]⟩) = ob (g_poacherref04_Roots_L0 k v0  n s269 s273 s274 s277) fun r => some ((.ro (List.map (intR .i64) r)), []) := by
  intro n
  induction n with
  | zero => intros; rfl
  | succ n ih =>
    intro s269 s273 s274 s277 s272
    rw [g_poacherref04_Roots_L0]
    simp (maxSteps := 2000000) -implicitDefEqProofs only [xe57, xb57, xz57, xj57_0, xm57_1, xj57_2, xk57_0_ret, xk57_1_ret, xk57_2_ret, ↓syP, syA, rtN, pureL, V.pure, nsh, stBk, V.kill, killL, spl, V.shift, shiftL, V.scal, scalL, intR, boolR, threeV, Nat.reduceAdd, Nat.reduceSub, Nat.reduceMul, Nat.reduceLT, Nat.reduceLeDiff, Nat.reduceEqDiff, Nat.reduceBEq, Nat.reduceBNe, Int.reduceBEq, Int.reduceBNe, Int.reduceLT, Int.reduceLE, Int.reduceAdd, Int.reduceSub, Int.reduceNeg, xF, xcallV, xcallC, xcallL, xcallY, xevY, xY_ready, xrange, xG_fn, xR, xA, xcl62, xclk62, xcl71, xclk71, h_poacherref04_May, h_poacherref04_Parent, xr57_0, ih]
    all_goals simp -implicitDefEqProofs only [List.map_nil]
def g_poacherref04_Roots (k : Nat) (v0 : (List (Int × List Int))) : Option (List Int) :=
  ob (g_poacherref04_May (k + (1 : Nat)) v0) fun x281 =>
  g_poacherref04_Roots_L0 k v0 (k + (2 : Nat)) (x281) ([]) ((0 : Int)) ((0 : Nat))
theorem h_poacherref04_Roots (k : Nat) (v0 : (List (Int × List Int))) : xC (k + 3) none 57 [(.ro (List.map taskV v0))] = ob (g_poacherref04_Roots k v0) fun r => some ((.ro (List.map (intR .i64) r)), []) := by
  rw [xC_eq]
  unfold g_poacherref04_Roots
  have hl0 := fun (x282 : Bool) => g_poacherref04_Roots_L0_eq k v0 (k + (2 : Nat)) (x282) ([]) ((0 : Int)) ((0 : Nat))
  simp -implicitDefEqProofs only [List.map_nil, List.length_nil] at hl0
  simp (maxSteps := 2000000) -implicitDefEqProofs only [xe57, xb57, xz57, xj57_0, xm57_1, xj57_2, xk57_0_ret, xk57_1_ret, xk57_2_ret, ↓syP, syA, rtN, pureL, V.pure, nsh, stBk, V.kill, killL, spl, V.shift, shiftL, V.scal, scalL, intR, boolR, threeV, Nat.reduceAdd, Nat.reduceSub, Nat.reduceMul, Nat.reduceLT, Nat.reduceLeDiff, Nat.reduceEqDiff, Nat.reduceBEq, Nat.reduceBNe, Int.reduceBEq, Int.reduceBNe, Int.reduceLT, Int.reduceLE, Int.reduceAdd, Int.reduceSub, Int.reduceNeg, xF, xcallV, xcallC, xcallL, xcallY, xevY, xY_ready, xrange, xG_fn, xR, xA, xcl62, xclk62, xcl71, xclk71, h_poacherref04_May, g_poacherref04_Roots_L0_eq k v0, hl0]
  all_goals simp -implicitDefEqProofs only [List.map_nil]
end Go.Ab
