/- Functions as they are walked: printed by Walk.lean. -/
import Derived.Test.YthnifkacfonhgaaR2GW
import Derived.Test.YthnifkacfonhgaaR2BR
set_option maxRecDepth 100000
set_option linter.unusedVariables false
set_option linter.unusedSimpArgs false
namespace Go.Ab
open Go.Proofs
def g_poacherref03_May (v0 : (Int × Int × Int × Int)) : Option Bool :=
  bif v0.2.1 == (1 : Int) then
   bif decide ((1 : Int) ≤ v0.1) then
    bif decide (v0.1 ≤ (8 : Int)) then
     bif decide ((1 : Int) ≤ v0.2.2.1) then
      bif decide (v0.2.2.1 ≤ (16 : Int)) then
       bif decide ((0 : Int) ≤ v0.2.2.2) then
        some (decide (v0.2.2.2 ≤ (4 : Int)))
       else
        some (false)
      else
       some (false)
     else
      some (false)
    else
     some (false)
   else
    some (false)
  else
   bif v0.2.1 == (2 : Int) then
    bif decide ((1 : Int) ≤ v0.1) then
     bif decide (v0.1 ≤ (8 : Int)) then
      bif decide ((1 : Int) ≤ v0.2.2.1) then
       bif decide (v0.2.2.1 ≤ (16 : Int)) then
        bif decide ((0 : Int) ≤ v0.2.2.2) then
         some (decide (v0.2.2.2 ≤ (4 : Int)))
        else
         some (false)
       else
        some (false)
      else
       some (false)
     else
      some (false)
    else
     some (false)
   else
    bif v0.2.1 == (4 : Int) then
     bif decide ((1 : Int) ≤ v0.1) then
      bif decide (v0.1 ≤ (8 : Int)) then
       bif decide ((1 : Int) ≤ v0.2.2.1) then
        bif decide (v0.2.2.1 ≤ (16 : Int)) then
         bif decide ((0 : Int) ≤ v0.2.2.2) then
          some (decide (v0.2.2.2 ≤ (4 : Int)))
         else
          some (false)
        else
         some (false)
       else
        some (false)
      else
       some (false)
     else
      some (false)
    else
     bif v0.2.1 == (8 : Int) then
      bif decide ((1 : Int) ≤ v0.1) then
       bif decide (v0.1 ≤ (8 : Int)) then
        bif decide ((1 : Int) ≤ v0.2.2.1) then
         bif decide (v0.2.2.1 ≤ (16 : Int)) then
          bif decide ((0 : Int) ≤ v0.2.2.2) then
           some (decide (v0.2.2.2 ≤ (4 : Int)))
          else
           some (false)
         else
          some (false)
        else
         some (false)
       else
        some (false)
      else
       some (false)
     else
      bif decide ((1 : Int) ≤ v0.1) then
       bif decide (v0.1 ≤ (8 : Int)) then
        bif v0.2.1 == (16 : Int) then
         bif decide ((1 : Int) ≤ v0.2.2.1) then
          bif decide (v0.2.2.1 ≤ (16 : Int)) then
           bif decide ((0 : Int) ≤ v0.2.2.2) then
            some (decide (v0.2.2.2 ≤ (4 : Int)))
           else
            some (false)
          else
           some (false)
         else
          some (false)
        else
         some (false)
       else
        some (false)
      else
       some (false)
theorem h_poacherref03_May (k : Nat) (v0_0 : Int) (v0_1 : Int) (v0_2 : Int) (v0_3 : Int) : xC (k + 1) none 64 [(.agg [(.lit (.int .i64 v0_0)), (.lit (.int .i64 v0_1)), (.lit (.int .i64 v0_2)), (.lit (.int .i64 v0_3))])] = ob (g_poacherref03_May (v0_0, v0_1, v0_2, v0_3)) fun r => some ((.lit (.bool r)), []) := by
  rw [xC_eq]
  unfold g_poacherref03_May
  simp (maxSteps := 2000000) -implicitDefEqProofs only [xe64, xb64, xm64_0, xm64_1, xm64_2, xm64_3, xm64_4, xm64_5, xm64_6, xm64_7, xm64_8, xm64_9, xk64_0_ret, xk64_1_ret, ↓syP, syA, rtN, pureL, V.pure, nsh, stBk, V.kill, killL, spl, V.shift, shiftL, V.scal, scalL, intR, boolR, threeV, Nat.reduceAdd, Nat.reduceSub, Nat.reduceMul, Nat.reduceLT, Nat.reduceLeDiff, Nat.reduceEqDiff, Nat.reduceBEq, Nat.reduceBNe, Int.reduceBEq, Int.reduceBNe, Int.reduceLT, Int.reduceLE, Int.reduceAdd, Int.reduceSub, Int.reduceNeg, syQ, confV, frameV, listV, xF, xcallV, xcallC, xcallL, xcallY, xevY, xY_ready, xrange, xG_fn, xR, xA, xcl50, xclk50, xcl83, xclk83, awk14', awk15']
  all_goals simp -implicitDefEqProofs only [List.map_nil]
def g_poacherref06_Over (v0 : (Int × Int × Int × Int × Int × Int × Int)) : Option Bool :=
  some (v0.2.2.2.2.2.2 != (0 : Int))
theorem h_poacherref06_Over (k : Nat) (v0_0 : Int) (v0_1 : Int) (v0_2 : Int) (v0_3 : Int) (v0_4 : Int) (v0_5 : Int) (v0_6 : Int) : xC (k + 1) none 89 [(.agg [(.lit (.int .i64 v0_0)), (.lit (.int .i64 v0_1)), (.lit (.int .i64 v0_2)), (.lit (.int .u64 v0_3)), (.lit (.int .u64 v0_4)), (.lit (.int .u64 v0_5)), (.lit (.int .i64 v0_6))])] = ob (g_poacherref06_Over (v0_0, v0_1, v0_2, v0_3, v0_4, v0_5, v0_6)) fun r => some ((.lit (.bool r)), []) := by
  rw [xC_eq]
  unfold g_poacherref06_Over
  simp (maxSteps := 2000000) -implicitDefEqProofs only [xe89, xb89, ↓syP, syA, rtN, pureL, V.pure, nsh, stBk, V.kill, killL, spl, V.shift, shiftL, V.scal, scalL, intR, boolR, threeV, Nat.reduceAdd, Nat.reduceSub, Nat.reduceMul, Nat.reduceLT, Nat.reduceLeDiff, Nat.reduceEqDiff, Nat.reduceBEq, Nat.reduceBNe, Int.reduceBEq, Int.reduceBNe, Int.reduceLT, Int.reduceLE, Int.reduceAdd, Int.reduceSub, Int.reduceNeg, syQ, confV, frameV, listV, xF, xcallV, xcallC, xcallL, xcallY, xevY, xY_ready, xrange, xG_fn, xR, xA, xcl50, xclk50, xcl83, xclk83, awk14', awk15']
  all_goals simp -implicitDefEqProofs only [List.map_nil]
def g_poacherref03_Size (v0 : (Int × Int × Int × Int)) : Option Int :=
  ob (g_poacherref03_May (v0.1, v0.2.1, v0.2.2.1, v0.2.2.2)) fun x5 =>
  bif !x5 then
   some ((0 : Int))
  else
   some (IntKind.i64.wrap (IntKind.i64.wrap ((6 : Int) + IntKind.i64.wrap ((2 : Int) * v0.2.2.1)) + IntKind.i64.wrap (v0.1 * IntKind.i64.wrap ((3 : Int) + v0.2.1))))
theorem h_poacherref03_Size (k : Nat) (v0_0 : Int) (v0_1 : Int) (v0_2 : Int) (v0_3 : Int) : xC (k + 2) none 65 [(.agg [(.lit (.int .i64 v0_0)), (.lit (.int .i64 v0_1)), (.lit (.int .i64 v0_2)), (.lit (.int .i64 v0_3))])] = ob (g_poacherref03_Size (v0_0, v0_1, v0_2, v0_3)) fun r => some ((.lit (.int .i64 r)), []) := by
  rw [xC_eq]
  unfold g_poacherref03_Size
  simp (maxSteps := 2000000) -implicitDefEqProofs only [xe65, xb65, ↓syP, syA, rtN, pureL, V.pure, nsh, stBk, V.kill, killL, spl, V.shift, shiftL, V.scal, scalL, intR, boolR, threeV, Nat.reduceAdd, Nat.reduceSub, Nat.reduceMul, Nat.reduceLT, Nat.reduceLeDiff, Nat.reduceEqDiff, Nat.reduceBEq, Nat.reduceBNe, Int.reduceBEq, Int.reduceBNe, Int.reduceLT, Int.reduceLE, Int.reduceAdd, Int.reduceSub, Int.reduceNeg, syQ, confV, frameV, listV, xF, xcallV, xcallC, xcallL, xcallY, xevY, xY_ready, xrange, xG_fn, xR, xA, xcl50, xclk50, xcl83, xclk83, awk14', awk15', h_poacherref03_May]
  all_goals simp -implicitDefEqProofs only [List.map_nil]
def g_poacherref07_Goes (v0 : (Int × Int × Int × Int)) (v1 : (List Int)) (v2 : (Int × Int × Int × Int × Int × Int × Int)) (v3 : Int) (v4 : Int) : Option Bool :=
  ob (g_poacherref03_May (v0.1, v0.2.1, v0.2.2.1, v0.2.2.2)) fun x10 =>
  ob (g_poacherref06_Over (v2.1, v2.2.1, v2.2.2.1, v2.2.2.2.1, v2.2.2.2.2.1, v2.2.2.2.2.2.1, v2.2.2.2.2.2.2)) fun x11 =>
  bif x10 then
   ob (g_poacherref03_Size (v0.1, v0.2.1, v0.2.2.1, v0.2.2.2)) fun x12 =>
   bif (↑v1.length : Int) == x12 then
    bif !x11 then
     bif decide ((0 : Int) ≤ v2.2.2.1) then
      bif decide (v2.2.2.1 < v0.1) then
       bif v2.1 == v3 then
        bif decide ((0 : Int) ≤ v2.2.1) then
         some (decide (v2.2.1 < v4))
        else
         some (false)
       else
        some (false)
      else
       some (false)
     else
      some (false)
    else
     some (false)
   else
    some (false)
  else
   some (false)
theorem h_poacherref07_Goes (k : Nat) (v0_0 : Int) (v0_1 : Int) (v0_2 : Int) (v0_3 : Int) (v1 : (List Int)) (v2_0 : Int) (v2_1 : Int) (v2_2 : Int) (v2_3 : Int) (v2_4 : Int) (v2_5 : Int) (v2_6 : Int) (v3 : Int) (v4 : Int) : xC (k + 3) none 56 [(.agg [(.lit (.int .i64 v0_0)), (.lit (.int .i64 v0_1)), (.lit (.int .i64 v0_2)), (.lit (.int .i64 v0_3))]), (.ro (List.map (intR .u64) v1)), (.agg [(.lit (.int .i64 v2_0)), (.lit (.int .i64 v2_1)), (.lit (.int .i64 v2_2)), (.lit (.int .u64 v2_3)), (.lit (.int .u64 v2_4)), (.lit (.int .u64 v2_5)), (.lit (.int .i64 v2_6))]), (.lit (.int .i64 v3)), (.lit (.int .i64 v4))] = ob (g_poacherref07_Goes (v0_0, v0_1, v0_2, v0_3) v1 (v2_0, v2_1, v2_2, v2_3, v2_4, v2_5, v2_6) v3 v4) fun r => some ((.lit (.bool r)), []) := by
  rw [xC_eq]
  unfold g_poacherref07_Goes
  simp (maxSteps := 2000000) -implicitDefEqProofs only [xe56, xb56, xm56_0, xm56_1, xm56_2, xm56_3, xm56_4, xm56_5, xm56_6, xk56_0_ret, ↓syP, syA, rtN, pureL, V.pure, nsh, stBk, V.kill, killL, spl, V.shift, shiftL, V.scal, scalL, intR, boolR, threeV, Nat.reduceAdd, Nat.reduceSub, Nat.reduceMul, Nat.reduceLT, Nat.reduceLeDiff, Nat.reduceEqDiff, Nat.reduceBEq, Nat.reduceBNe, Int.reduceBEq, Int.reduceBNe, Int.reduceLT, Int.reduceLE, Int.reduceAdd, Int.reduceSub, Int.reduceNeg, syQ, confV, frameV, listV, xF, xcallV, xcallC, xcallL, xcallY, xevY, xY_ready, xrange, xG_fn, xR, xA, xcl50, xclk50, xcl83, xclk83, awk14', awk15', h_poacherref03_May, h_poacherref06_Over, h_poacherref03_Size]
  all_goals simp -implicitDefEqProofs only [List.map_nil]
def g_poacherref01_Load (v0 : (List Int)) (v1 : Int) : Option Int :=
  bif decide (v1 < (0 : Int)) then
   some ((0 : Int))
  else
   bif decide ((↑v0.length : Int) ≤ v1) then
    some ((0 : Int))
   else
    ob (idx v0 v1) fun x17 =>
    some (x17)
theorem h_poacherref01_Load (k : Nat) (v0 : (List Int)) (v1 : Int) : xC (k + 1) none 57 [(.ro (List.map (intR .u64) v0)), (.lit (.int .i64 v1))] = ob (g_poacherref01_Load v0 v1) fun r => some ((.lit (.int .u64 r)), []) := by
  rw [xC_eq]
  unfold g_poacherref01_Load
  simp (maxSteps := 2000000) -implicitDefEqProofs only [xe57, xb57, xm57_0, xk57_0_ret, ↓syP, syA, rtN, pureL, V.pure, nsh, stBk, V.kill, killL, spl, V.shift, shiftL, V.scal, scalL, intR, boolR, threeV, Nat.reduceAdd, Nat.reduceSub, Nat.reduceMul, Nat.reduceLT, Nat.reduceLeDiff, Nat.reduceEqDiff, Nat.reduceBEq, Nat.reduceBNe, Int.reduceBEq, Int.reduceBNe, Int.reduceLT, Int.reduceLE, Int.reduceAdd, Int.reduceSub, Int.reduceNeg, syQ, confV, frameV, listV, xF, xcallV, xcallC, xcallL, xcallY, xevY, xY_ready, xrange, xG_fn, xR, xA, xcl50, xclk50, xcl83, xclk83, awk14', awk15']
  all_goals simp -implicitDefEqProofs only [List.map_nil]
def g_poacherref02_Epoch (v0 : Int) : Option Int :=
  some (IntKind.u64.wrap (v0.tdiv (65536 : Int)))
theorem h_poacherref02_Epoch (k : Nat) (v0 : Int) : xC (k + 1) none 58 [(.lit (.int .u64 v0))] = ob (g_poacherref02_Epoch v0) fun r => some ((.lit (.int .u64 r)), []) := by
  rw [xC_eq]
  unfold g_poacherref02_Epoch
  simp (maxSteps := 2000000) -implicitDefEqProofs only [xe58, xb58, ↓syP, syA, rtN, pureL, V.pure, nsh, stBk, V.kill, killL, spl, V.shift, shiftL, V.scal, scalL, intR, boolR, threeV, Nat.reduceAdd, Nat.reduceSub, Nat.reduceMul, Nat.reduceLT, Nat.reduceLeDiff, Nat.reduceEqDiff, Nat.reduceBEq, Nat.reduceBNe, Int.reduceBEq, Int.reduceBNe, Int.reduceLT, Int.reduceLE, Int.reduceAdd, Int.reduceSub, Int.reduceNeg, syQ, confV, frameV, listV, xF, xcallV, xcallC, xcallL, xcallY, xevY, xY_ready, xrange, xG_fn, xR, xA, xcl50, xclk50, xcl83, xclk83, awk14', awk15']
  all_goals simp -implicitDefEqProofs only [List.map_nil]
def g_poacherref02_bit_L0 (k : Nat) (v0 : Int)  : Nat → Int → Int → Option Int
  | 0, _, _ => none
  | n + 1, s23, s24 =>
    bif decide (s24 < v0) then
     g_poacherref02_bit_L0 k v0  n (IntKind.u64.wrap ((2 : Int) * s23)) (IntKind.i64.wrap (s24 + (1 : Int)))
    else
     some (s23)
theorem g_poacherref02_bit_L0_eq (k : Nat) (v0 : Int) : ∀ (n : Nat) (s23 : Int) (s24 : Int), rt none (itX (xX (xS k) (90 : Nat) (0 : Nat) k false) xl90_0 ((0 : Nat)) (runK (xX (xS k) (90 : Nat) (0 : Nat) k false) (bodyK (xS k).P Try.f90) xk90_0) n ⟨[V.lit (Value.int IntKind.i64 v0), uu, V.lit (Value.int IntKind.u64 (0 : Int)), V.lit (Value.int IntKind.u64 s23), V.lit (Value.int IntKind.i64 s24), V.junk, V.junk, V.junk, V.junk, V.junk, V.junk, V.junk, uu], []⟩) = ob (g_poacherref02_bit_L0 k v0  n s23 s24) fun r => some ((.lit (.int .u64 r)), []) := by
  intro n
  induction n with
  | zero => intros; rfl
  | succ n ih =>
    intro s23 s24
    rw [g_poacherref02_bit_L0]
    simp (maxSteps := 2000000) -implicitDefEqProofs only [xe90, xb90, xz90, xj90_0, xk90_0_ret, ↓syP, syA, rtN, pureL, V.pure, nsh, stBk, V.kill, killL, spl, V.shift, shiftL, V.scal, scalL, intR, boolR, threeV, Nat.reduceAdd, Nat.reduceSub, Nat.reduceMul, Nat.reduceLT, Nat.reduceLeDiff, Nat.reduceEqDiff, Nat.reduceBEq, Nat.reduceBNe, Int.reduceBEq, Int.reduceBNe, Int.reduceLT, Int.reduceLE, Int.reduceAdd, Int.reduceSub, Int.reduceNeg, syQ, confV, frameV, listV, xF, xcallV, xcallC, xcallL, xcallY, xevY, xY_ready, xrange, xG_fn, xR, xA, xcl50, xclk50, xcl83, xclk83, awk14', awk15', xr90_0, ih]
    all_goals simp -implicitDefEqProofs only [List.map_nil]
def g_poacherref02_bit (k : Nat) (v0 : Int) : Option Int :=
  g_poacherref02_bit_L0 k v0 (k) ((1 : Int)) ((0 : Int))
theorem h_poacherref02_bit (k : Nat) (v0 : Int) : xC (k + 1) none 90 [(.lit (.int .i64 v0))] = ob (g_poacherref02_bit k v0) fun r => some ((.lit (.int .u64 r)), []) := by
  rw [xC_eq]
  unfold g_poacherref02_bit
  simp (maxSteps := 2000000) -implicitDefEqProofs only [xe90, xb90, xz90, xj90_0, xk90_0_ret, ↓syP, syA, rtN, pureL, V.pure, nsh, stBk, V.kill, killL, spl, V.shift, shiftL, V.scal, scalL, intR, boolR, threeV, Nat.reduceAdd, Nat.reduceSub, Nat.reduceMul, Nat.reduceLT, Nat.reduceLeDiff, Nat.reduceEqDiff, Nat.reduceBEq, Nat.reduceBNe, Int.reduceBEq, Int.reduceBNe, Int.reduceLT, Int.reduceLE, Int.reduceAdd, Int.reduceSub, Int.reduceNeg, syQ, confV, frameV, listV, xF, xcallV, xcallC, xcallL, xcallY, xevY, xY_ready, xrange, xG_fn, xR, xA, xcl50, xclk50, xcl83, xclk83, awk14', awk15', g_poacherref02_bit_L0_eq k v0]
  all_goals simp -implicitDefEqProofs only [List.map_nil]
def g_poacherref02_Has (k : Nat) (v0 : Int) (v1 : Int) : Option Bool :=
  ob (g_poacherref02_bit k v1) fun x26 =>
  bif x26 != (0 : Int) then
   some ((IntKind.u64.wrap (v0.tdiv x26)).tmod (2 : Int) == (1 : Int))
  else
   none
theorem h_poacherref02_Has (k : Nat) (v0 : Int) (v1 : Int) : xC (k + 2) none 66 [(.lit (.int .u64 v0)), (.lit (.int .i64 v1))] = ob (g_poacherref02_Has k v0 v1) fun r => some ((.lit (.bool r)), []) := by
  rw [xC_eq]
  unfold g_poacherref02_Has
  simp (maxSteps := 2000000) -implicitDefEqProofs only [xe66, xb66, ↓syP, syA, rtN, pureL, V.pure, nsh, stBk, V.kill, killL, spl, V.shift, shiftL, V.scal, scalL, intR, boolR, threeV, Nat.reduceAdd, Nat.reduceSub, Nat.reduceMul, Nat.reduceLT, Nat.reduceLeDiff, Nat.reduceEqDiff, Nat.reduceBEq, Nat.reduceBNe, Int.reduceBEq, Int.reduceBNe, Int.reduceLT, Int.reduceLE, Int.reduceAdd, Int.reduceSub, Int.reduceNeg, syQ, confV, frameV, listV, xF, xcallV, xcallC, xcallL, xcallY, xevY, xY_ready, xrange, xG_fn, xR, xA, xcl50, xclk50, xcl83, xclk83, awk14', awk15', h_poacherref02_bit]
  all_goals simp -implicitDefEqProofs only [List.map_nil]
def g_poacherref02_Set (k : Nat) (v0 : Int) (v1 : Int) : Option Int :=
  bif decide (v1 < (0 : Int)) then
   some (v0)
  else
   bif decide ((15 : Int) < v1) then
    some (v0)
   else
    ob (g_poacherref02_Has k v0 v1) fun x30 =>
    bif x30 then
     some (v0)
    else
     ob (g_poacherref02_bit (k + (1 : Nat)) v1) fun x31 =>
     some (IntKind.u64.wrap (v0 + x31))
theorem h_poacherref02_Set (k : Nat) (v0 : Int) (v1 : Int) : xC (k + 3) none 61 [(.lit (.int .u64 v0)), (.lit (.int .i64 v1))] = ob (g_poacherref02_Set k v0 v1) fun r => some ((.lit (.int .u64 r)), []) := by
  rw [xC_eq]
  unfold g_poacherref02_Set
  simp (maxSteps := 2000000) -implicitDefEqProofs only [xe61, xb61, xm61_0, xk61_0_ret, ↓syP, syA, rtN, pureL, V.pure, nsh, stBk, V.kill, killL, spl, V.shift, shiftL, V.scal, scalL, intR, boolR, threeV, Nat.reduceAdd, Nat.reduceSub, Nat.reduceMul, Nat.reduceLT, Nat.reduceLeDiff, Nat.reduceEqDiff, Nat.reduceBEq, Nat.reduceBNe, Int.reduceBEq, Int.reduceBNe, Int.reduceLT, Int.reduceLE, Int.reduceAdd, Int.reduceSub, Int.reduceNeg, syQ, confV, frameV, listV, xF, xcallV, xcallC, xcallL, xcallY, xevY, xY_ready, xrange, xG_fn, xR, xA, xcl50, xclk50, xcl83, xclk83, awk14', awk15', h_poacherref02_bit, h_poacherref02_Has]
  all_goals simp -implicitDefEqProofs only [List.map_nil]
def g_poacherref03_Top (v0 : (Int × Int × Int × Int)) (v1 : Int) : Option Int :=
  ob (g_poacherref03_May (v0.1, v0.2.1, v0.2.2.1, v0.2.2.2)) fun x35 =>
  bif !x35 then
   some ((-1 : Int))
  else
   bif decide (v1 < (0 : Int)) then
    some ((-1 : Int))
   else
    bif decide (v0.1 ≤ v1) then
     some ((-1 : Int))
    else
     some (IntKind.i64.wrap (IntKind.i64.wrap ((6 : Int) + IntKind.i64.wrap ((2 : Int) * v0.2.2.1)) + IntKind.i64.wrap (v1 * IntKind.i64.wrap ((3 : Int) + v0.2.1))))
theorem h_poacherref03_Top (k : Nat) (v0_0 : Int) (v0_1 : Int) (v0_2 : Int) (v0_3 : Int) (v1 : Int) : xC (k + 2) none 91 [(.agg [(.lit (.int .i64 v0_0)), (.lit (.int .i64 v0_1)), (.lit (.int .i64 v0_2)), (.lit (.int .i64 v0_3))]), (.lit (.int .i64 v1))] = ob (g_poacherref03_Top (v0_0, v0_1, v0_2, v0_3) v1) fun r => some ((.lit (.int .i64 r)), []) := by
  rw [xC_eq]
  unfold g_poacherref03_Top
  simp (maxSteps := 2000000) -implicitDefEqProofs only [xe91, xb91, xm91_0, xm91_1, xk91_0_ret, ↓syP, syA, rtN, pureL, V.pure, nsh, stBk, V.kill, killL, spl, V.shift, shiftL, V.scal, scalL, intR, boolR, threeV, Nat.reduceAdd, Nat.reduceSub, Nat.reduceMul, Nat.reduceLT, Nat.reduceLeDiff, Nat.reduceEqDiff, Nat.reduceBEq, Nat.reduceBNe, Int.reduceBEq, Int.reduceBNe, Int.reduceLT, Int.reduceLE, Int.reduceAdd, Int.reduceSub, Int.reduceNeg, syQ, confV, frameV, listV, xF, xcallV, xcallC, xcallL, xcallY, xevY, xY_ready, xrange, xG_fn, xR, xA, xcl50, xclk50, xcl83, xclk83, awk14', awk15', h_poacherref03_May]
  all_goals simp -implicitDefEqProofs only [List.map_nil]
def g_poacherref03_Park (v0 : (Int × Int × Int × Int)) (v1 : Int) : Option Int :=
  ob (g_poacherref03_Top (v0.1, v0.2.1, v0.2.2.1, v0.2.2.2) v1) fun x38 =>
  bif decide (x38 < (0 : Int)) then
   some ((-1 : Int))
  else
   some (IntKind.i64.wrap (x38 + (2 : Int)))
theorem h_poacherref03_Park (k : Nat) (v0_0 : Int) (v0_1 : Int) (v0_2 : Int) (v0_3 : Int) (v1 : Int) : xC (k + 3) none 62 [(.agg [(.lit (.int .i64 v0_0)), (.lit (.int .i64 v0_1)), (.lit (.int .i64 v0_2)), (.lit (.int .i64 v0_3))]), (.lit (.int .i64 v1))] = ob (g_poacherref03_Park (v0_0, v0_1, v0_2, v0_3) v1) fun r => some ((.lit (.int .i64 r)), []) := by
  rw [xC_eq]
  unfold g_poacherref03_Park
  simp (maxSteps := 2000000) -implicitDefEqProofs only [xe62, xb62, ↓syP, syA, rtN, pureL, V.pure, nsh, stBk, V.kill, killL, spl, V.shift, shiftL, V.scal, scalL, intR, boolR, threeV, Nat.reduceAdd, Nat.reduceSub, Nat.reduceMul, Nat.reduceLT, Nat.reduceLeDiff, Nat.reduceEqDiff, Nat.reduceBEq, Nat.reduceBNe, Int.reduceBEq, Int.reduceBNe, Int.reduceLT, Int.reduceLE, Int.reduceAdd, Int.reduceSub, Int.reduceNeg, syQ, confV, frameV, listV, xF, xcallV, xcallC, xcallL, xcallY, xevY, xY_ready, xrange, xG_fn, xR, xA, xcl50, xclk50, xcl83, xclk83, awk14', awk15', h_poacherref03_Top]
  all_goals simp -implicitDefEqProofs only [List.map_nil]
def g_poacherref06_End (v0 : (Int × Int × Int × Int × Int × Int × Int)) (v1 : Int) (v2 : Int) : Option (Int × Int × Int × Int × Int × Int × Int) :=
  some ((v0.1), ((0 : Int)), (v0.2.2.1), (v2), ((0 : Int)), ((0 : Int)), (v1))
theorem h_poacherref06_End (k : Nat) (v0_0 : Int) (v0_1 : Int) (v0_2 : Int) (v0_3 : Int) (v0_4 : Int) (v0_5 : Int) (v0_6 : Int) (v1 : Int) (v2 : Int) : xC (k + 1) none 59 [(.agg [(.lit (.int .i64 v0_0)), (.lit (.int .i64 v0_1)), (.lit (.int .i64 v0_2)), (.lit (.int .u64 v0_3)), (.lit (.int .u64 v0_4)), (.lit (.int .u64 v0_5)), (.lit (.int .i64 v0_6))]), (.lit (.int .i64 v1)), (.lit (.int .u64 v2))] = ob (g_poacherref06_End (v0_0, v0_1, v0_2, v0_3, v0_4, v0_5, v0_6) v1 v2) fun r => some ((.agg [(.lit (.int .i64 r.1)), (.lit (.int .i64 r.2.1)), (.lit (.int .i64 r.2.2.1)), (.lit (.int .u64 r.2.2.2.1)), (.lit (.int .u64 r.2.2.2.2.1)), (.lit (.int .u64 r.2.2.2.2.2.1)), (.lit (.int .i64 r.2.2.2.2.2.2))]), []) := by
  rw [xC_eq]
  unfold g_poacherref06_End
  simp (maxSteps := 2000000) -implicitDefEqProofs only [xe59, xb59, ↓syP, syA, rtN, pureL, V.pure, nsh, stBk, V.kill, killL, spl, V.shift, shiftL, V.scal, scalL, intR, boolR, threeV, Nat.reduceAdd, Nat.reduceSub, Nat.reduceMul, Nat.reduceLT, Nat.reduceLeDiff, Nat.reduceEqDiff, Nat.reduceBEq, Nat.reduceBNe, Int.reduceBEq, Int.reduceBNe, Int.reduceLT, Int.reduceLE, Int.reduceAdd, Int.reduceSub, Int.reduceNeg, syQ, confV, frameV, listV, xF, xcallV, xcallC, xcallL, xcallY, xevY, xY_ready, xrange, xG_fn, xR, xA, xcl50, xclk50, xcl83, xclk83, awk14', awk15']
  all_goals simp -implicitDefEqProofs only [List.map_nil]
def g_poacherref01_Store (v0 : (List Int)) (v1 : Int) (v2 : Int) : Option (List Int) :=
  bif decide (v0.length * (8 : Nat) ≤ (70368744177664 : Nat)) then
   bif decide ((0 : Int) ≤ v1) then
    bif decide (v1 < (↑v0.length : Int)) then
     bif decide ((0 : Int) ≤ v1 ∧ v1.toNat < v0.length) then
      ob (v0[v1.toNat]?) fun x51 =>
      some (v0.set v1.toNat v2)
     else
      none
    else
     some (v0)
   else
    some (v0)
  else
   none
theorem h_poacherref01_Store (k : Nat) (v0 : (List Int)) (v1 : Int) (v2 : Int) : xC (k + 1) none 63 [(.ro (List.map (intR .u64) v0)), (.lit (.int .i64 v1)), (.lit (.int .u64 v2))] = ob (g_poacherref01_Store v0 v1 v2) fun r => some ((.ro (List.map (intR .u64) r)), []) := by
  rw [xC_eq]
  unfold g_poacherref01_Store
  simp (maxSteps := 2000000) -implicitDefEqProofs only [xe63, xb63, xm63_0, xj63_1, xk63_0_ret, xk63_1_ret, ↓syP, syA, rtN, pureL, V.pure, nsh, stBk, V.kill, killL, spl, V.shift, shiftL, V.scal, scalL, intR, boolR, threeV, Nat.reduceAdd, Nat.reduceSub, Nat.reduceMul, Nat.reduceLT, Nat.reduceLeDiff, Nat.reduceEqDiff, Nat.reduceBEq, Nat.reduceBNe, Int.reduceBEq, Int.reduceBNe, Int.reduceLT, Int.reduceLE, Int.reduceAdd, Int.reduceSub, Int.reduceNeg, syQ, confV, frameV, listV, xF, xcallV, xcallC, xcallL, xcallY, xevY, xY_ready, xrange, xG_fn, xR, xA, xcl50, xclk50, xcl83, xclk83, awk14', awk15']
  all_goals simp -implicitDefEqProofs only [List.map_nil]
def g_poacherref01_Cas (v0 : (List Int)) (v1 : Int) (v2 : Int) (v3 : Int) : Option ((List Int) × Bool) :=
  bif decide (v1 < (0 : Int)) then
   ob (g_poacherref01_Store v0 (-1 : Int) (0 : Int)) fun x58 =>
   some ((x58), (false))
  else
   bif decide ((↑v0.length : Int) ≤ v1) then
    ob (g_poacherref01_Store v0 (-1 : Int) (0 : Int)) fun x59 =>
    some ((x59), (false))
   else
    ob (idx v0 v1) fun x60 =>
    bif x60 != v2 then
     ob (g_poacherref01_Store v0 (-1 : Int) (0 : Int)) fun x61 =>
     some ((x61), (false))
    else
     ob (g_poacherref01_Store v0 v1 v3) fun x62 =>
     some ((x62), (true))
theorem h_poacherref01_Cas (k : Nat) (v0 : (List Int)) (v1 : Int) (v2 : Int) (v3 : Int) : xC (k + 2) none 60 [(.ro (List.map (intR .u64) v0)), (.lit (.int .i64 v1)), (.lit (.int .u64 v2)), (.lit (.int .u64 v3))] = ob (g_poacherref01_Cas v0 v1 v2 v3) fun r => some ((.tup [(.ro (List.map (intR .u64) r.1)), (.lit (.bool r.2))]), []) := by
  rw [xC_eq]
  unfold g_poacherref01_Cas
  simp (maxSteps := 2000000) -implicitDefEqProofs only [xe60, xb60, xm60_0, xm60_1, xk60_0_ret, ↓syP, syA, rtN, pureL, V.pure, nsh, stBk, V.kill, killL, spl, V.shift, shiftL, V.scal, scalL, intR, boolR, threeV, Nat.reduceAdd, Nat.reduceSub, Nat.reduceMul, Nat.reduceLT, Nat.reduceLeDiff, Nat.reduceEqDiff, Nat.reduceBEq, Nat.reduceBNe, Int.reduceBEq, Int.reduceBNe, Int.reduceLT, Int.reduceLE, Int.reduceAdd, Int.reduceSub, Int.reduceNeg, syQ, confV, frameV, listV, xF, xcallV, xcallC, xcallL, xcallY, xevY, xY_ready, xrange, xG_fn, xR, xA, xcl50, xclk50, xcl83, xclk83, awk14', awk15', h_poacherref01_Store]
  all_goals simp -implicitDefEqProofs only [List.map_nil]
def g_poacherref14_Step (k : Nat) (v0 : (Int × Int × Int × Int)) (v1 : (List Int)) (v2 : (Int × Int × Int × Int × Int × Int × Int)) : Option ((List Int) × (Int × Int × Int × Int × Int × Int × Int)) :=
  ob (g_poacherref07_Goes (v0.1, v0.2.1, v0.2.2.1, v0.2.2.2) v1 (v2.1, v2.2.1, v2.2.2.1, v2.2.2.2.1, v2.2.2.2.2.1, v2.2.2.2.2.2.1, v2.2.2.2.2.2.2) (5 : Int) (5 : Int)) fun x81 =>
  bif !x81 then
   some ((v1), ((v2.1), (v2.2.1), (v2.2.2.1), (v2.2.2.2.1), (v2.2.2.2.2.1), (v2.2.2.2.2.2.1), (v2.2.2.2.2.2.2)))
  else
   bif v2.2.1 == (0 : Int) then
    ob (g_poacherref01_Load v1 (2 : Int)) fun x82 =>
    some ((v1), ((v2.1), ((1 : Int)), (v2.2.2.1), (v2.2.2.2.1), (x82), (v2.2.2.2.2.2.1), (v2.2.2.2.2.2.2)))
   else
    bif v2.2.1 == (1 : Int) then
     ob (g_poacherref01_Load v1 (2 : Int)) fun x83 =>
     ob (g_poacherref02_Epoch x83) fun x84 =>
     ob (g_poacherref02_Epoch v2.2.2.2.2.1) fun x85 =>
     bif x84 != x85 then
      ob (g_poacherref06_End (v2.1, (2 : Int), v2.2.2.1, v2.2.2.2.1, v2.2.2.2.2.1, x83, v2.2.2.2.2.2.2) (4 : Int) (0 : Int)) fun x86 =>
      some ((v1), ((x86.fst), (x86.snd.fst), (x86.snd.snd.fst), (x86.snd.snd.snd.fst), (x86.snd.snd.snd.snd.fst), (x86.snd.snd.snd.snd.snd.fst), (x86.snd.snd.snd.snd.snd.snd)))
     else
      some ((v1), ((v2.1), ((2 : Int)), (v2.2.2.1), (v2.2.2.2.1), (v2.2.2.2.2.1), (x83), (v2.2.2.2.2.2.2)))
    else
     bif v2.2.1 == (2 : Int) then
      ob (g_poacherref02_Set k v2.2.2.2.2.2.1 v2.2.2.1) fun x87 =>
      ob (g_poacherref01_Cas v1 (2 : Int) v2.2.2.2.2.2.1 x87) fun x88 =>
      bif x88.snd then
       some ((x88.fst), ((v2.1), ((3 : Int)), (v2.2.2.1), (v2.2.2.2.1), (v2.2.2.2.2.1), (v2.2.2.2.2.2.1), (v2.2.2.2.2.2.2)))
      else
       some ((x88.fst), ((v2.1), ((1 : Int)), (v2.2.2.1), (v2.2.2.2.1), (v2.2.2.2.2.1), (v2.2.2.2.2.2.1), (v2.2.2.2.2.2.2)))
     else
      bif v2.2.1 == (3 : Int) then
       ob (g_poacherref03_Park (v0.1, v0.2.1, v0.2.2.1, v0.2.2.2) v2.2.2.1) fun x89 =>
       ob (g_poacherref01_Load v1 x89) fun x90 =>
       bif x90 != (0 : Int) then
        some ((v1), ((v2.1), ((4 : Int)), (v2.2.2.1), (v2.2.2.2.1), (v2.2.2.2.2.1), (x90), (v2.2.2.2.2.2.2)))
       else
        some ((v1), ((v2.1), (v2.2.1), (v2.2.2.1), (v2.2.2.2.1), (v2.2.2.2.2.1), (x90), (v2.2.2.2.2.2.2)))
      else
       ob (g_poacherref03_Park (v0.1, v0.2.1, v0.2.2.1, v0.2.2.2) v2.2.2.1) fun x91 =>
       ob (g_poacherref01_Store v1 x91 (0 : Int)) fun x92 =>
       ob (g_poacherref06_End (v2.1, v2.2.1, v2.2.2.1, v2.2.2.2.1, v2.2.2.2.2.1, v2.2.2.2.2.2.1, v2.2.2.2.2.2.2) (1 : Int) (0 : Int)) fun x93 =>
       some ((x92), ((x93.fst), (x93.snd.fst), (x93.snd.snd.fst), (x93.snd.snd.snd.fst), (x93.snd.snd.snd.snd.fst), (x93.snd.snd.snd.snd.snd.fst), (x93.snd.snd.snd.snd.snd.snd)))
theorem h_poacherref14_Step (k : Nat) (v0_0 : Int) (v0_1 : Int) (v0_2 : Int) (v0_3 : Int) (v1 : (List Int)) (v2_0 : Int) (v2_1 : Int) (v2_2 : Int) (v2_3 : Int) (v2_4 : Int) (v2_5 : Int) (v2_6 : Int) : xC (k + 4) none 22 [(.agg [(.lit (.int .i64 v0_0)), (.lit (.int .i64 v0_1)), (.lit (.int .i64 v0_2)), (.lit (.int .i64 v0_3))]), (.ro (List.map (intR .u64) v1)), (.agg [(.lit (.int .i64 v2_0)), (.lit (.int .i64 v2_1)), (.lit (.int .i64 v2_2)), (.lit (.int .u64 v2_3)), (.lit (.int .u64 v2_4)), (.lit (.int .u64 v2_5)), (.lit (.int .i64 v2_6))])] = ob (g_poacherref14_Step k (v0_0, v0_1, v0_2, v0_3) v1 (v2_0, v2_1, v2_2, v2_3, v2_4, v2_5, v2_6)) fun r => some ((.tup [(.ro (List.map (intR .u64) r.1)), (.agg [(.lit (.int .i64 r.2.1)), (.lit (.int .i64 r.2.2.1)), (.lit (.int .i64 r.2.2.2.1)), (.lit (.int .u64 r.2.2.2.2.1)), (.lit (.int .u64 r.2.2.2.2.2.1)), (.lit (.int .u64 r.2.2.2.2.2.2.1)), (.lit (.int .i64 r.2.2.2.2.2.2.2))])]), []) := by
  rw [xC_eq]
  unfold g_poacherref14_Step
  simp (maxSteps := 2000000) -implicitDefEqProofs only [xe22, xb22, xj22_0, xj22_1, xk22_0_ret, xk22_1_ret, ↓syP, syA, rtN, pureL, V.pure, nsh, stBk, V.kill, killL, spl, V.shift, shiftL, V.scal, scalL, intR, boolR, threeV, Nat.reduceAdd, Nat.reduceSub, Nat.reduceMul, Nat.reduceLT, Nat.reduceLeDiff, Nat.reduceEqDiff, Nat.reduceBEq, Nat.reduceBNe, Int.reduceBEq, Int.reduceBNe, Int.reduceLT, Int.reduceLE, Int.reduceAdd, Int.reduceSub, Int.reduceNeg, syQ, confV, frameV, listV, xF, xcallV, xcallC, xcallL, xcallY, xevY, xY_ready, xrange, xG_fn, xR, xA, xcl50, xclk50, xcl83, xclk83, awk14', awk15', h_poacherref07_Goes, h_poacherref01_Load, h_poacherref02_Epoch, h_poacherref02_Set, h_poacherref03_Park, h_poacherref06_End, h_poacherref01_Store, h_poacherref01_Cas]
  all_goals simp -implicitDefEqProofs only [List.map_nil]
def g_poacherref01_Same_L0 (k : Nat) (v0 : (List Int)) (v1 : (List Int))  : Nat → Int → Option Bool
  | 0, _ => none
  | n + 1, s110 =>
    bif decide (s110 < (↑v0.length : Int)) then
     ob (idx v0 s110) fun x115 =>
     ob (idx v1 s110) fun x116 =>
     bif x115 != x116 then
      some (false)
     else
      g_poacherref01_Same_L0 k v0 v1  n (IntKind.i64.wrap (s110 + (1 : Int)))
    else
     some (true)
theorem g_poacherref01_Same_L0_eq (k : Nat) (v0 : (List Int)) (v1 : (List Int)) : ∀ (n : Nat) (s110 : Int), rt none (itX (xX (xS k) (23 : Nat) (0 : Nat) k false) xl23_0 ((0 : Nat)) (runK (xX (xS k) (23 : Nat) (0 : Nat) k false) (bodyK (xS k).P Try.f23) xk23_0) n ⟨[V.ro (List.map (intR IntKind.u64) v0), V.ro (List.map (intR IntKind.u64) v1), uu, uu, V.lit (Value.bool false), V.lit (Value.int IntKind.i64 s110), V.ro (List.map (intR IntKind.u64) v0), V.lit (Value.int IntKind.i64 (↑v0.length : Int)), V.ro (List.map (intR IntKind.u64) v1), V.lit (Value.int IntKind.i64 (↑v1.length : Int)), V.lit (Value.bool ((↑v0.length : Int) != (↑v1.length : Int))), V.junk, V.junk, V.junk, V.junk, V.junk, V.junk, V.junk, V.junk, V.junk, V.junk, V.junk, V.junk, V.junk, V.junk, V.junk], []⟩) = ob (g_poacherref01_Same_L0 k v0 v1  n s110) fun r => some ((.lit (.bool r)), []) := by
  intro n
  induction n with
  | zero => intros; rfl
  | succ n ih =>
    intro s110
    rw [g_poacherref01_Same_L0]
    simp (maxSteps := 2000000) -implicitDefEqProofs only [xe23, xb23, xz23, xj23_0, xk23_0_ret, ↓syP, syA, rtN, pureL, V.pure, nsh, stBk, V.kill, killL, spl, V.shift, shiftL, V.scal, scalL, intR, boolR, threeV, Nat.reduceAdd, Nat.reduceSub, Nat.reduceMul, Nat.reduceLT, Nat.reduceLeDiff, Nat.reduceEqDiff, Nat.reduceBEq, Nat.reduceBNe, Int.reduceBEq, Int.reduceBNe, Int.reduceLT, Int.reduceLE, Int.reduceAdd, Int.reduceSub, Int.reduceNeg, syQ, confV, frameV, listV, xF, xcallV, xcallC, xcallL, xcallY, xevY, xY_ready, xrange, xG_fn, xR, xA, xcl50, xclk50, xcl83, xclk83, awk14', awk15', xr23_0, ih]
    all_goals simp -implicitDefEqProofs only [List.map_nil]
def g_poacherref01_Same (k : Nat) (v0 : (List Int)) (v1 : (List Int)) : Option Bool :=
  bif (↑v0.length : Int) != (↑v1.length : Int) then
   some (false)
  else
   g_poacherref01_Same_L0 k v0 v1 (k) ((0 : Int))
theorem h_poacherref01_Same (k : Nat) (v0 : (List Int)) (v1 : (List Int)) : xC (k + 1) none 23 [(.ro (List.map (intR .u64) v0)), (.ro (List.map (intR .u64) v1))] = ob (g_poacherref01_Same k v0 v1) fun r => some ((.lit (.bool r)), []) := by
  rw [xC_eq]
  unfold g_poacherref01_Same
  simp (maxSteps := 2000000) -implicitDefEqProofs only [xe23, xb23, xz23, xj23_0, xk23_0_ret, ↓syP, syA, rtN, pureL, V.pure, nsh, stBk, V.kill, killL, spl, V.shift, shiftL, V.scal, scalL, intR, boolR, threeV, Nat.reduceAdd, Nat.reduceSub, Nat.reduceMul, Nat.reduceLT, Nat.reduceLeDiff, Nat.reduceEqDiff, Nat.reduceBEq, Nat.reduceBNe, Int.reduceBEq, Int.reduceBNe, Int.reduceLT, Int.reduceLE, Int.reduceAdd, Int.reduceSub, Int.reduceNeg, syQ, confV, frameV, listV, xF, xcallV, xcallC, xcallL, xcallY, xevY, xY_ready, xrange, xG_fn, xR, xA, xcl50, xclk50, xcl83, xclk83, awk14', awk15', g_poacherref01_Same_L0_eq k v0 v1]
  all_goals simp -implicitDefEqProofs only [List.map_nil]
def g_poacherref14_Parked (v0 : (Int × Int × Int × Int × Int × Int × Int)) : Option Bool :=
  bif v0.1 == (5 : Int) then
   bif v0.2.2.2.2.2.2 == (0 : Int) then
    some (v0.2.1 == (3 : Int))
   else
    some (false)
  else
   some (false)
theorem h_poacherref14_Parked (k : Nat) (v0_0 : Int) (v0_1 : Int) (v0_2 : Int) (v0_3 : Int) (v0_4 : Int) (v0_5 : Int) (v0_6 : Int) : xC (k + 1) none 24 [(.agg [(.lit (.int .i64 v0_0)), (.lit (.int .i64 v0_1)), (.lit (.int .i64 v0_2)), (.lit (.int .u64 v0_3)), (.lit (.int .u64 v0_4)), (.lit (.int .u64 v0_5)), (.lit (.int .i64 v0_6))])] = ob (g_poacherref14_Parked (v0_0, v0_1, v0_2, v0_3, v0_4, v0_5, v0_6)) fun r => some ((.lit (.bool r)), []) := by
  rw [xC_eq]
  unfold g_poacherref14_Parked
  simp (maxSteps := 2000000) -implicitDefEqProofs only [xe24, xb24, xm24_0, xm24_1, xk24_0_ret, ↓syP, syA, rtN, pureL, V.pure, nsh, stBk, V.kill, killL, spl, V.shift, shiftL, V.scal, scalL, intR, boolR, threeV, Nat.reduceAdd, Nat.reduceSub, Nat.reduceMul, Nat.reduceLT, Nat.reduceLeDiff, Nat.reduceEqDiff, Nat.reduceBEq, Nat.reduceBNe, Int.reduceBEq, Int.reduceBNe, Int.reduceLT, Int.reduceLE, Int.reduceAdd, Int.reduceSub, Int.reduceNeg, syQ, confV, frameV, listV, xF, xcallV, xcallC, xcallL, xcallY, xevY, xY_ready, xrange, xG_fn, xR, xA, xcl50, xclk50, xcl83, xclk83, awk14', awk15']
  all_goals simp -implicitDefEqProofs only [List.map_nil]
def g_poacherref02_Mask (v0 : Int) : Option Int :=
  some (v0.tmod (65536 : Int))
theorem h_poacherref02_Mask (k : Nat) (v0 : Int) : xC (k + 1) none 67 [(.lit (.int .u64 v0))] = ob (g_poacherref02_Mask v0) fun r => some ((.lit (.int .u64 r)), []) := by
  rw [xC_eq]
  unfold g_poacherref02_Mask
  simp (maxSteps := 2000000) -implicitDefEqProofs only [xe67, xb67, ↓syP, syA, rtN, pureL, V.pure, nsh, stBk, V.kill, killL, spl, V.shift, shiftL, V.scal, scalL, intR, boolR, threeV, Nat.reduceAdd, Nat.reduceSub, Nat.reduceMul, Nat.reduceLT, Nat.reduceLeDiff, Nat.reduceEqDiff, Nat.reduceBEq, Nat.reduceBNe, Int.reduceBEq, Int.reduceBNe, Int.reduceLT, Int.reduceLE, Int.reduceAdd, Int.reduceSub, Int.reduceNeg, syQ, confV, frameV, listV, xF, xcallV, xcallC, xcallL, xcallY, xevY, xY_ready, xrange, xG_fn, xR, xA, xcl50, xclk50, xcl83, xclk83, awk14', awk15']
  all_goals simp -implicitDefEqProofs only [List.map_nil]
def g_poacherref14_Waits (k : Nat) (v0 : (Int × Int × Int × Int)) (v1 : (List Int)) (v2 : Int) : Option Bool :=
  ob (g_poacherref03_May (v0.1, v0.2.1, v0.2.2.1, v0.2.2.2)) fun x125 =>
  bif !x125 then
   some (false)
  else
   ob (g_poacherref03_Size (v0.1, v0.2.1, v0.2.2.1, v0.2.2.2)) fun x126 =>
   bif (↑v1.length : Int) != x126 then
    some (false)
   else
    bif decide (v2 < (0 : Int)) then
     some (false)
    else
     bif decide (v0.1 ≤ v2) then
      some (false)
     else
      ob (idx v1 (2 : Int)) fun x127 =>
      ob (g_poacherref02_Mask x127) fun x128 =>
      ob (g_poacherref02_Has k x128 v2) fun x129 =>
      some (x129)
theorem h_poacherref14_Waits (k : Nat) (v0_0 : Int) (v0_1 : Int) (v0_2 : Int) (v0_3 : Int) (v1 : (List Int)) (v2 : Int) : xC (k + 3) none 25 [(.agg [(.lit (.int .i64 v0_0)), (.lit (.int .i64 v0_1)), (.lit (.int .i64 v0_2)), (.lit (.int .i64 v0_3))]), (.ro (List.map (intR .u64) v1)), (.lit (.int .i64 v2))] = ob (g_poacherref14_Waits k (v0_0, v0_1, v0_2, v0_3) v1 v2) fun r => some ((.lit (.bool r)), []) := by
  rw [xC_eq]
  unfold g_poacherref14_Waits
  simp (maxSteps := 2000000) -implicitDefEqProofs only [xe25, xb25, xm25_0, xm25_1, xm25_2, xk25_0_ret, ↓syP, syA, rtN, pureL, V.pure, nsh, stBk, V.kill, killL, spl, V.shift, shiftL, V.scal, scalL, intR, boolR, threeV, Nat.reduceAdd, Nat.reduceSub, Nat.reduceMul, Nat.reduceLT, Nat.reduceLeDiff, Nat.reduceEqDiff, Nat.reduceBEq, Nat.reduceBNe, Int.reduceBEq, Int.reduceBNe, Int.reduceLT, Int.reduceLE, Int.reduceAdd, Int.reduceSub, Int.reduceNeg, syQ, confV, frameV, listV, xF, xcallV, xcallC, xcallL, xcallY, xevY, xY_ready, xrange, xG_fn, xR, xA, xcl50, xclk50, xcl83, xclk83, awk14', awk15', h_poacherref03_May, h_poacherref03_Size, h_poacherref02_Has, h_poacherref02_Mask]
  all_goals simp -implicitDefEqProofs only [List.map_nil]
end Go.Ab
