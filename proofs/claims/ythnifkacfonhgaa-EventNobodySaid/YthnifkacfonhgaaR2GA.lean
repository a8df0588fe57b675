/- Functions as they are walked: printed by Walk.lean. -/
import Derived.Test.YthnifkacfonhgaaR2GN
set_option linter.unusedVariables false
set_option linter.unusedSimpArgs false
set_option maxRecDepth 100000
set_option linter.unusedVariables false
set_option linter.unusedSimpArgs false
namespace Go.Ab
open Go.Proofs
def g_poacherlaw15_alone_L0 (k : Nat) (v0 : (Int × Int × Int × Int)) (v1 : (List Int)) (v2 : (Int × Int × Int × Int × Int × Int × Int))  : Nat → List Int → Int → Int → Int → Int → Int → Int → Int → Int → Option ((List Int) × (Int × Int × Int × Int × Int × Int × Int))
  | 0, _, _, _, _, _, _, _, _, _ => none
  | n + 1, s3, s4, s5, s6, s7, s8, s9, s10, s11 =>
    bif decide (s4 < (20 : Int)) then
     ob (g_note_Step k (v0.1, v0.2.1, v0.2.2.1, v0.2.2.2) s3 (s5, s6, s7, s8, s9, s10, s11)) fun x14 =>
     g_poacherlaw15_alone_L0 k v0 v1 v2  n (x14.fst) (IntKind.i64.wrap (s4 + (1 : Int))) (x14.snd.fst) (x14.snd.snd.fst) (x14.snd.snd.snd.fst) (x14.snd.snd.snd.snd.fst) (x14.snd.snd.snd.snd.snd.fst) (x14.snd.snd.snd.snd.snd.snd.fst) (x14.snd.snd.snd.snd.snd.snd.snd)
    else
     some ((s3), ((s5), (s6), (s7), (s8), (s9), (s10), (s11)))
theorem g_poacherlaw15_alone_L0_eq (k : Nat) (v0_0 : Int) (v0_1 : Int) (v0_2 : Int) (v0_3 : Int) (v1 : (List Int)) (v2_0 : Int) (v2_1 : Int) (v2_2 : Int) (v2_3 : Int) (v2_4 : Int) (v2_5 : Int) (v2_6 : Int) : ∀ (n : Nat) (s3 : List Int) (s4 : Int) (s5 : Int) (s6 : Int) (s7 : Int) (s8 : Int) (s9 : Int) (s10 : Int) (s11 : Int), rt none (itX (xX (xS (k + (16 : Nat))) (41 : Nat) (0 : Nat) (k + (16 : Nat)) false) xl41_0 ((4 : Nat)) (runK (xX (xS (k + (16 : Nat))) (41 : Nat) (0 : Nat) (k + (16 : Nat)) false) (bodyK (xS (k + (16 : Nat))).P Try.f41) xk41_0) n ⟨[V.agg [V.lit (Value.int IntKind.i64 v0_0), V.lit (Value.int IntKind.i64 v0_1), V.lit (Value.int IntKind.i64 v0_2), V.lit (Value.int IntKind.i64 v0_3)], V.ro (List.map (intR IntKind.u64) s3), V.agg [V.lit (Value.int IntKind.i64 v2_0), V.lit (Value.int IntKind.i64 v2_1), V.lit (Value.int IntKind.i64 v2_2), V.lit (Value.int IntKind.u64 v2_3), V.lit (Value.int IntKind.u64 v2_4), V.lit (Value.int IntKind.u64 v2_5), V.lit (Value.int IntKind.i64 v2_6)], V.ptr (0 : Nat) (0 : Nat) (0 : Nat) (0 : Nat), uu, V.ptr (1 : Nat) (0 : Nat) (0 : Nat) (0 : Nat), V.own (2 : Nat) (0 : Nat) (0 : Nat), V.ptr (3 : Nat) (0 : Nat) (0 : Nat) (0 : Nat), V.lit (Value.int IntKind.i64 s4), V.junk, V.junk, V.junk, V.junk, V.junk, V.junk, V.junk, V.junk, V.junk, V.junk, V.junk, uu, uu], [B.box [V.lit (Value.int IntKind.i64 v0_0), V.lit (Value.int IntKind.i64 v0_1), V.lit (Value.int IntKind.i64 v0_2), V.lit (Value.int IntKind.i64 v0_3)], B.box [V.lit (Value.int IntKind.i64 s5), V.lit (Value.int IntKind.i64 s6), V.lit (Value.int IntKind.i64 s7), V.lit (Value.int IntKind.u64 s8), V.lit (Value.int IntKind.u64 s9), V.lit (Value.int IntKind.u64 s10), V.lit (Value.int IntKind.i64 s11)], B.rows (0 : Nat) [] (0 : Nat) true, B.box [V.lit (Value.int IntKind.i64 (0 : Int)), V.lit (Value.int IntKind.i64 (0 : Int)), V.lit (Value.int IntKind.i64 (0 : Int)), V.lit (Value.int IntKind.u64 (0 : Int)), V.lit (Value.int IntKind.u64 (0 : Int)), V.lit (Value.int IntKind.u64 (0 : Int)), V.lit (Value.int IntKind.i64 (0 : Int))]]⟩) = ob (g_poacherlaw15_alone_L0 k (v0_0, v0_1, v0_2, v0_3) v1 (v2_0, v2_1, v2_2, v2_3, v2_4, v2_5, v2_6)  n s3 s4 s5 s6 s7 s8 s9 s10 s11) fun r => some ((.tup [(.ro (List.map (intR .u64) r.1)), (.agg [(.lit (.int .i64 r.2.1)), (.lit (.int .i64 r.2.2.1)), (.lit (.int .i64 r.2.2.2.1)), (.lit (.int .u64 r.2.2.2.2.1)), (.lit (.int .u64 r.2.2.2.2.2.1)), (.lit (.int .u64 r.2.2.2.2.2.2.1)), (.lit (.int .i64 r.2.2.2.2.2.2.2))])]), []) := by
  intro n
  induction n with
  | zero => intros; rfl
  | succ n ih =>
    intro s3 s4 s5 s6 s7 s8 s9 s10 s11
    rw [g_poacherlaw15_alone_L0]
    simp (maxSteps := 2000000) -implicitDefEqProofs only [xe41, xb41, xz41, xj41_0, xk41_0_ret, ↓syP, syA, rtN, pureL, V.pure, nsh, stBk, V.kill, killL, spl, V.shift, shiftL, V.scal, scalL, intR, boolR, threeV, Nat.reduceAdd, Nat.reduceSub, Nat.reduceMul, Nat.reduceLT, Nat.reduceLeDiff, Nat.reduceEqDiff, Nat.reduceBEq, Nat.reduceBNe, Int.reduceBEq, Int.reduceBNe, Int.reduceLT, Int.reduceLE, Int.reduceAdd, Int.reduceSub, Int.reduceNeg, syQ, confV, frameV, listV, xF, xcallV, xcallC, xcallL, xcallY, xevY, xY_ready, xrange, xG_fn, xR, xA, xcl50, xclk50, xcl83, xclk83, awk14', awk15', h_note_Step, xr41_0, ih]
    all_goals simp -implicitDefEqProofs only [List.map_nil]
def g_poacherlaw15_alone (k : Nat) (v0 : (Int × Int × Int × Int)) (v1 : (List Int)) (v2 : (Int × Int × Int × Int × Int × Int × Int)) : Option ((List Int) × (Int × Int × Int × Int × Int × Int × Int)) :=
  g_poacherlaw15_alone_L0 k v0 v1 v2 (k + (16 : Nat)) (v1) ((0 : Int)) (v2.1) (v2.2.1) (v2.2.2.1) (v2.2.2.2.1) (v2.2.2.2.2.1) (v2.2.2.2.2.2.1) (v2.2.2.2.2.2.2)
theorem h_poacherlaw15_alone (k : Nat) (v0_0 : Int) (v0_1 : Int) (v0_2 : Int) (v0_3 : Int) (v1 : (List Int)) (v2_0 : Int) (v2_1 : Int) (v2_2 : Int) (v2_3 : Int) (v2_4 : Int) (v2_5 : Int) (v2_6 : Int) : xC (k + 17) none 41 [(.agg [(.lit (.int .i64 v0_0)), (.lit (.int .i64 v0_1)), (.lit (.int .i64 v0_2)), (.lit (.int .i64 v0_3))]), (.ro (List.map (intR .u64) v1)), (.agg [(.lit (.int .i64 v2_0)), (.lit (.int .i64 v2_1)), (.lit (.int .i64 v2_2)), (.lit (.int .u64 v2_3)), (.lit (.int .u64 v2_4)), (.lit (.int .u64 v2_5)), (.lit (.int .i64 v2_6))])] = ob (g_poacherlaw15_alone k (v0_0, v0_1, v0_2, v0_3) v1 (v2_0, v2_1, v2_2, v2_3, v2_4, v2_5, v2_6)) fun r => some ((.tup [(.ro (List.map (intR .u64) r.1)), (.agg [(.lit (.int .i64 r.2.1)), (.lit (.int .i64 r.2.2.1)), (.lit (.int .i64 r.2.2.2.1)), (.lit (.int .u64 r.2.2.2.2.1)), (.lit (.int .u64 r.2.2.2.2.2.1)), (.lit (.int .u64 r.2.2.2.2.2.2.1)), (.lit (.int .i64 r.2.2.2.2.2.2.2))])]), []) := by
  rw [xC_eq]
  unfold g_poacherlaw15_alone
  simp (maxSteps := 2000000) -implicitDefEqProofs only [xe41, xb41, xz41, xj41_0, xk41_0_ret, ↓syP, syA, rtN, pureL, V.pure, nsh, stBk, V.kill, killL, spl, V.shift, shiftL, V.scal, scalL, intR, boolR, threeV, Nat.reduceAdd, Nat.reduceSub, Nat.reduceMul, Nat.reduceLT, Nat.reduceLeDiff, Nat.reduceEqDiff, Nat.reduceBEq, Nat.reduceBNe, Int.reduceBEq, Int.reduceBNe, Int.reduceLT, Int.reduceLE, Int.reduceAdd, Int.reduceSub, Int.reduceNeg, syQ, confV, frameV, listV, xF, xcallV, xcallC, xcallL, xcallY, xevY, xY_ready, xrange, xG_fn, xR, xA, xcl50, xclk50, xcl83, xclk83, awk14', awk15', g_poacherlaw15_alone_L0_eq k v0_0 v0_1 v0_2 v0_3 v1 v2_0 v2_1 v2_2 v2_3 v2_4 v2_5 v2_6]
  all_goals simp -implicitDefEqProofs only [List.map_nil]
end Go.Ab
