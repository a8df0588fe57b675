/- Functions as they are walked: printed by Walk.lean. -/
import Derived.Test.YthnifkacfonhgaaR2GP
import Derived.Test.YthnifkacfonhgaaR2BF
set_option linter.unusedVariables false
set_option linter.unusedSimpArgs false
set_option maxRecDepth 100000
set_option linter.unusedVariables false
set_option linter.unusedSimpArgs false
namespace Go.Ab
open Go.Proofs
def g_poacherref10_Frames_L0 (k : Nat) (v0 : (List (Int × Int × Int × Int × Int × Int × Int))) (v1 : (List (Int × Int × Int × Int × Int × Int × Int)))  : Nat → Int → Option Bool
  | 0, _ => none
  | n + 1, s4 =>
    bif decide (s4 < (↑v0.length : Int)) then
     ob (idx v0 s4) fun x9 =>
     ob (idx v1 s4) fun x10 =>
     bif !(x9.fst == x10.fst && (x9.snd.fst == x10.snd.fst && (x9.snd.snd.fst == x10.snd.snd.fst && (x9.snd.snd.snd.fst == x10.snd.snd.snd.fst && (x9.snd.snd.snd.snd.fst == x10.snd.snd.snd.snd.fst && (x9.snd.snd.snd.snd.snd.fst == x10.snd.snd.snd.snd.snd.fst && x9.snd.snd.snd.snd.snd.snd == x10.snd.snd.snd.snd.snd.snd)))))) then
      some (false)
     else
      g_poacherref10_Frames_L0 k v0 v1  n (IntKind.i64.wrap (s4 + (1 : Int)))
    else
     some (true)
theorem g_poacherref10_Frames_L0_eq (k : Nat) (v0 : (List (Int × Int × Int × Int × Int × Int × Int))) (v1 : (List (Int × Int × Int × Int × Int × Int × Int))) : ∀ (n : Nat) (s4 : Int), rt none (itX (xX (xS k) (48 : Nat) (0 : Nat) k false) xl48_0 ((0 : Nat)) (runK (xX (xS k) (48 : Nat) (0 : Nat) k false) (bodyK (xS k).P Try.f48) xk48_0) n ⟨[V.ro (List.map frameV v0), V.ro (List.map frameV v1), uu, uu, V.lit (Value.bool false), V.lit (Value.int IntKind.i64 s4), V.ro (List.map frameV v0), V.lit (Value.int IntKind.i64 (↑v0.length : Int)), V.ro (List.map frameV v1), V.lit (Value.int IntKind.i64 (↑v1.length : Int)), V.lit (Value.bool ((↑v0.length : Int) != (↑v1.length : Int))), V.junk, V.junk, V.junk, V.junk, V.junk, V.junk, V.junk, V.junk, V.junk, V.junk, V.junk, V.junk, V.junk, V.junk, V.junk], []⟩) = ob (g_poacherref10_Frames_L0 k v0 v1  n s4) fun r => some ((.lit (.bool r)), []) := by
  intro n
  induction n with
  | zero => intros; rfl
  | succ n ih =>
    intro s4
    rw [g_poacherref10_Frames_L0]
    simp (maxSteps := 2000000) -implicitDefEqProofs only [xe48, xb48, xz48, xj48_0, xk48_0_ret, ↓syP, syA, rtN, pureL, V.pure, nsh, stBk, V.kill, killL, spl, V.shift, shiftL, V.scal, scalL, intR, boolR, threeV, Nat.reduceAdd, Nat.reduceSub, Nat.reduceMul, Nat.reduceLT, Nat.reduceLeDiff, Nat.reduceEqDiff, Nat.reduceBEq, Nat.reduceBNe, Int.reduceBEq, Int.reduceBNe, Int.reduceLT, Int.reduceLE, Int.reduceAdd, Int.reduceSub, Int.reduceNeg, syQ, confV, frameV, listV, xF, xcallV, xcallC, xcallL, xcallY, xevY, xY_ready, xrange, xG_fn, xR, xA, xcl50, xclk50, xcl83, xclk83, xrp84, xrq84, awk14', awk15', xr48_0, ih]
    all_goals simp -implicitDefEqProofs only [List.map_nil]
def g_poacherref10_Frames (k : Nat) (v0 : (List (Int × Int × Int × Int × Int × Int × Int))) (v1 : (List (Int × Int × Int × Int × Int × Int × Int))) : Option Bool :=
  bif (↑v0.length : Int) != (↑v1.length : Int) then
   some (false)
  else
   g_poacherref10_Frames_L0 k v0 v1 (k) ((0 : Int))
theorem h_poacherref10_Frames (k : Nat) (v0 : (List (Int × Int × Int × Int × Int × Int × Int))) (v1 : (List (Int × Int × Int × Int × Int × Int × Int))) : xC (k + 1) none 48 [(.ro (List.map frameV v0)), (.ro (List.map frameV v1))] = ob (g_poacherref10_Frames k v0 v1) fun r => some ((.lit (.bool r)), []) := by
  rw [xC_eq]
  unfold g_poacherref10_Frames
  simp (maxSteps := 2000000) -implicitDefEqProofs only [xe48, xb48, xz48, xj48_0, xk48_0_ret, ↓syP, syA, rtN, pureL, V.pure, nsh, stBk, V.kill, killL, spl, V.shift, shiftL, V.scal, scalL, intR, boolR, threeV, Nat.reduceAdd, Nat.reduceSub, Nat.reduceMul, Nat.reduceLT, Nat.reduceLeDiff, Nat.reduceEqDiff, Nat.reduceBEq, Nat.reduceBNe, Int.reduceBEq, Int.reduceBNe, Int.reduceLT, Int.reduceLE, Int.reduceAdd, Int.reduceSub, Int.reduceNeg, syQ, confV, frameV, listV, xF, xcallV, xcallC, xcallL, xcallY, xevY, xY_ready, xrange, xG_fn, xR, xA, xcl50, xclk50, xcl83, xclk83, xrp84, xrq84, awk14', awk15', g_poacherref10_Frames_L0_eq k v0 v1]
  all_goals simp -implicitDefEqProofs only [List.map_nil]
end Go.Ab
