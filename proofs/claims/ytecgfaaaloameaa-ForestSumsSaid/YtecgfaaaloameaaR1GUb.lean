/- What one task brings, as the document says it: the recursion. -/
import Derived.Test.YtecgfaaaloameaaR1GUa
set_option maxRecDepth 100000
set_option linter.unusedVariables false
set_option linter.unusedSimpArgs false
namespace Go.Ab
open Go.Proofs
def und_step_L0 (rc : List (Int × List Int) → Int → Option (List Int)) (k : Nat) (t : List (Int × List Int)) (r : Int)  : Nat → Nat → Int → List Int → Option (List Int)
  | 0, _, _, _ => none
  | n + 1, s7, s8, s11 =>
    ob (idx t r) fun x17 =>
    bif decide (s8 < (↑x17.snd.length : Int)) then
     ob (idx t r) fun x18 =>
     ob (idx x18.snd s8) fun x19 =>
     ob (rc t x19) fun x20 =>
     ck (decide (s7 ≤ s11.length)) (
     bif room (List.take s7 s11 ++ x20).length (8 : Nat) then
      und_step_L0 rc k t r  n ((List.take s7 s11 ++ x20).length) (IntKind.i64.wrap (s8 + (1 : Int))) (List.take s7 s11 ++ x20)
     else
      none)
    else
     ck (decide (s7 ≤ s11.length)) (
     some (List.take s7 s11))
theorem und_step_L0_eq (k : Nat) (rc : List (Int × List Int) → Int → Option (List Int)) (hd : ∀ (t : List (Int × List Int)) (r : Int), xC k none 82 [.ro (List.map taskV t), .lit (.int .i64 r)] = ob (rc t r) fun q => some (.ro (List.map (intR .i64) q), [])) (t : List (Int × List Int)) (r : Int) : ∀ (n : Nat) (s7 : Nat) (s8 : Int) (s11 : List Int) ⦃s6 : Nat⦄ ⦃s10 : Nat⦄ ⦃j9 : V⦄, rt none (itX (xX (xS k) (82 : Nat) (0 : Nat) k false) xl82_0 ((2 : Nat)) (runK (xX (xS k) (82 : Nat) (0 : Nat) k false) (bodyK (xS k).P Try.f82) xk82_0) n ⟨[V.ro (List.map taskV t), V.lit (Value.int IntKind.i64 r), uu, uu, V.own (0 : Nat) (0 : Nat) (0 : Nat), V.own (1 : Nat) s6 s7, V.lit (Value.int IntKind.i64 s8), j9, V.lit (Value.int IntKind.i64 r), V.own (1 : Nat) (0 : Nat) s10, V.junk, V.junk, V.junk, V.junk, V.junk, V.junk, V.junk, V.junk, V.junk, V.junk, V.junk, V.junk, V.junk, V.junk, V.junk, V.junk, V.junk, V.junk, V.junk, V.junk, V.junk, V.junk, V.junk, uu], [B.rows (0 : Nat) [] (0 : Nat) true, B.rows (1 : Nat) (List.map (intR IntKind.i64) s11) s6 true]⟩) = ob (und_step_L0 rc k t r  n s7 s8 s11) fun r => some ((V.ro (List.map (intR IntKind.i64) r), [])) := by
  intro n
  induction n with
  | zero => intros; rfl
  | succ n ih =>
    intro s7 s8 s11 s6 s10 j9
    rw [und_step_L0]
    simp (maxSteps := 2000000) -implicitDefEqProofs only [xe82, xb82, xz82, xj82_0, xk82_0_ret, ↓syP, syA, rtN, pureL, V.pure, nsh, stBk, V.kill, killL, spl, V.shift, shiftL, V.scal, scalL, intR, boolR, threeV, Nat.reduceAdd, Nat.reduceSub, Nat.reduceMul, Nat.reduceLT, Nat.reduceLeDiff, Nat.reduceEqDiff, Nat.reduceBEq, Nat.reduceBNe, Int.reduceBEq, Int.reduceBNe, Int.reduceLT, Int.reduceLE, Int.reduceAdd, Int.reduceSub, Int.reduceNeg, xF, xcallV, xcallC, xcallL, xcallY, xevY, xY_ready, xrange, xG_fn, xR, xA, xcl62, xclk62, xcl71, xclk71, hd, xr82_0, ih]
    all_goals simp -implicitDefEqProofs only [List.map_nil]
def und_step (rc : List (Int × List Int) → Int → Option (List Int)) (k : Nat) (t : List (Int × List Int)) (r : Int) : Option (List Int) :=
  und_step_L0 rc k t r (k) ([r].length) ((0 : Int)) ([r])
theorem und_step_eq (k : Nat) (rc : List (Int × List Int) → Int → Option (List Int)) (hd : ∀ (t : List (Int × List Int)) (r : Int), xC k none 82 [.ro (List.map taskV t), .lit (.int .i64 r)] = ob (rc t r) fun q => some (.ro (List.map (intR .i64) q), [])) (t : List (Int × List Int)) (r : Int) : rt none (bodyV (xX (xS k) 82 0 k false) Try.f82 [.ro (List.map taskV t), .lit (.int .i64 r)] []) = ob (und_step rc k t r) fun r => some ((V.ro (List.map (intR IntKind.i64) r), [])) := by
  unfold und_step
  simp (maxSteps := 2000000) -implicitDefEqProofs only [xe82, xb82, xz82, xj82_0, xk82_0_ret, ↓syP, syA, rtN, pureL, V.pure, nsh, stBk, V.kill, killL, spl, V.shift, shiftL, V.scal, scalL, intR, boolR, threeV, Nat.reduceAdd, Nat.reduceSub, Nat.reduceMul, Nat.reduceLT, Nat.reduceLeDiff, Nat.reduceEqDiff, Nat.reduceBEq, Nat.reduceBNe, Int.reduceBEq, Int.reduceBNe, Int.reduceLT, Int.reduceLE, Int.reduceAdd, Int.reduceSub, Int.reduceNeg, xF, xcallV, xcallC, xcallL, xcallY, xevY, xY_ready, xrange, xG_fn, xR, xA, xcl62, xclk62, xcl71, xclk71, hd, und_step_L0_eq k rc hd t r]
  all_goals simp -implicitDefEqProofs only [List.map_nil]

def undF : Nat → List (Int × List Int) → Int → Option (List Int)
  | 0, _, _ => none
  | k + 1, t, r => und_step (undF k) k t r
theorem h_ref_under : ∀ (k : Nat) (t : List (Int × List Int)) (r : Int), xC k none 82 [.ro (List.map taskV t), .lit (.int .i64 r)] = ob (undF k t r) fun q => some (.ro (List.map (intR .i64) q), [])
  | 0 => by intros; rfl
  | k + 1 => by
    intro t r
    rw [xC_eq, xe82, undF]
    exact und_step_eq k (undF k) (h_ref_under k) t r
end Go.Ab
