/- Functions as they are walked: printed by Walk.lean. -/
import Derived.Test.YtecgfaaaloameaaR1GF
import Derived.Test.YtecgfaaaloameaaR1B5
set_option maxRecDepth 100000
set_option linter.unusedVariables false
set_option linter.unusedSimpArgs false
namespace Go.Ab
open Go.Proofs
def g_think_in (v0 : Int) (v1 : Int) : Option Bool :=
  bif decide ((0 : Int) ≤ v0) then
   some (decide (v0 ≤ v1))
  else
   some (false)
theorem h_think_in (k : Nat) (v0 : Int) (v1 : Int) : xC (k + 1) none 73 [(.lit (.int .i64 v0)), (.lit (.int .i64 v1))] = ob (g_think_in v0 v1) fun r => some ((.lit (.bool r)), []) := by
  rw [xC_eq]
  unfold g_think_in
  simp (maxSteps := 2000000) -implicitDefEqProofs only [xe73, xb73, xm73_0, xk73_0_ret, ↓syP, syA, rtN, pureL, V.pure, nsh, stBk, V.kill, killL, spl, V.shift, shiftL, V.scal, scalL, intR, boolR, threeV, Nat.reduceAdd, Nat.reduceSub, Nat.reduceMul, Nat.reduceLT, Nat.reduceLeDiff, Nat.reduceEqDiff, Nat.reduceBEq, Nat.reduceBNe, Int.reduceBEq, Int.reduceBNe, Int.reduceLT, Int.reduceLE, Int.reduceAdd, Int.reduceSub, Int.reduceNeg, xF, xcallV, xcallC, xcallL, xcallY, xevY, xY_ready, xrange, xG_fn, xR, xA, xcl62, xclk62, xcl71, xclk71]
  all_goals simp -implicitDefEqProofs only [List.map_nil]
def e_think_May_E0_L0 (k : Nat)   : Nat → List (Int × Int × Int) → Int → List (Int × List Int) → Int → Option Int
  | 0, _, _, _, _ => none
  | n + 1, s4, s5, s6, s14 =>
    bif decide (s14 < s5) then
     ob (idx s4 s14) fun x27 =>
     ob (g_think_in x27.fst (IntKind.i64.wrap ((↑s6.length : Int) - (1 : Int)))) fun x28 =>
     bif !x28 then
      some (s14)
     else
      ob (idx s6 x27.fst) fun x29 =>
      ob (g_think_in x27.snd.fst x29.fst) fun x30 =>
      bif !x30 then
       some (s14)
      else
       ob (g_think_in x27.snd.snd (↑x29.snd.length : Int)) fun x31 =>
       bif !x31 then
        some (s14)
       else
        bif decide (x27.snd.fst < x29.fst) then
         bif decide ((0 : Int) < x27.snd.snd) then
          some (s14)
         else
          e_think_May_E0_L0 k   n (s4) (s5) (s6) (IntKind.i64.wrap (s14 + (1 : Int)))
        else
         e_think_May_E0_L0 k   n (s4) (s5) (s6) (IntKind.i64.wrap (s14 + (1 : Int)))
    else
     some ((-1 : Int))
theorem e_think_May_E0_L0_eq (k : Nat)  : ∀ (n : Nat) (s4 : List (Int × Int × Int)) (s5 : Int) (s6 : List (Int × List Int)) (s14 : Int) ⦃j13 : V⦄, itX (xX (xS (k + (17 : Nat))) (97 : Nat) (0 : Nat) (k + (17 : Nat)) false) xl97_0 ((1 : Nat)) (runK (xX (xS (k + (17 : Nat))) (97 : Nat) (0 : Nat) (k + (17 : Nat)) false) (bodyK (xS (k + (17 : Nat))).P Try.f97) xk97_0) n ⟨[V.ro (List.map threeV s4), V.fn (Fn.func (75 : FuncId)) [] [V.ptr (0 : Nat) (0 : Nat) (0 : Nat) (0 : Nat)], uu, uu, V.lit (Value.int IntKind.i64 (0 : Int)), j13, V.ro (List.map threeV s4), V.lit (Value.int IntKind.i64 s5), V.lit (Value.int IntKind.i64 s14), V.junk, V.junk, V.junk, V.junk, V.junk, V.junk, V.junk, V.junk, V.junk, V.junk], [B.box [V.ro (List.map taskV s6)]]⟩ = ob (e_think_May_E0_L0 k   n s4 s5 s6 s14) fun r => some ((V.lit (Value.int IntKind.i64 r), [B.box [V.ro (List.map taskV s6)]])) := by
  intro n
  induction n with
  | zero => intros; rfl
  | succ n ih =>
    intro s4 s5 s6 s14 j13
    rw [e_think_May_E0_L0]
    simp (maxSteps := 2000000) -implicitDefEqProofs only [xe48, xb48, xm48_0, xk48_0_ret, xe74, xb74, xe75, xb75, xm75_0, xm75_1, xm75_2, xm75_3, xm75_4, xm75_5, xk75_0_ret, xe97, xb97, xz97, xj97_0, xk97_0_ret, ↓syP, syA, rtN, pureL, V.pure, nsh, stBk, V.kill, killL, spl, V.shift, shiftL, V.scal, scalL, intR, boolR, threeV, Nat.reduceAdd, Nat.reduceSub, Nat.reduceMul, Nat.reduceLT, Nat.reduceLeDiff, Nat.reduceEqDiff, Nat.reduceBEq, Nat.reduceBNe, Int.reduceBEq, Int.reduceBNe, Int.reduceLT, Int.reduceLE, Int.reduceAdd, Int.reduceSub, Int.reduceNeg, xF, xcallV, xcallC, xcallL, xcallY, xevY, xY_ready, xrange, xG_fn, xR, xA, xcl62, xclk62, xcl71, xclk71, h_think_in, xr97_0, ih]
    all_goals simp -implicitDefEqProofs only [List.map_nil]
def g_think_May (k : Nat) (v0 : (List (Int × List Int))) (v1 : (List (Int × Int × Int))) : Option Bool :=
  ob (g_forest_May k v0) fun x34 =>
  bif x34 then
   ob (e_think_May_E0_L0 k (k + (17 : Nat)) v1 (↑v1.length : Int) v0 (0 : Int)) fun x35 =>
   some (!decide ((0 : Int) ≤ x35))
  else
   some (false)
theorem h_think_May (k : Nat) (v0 : (List (Int × List Int))) (v1 : (List (Int × Int × Int))) : xC (k + 20) none 48 [(.ro (List.map taskV v0)), (.ro (List.map threeV v1))] = ob (g_think_May k v0 v1) fun r => some ((.lit (.bool r)), []) := by
  rw [xC_eq]
  unfold g_think_May
  simp (maxSteps := 2000000) -implicitDefEqProofs only [xe48, xb48, xm48_0, xk48_0_ret, xe74, xb74, xe75, xb75, xm75_0, xm75_1, xm75_2, xm75_3, xm75_4, xm75_5, xk75_0_ret, xe97, xb97, xz97, xj97_0, xk97_0_ret, ↓syP, syA, rtN, pureL, V.pure, nsh, stBk, V.kill, killL, spl, V.shift, shiftL, V.scal, scalL, intR, boolR, threeV, Nat.reduceAdd, Nat.reduceSub, Nat.reduceMul, Nat.reduceLT, Nat.reduceLeDiff, Nat.reduceEqDiff, Nat.reduceBEq, Nat.reduceBNe, Int.reduceBEq, Int.reduceBNe, Int.reduceLT, Int.reduceLE, Int.reduceAdd, Int.reduceSub, Int.reduceNeg, xF, xcallV, xcallC, xcallL, xcallY, xevY, xY_ready, xrange, xG_fn, xR, xA, xcl62, xclk62, xcl71, xclk71, h_forest_May, e_think_May_E0_L0_eq]
  all_goals simp -implicitDefEqProofs only [List.map_nil]
def g_think_Next (k : Nat) (v0 : (List (Int × List Int))) (v1 : (List (Int × Int × Int))) : Option (Int × Int) :=
  bif (↑v1.length : Int) == (0 : Int) then
   some (((0 : Int)), ((0 : Int)))
  else
   ob (g_think_May k v0 v1) fun x42 =>
   bif !x42 then
    some (((0 : Int)), ((0 : Int)))
   else
    ob (idx v1 (IntKind.i64.wrap ((↑v1.length : Int) - (1 : Int)))) fun x43 =>
    ob (idx v0 x43.fst) fun x44 =>
    bif decide (x43.snd.fst < x44.fst) then
     some (((1 : Int)), (x43.fst))
    else
     bif decide (x43.snd.snd < (↑x44.snd.length : Int)) then
      ob (idx x44.snd x43.snd.snd) fun x45 =>
      some (((2 : Int)), (x45))
     else
      some (((3 : Int)), (x43.fst))
theorem h_think_Next (k : Nat) (v0 : (List (Int × List Int))) (v1 : (List (Int × Int × Int))) : xC (k + 21) none 44 [(.ro (List.map taskV v0)), (.ro (List.map threeV v1))] = ob (g_think_Next k v0 v1) fun r => some ((.agg [(.lit (.int .i64 r.1)), (.lit (.int .i64 r.2))]), []) := by
  rw [xC_eq]
  unfold g_think_Next
  simp (maxSteps := 2000000) -implicitDefEqProofs only [xe44, xb44, xm44_0, xk44_0_ret, ↓syP, syA, rtN, pureL, V.pure, nsh, stBk, V.kill, killL, spl, V.shift, shiftL, V.scal, scalL, intR, boolR, threeV, Nat.reduceAdd, Nat.reduceSub, Nat.reduceMul, Nat.reduceLT, Nat.reduceLeDiff, Nat.reduceEqDiff, Nat.reduceBEq, Nat.reduceBNe, Int.reduceBEq, Int.reduceBNe, Int.reduceLT, Int.reduceLE, Int.reduceAdd, Int.reduceSub, Int.reduceNeg, xF, xcallV, xcallC, xcallL, xcallY, xevY, xY_ready, xrange, xG_fn, xR, xA, xcl62, xclk62, xcl71, xclk71, h_think_May]
  all_goals simp -implicitDefEqProofs only [List.map_nil]
def g_think_Do (k : Nat) (v0 : (List (Int × List Int))) (v1 : (List (Int × Int × Int))) : Option (List (Int × Int × Int)) :=
  ob (g_clone (24 : Nat) v1) fun x56 =>
  ob (g_think_Next k v0 v1) fun x57 =>
  bif x57.fst == (1 : Int) then
   bif decide ((0 : Int) ≤ IntKind.i64.wrap ((↑x56.length : Int) - (1 : Int)) ∧ (IntKind.i64.wrap ((↑x56.length : Int) - (1 : Int))).toNat < x56.length) then
    ob (x56[(IntKind.i64.wrap ((↑x56.length : Int) - (1 : Int))).toNat]?) fun x58 =>
    bif decide ((0 : Int) ≤ IntKind.i64.wrap ((↑x56.length : Int) - (1 : Int)) ∧ (IntKind.i64.wrap ((↑x56.length : Int) - (1 : Int))).toNat < x56.length) then
     ob (x56[(IntKind.i64.wrap ((↑x56.length : Int) - (1 : Int))).toNat]?) fun x59 =>
     some (x56.set (IntKind.i64.wrap ((↑x56.length : Int) - (1 : Int))).toNat (x59.fst, IntKind.i64.wrap (x58.snd.fst + (1 : Int)), x59.snd.snd))
    else
     none
   else
    none
  else
   bif x57.fst == (2 : Int) then
    bif decide ((0 : Int) ≤ IntKind.i64.wrap ((↑x56.length : Int) - (1 : Int)) ∧ (IntKind.i64.wrap ((↑x56.length : Int) - (1 : Int))).toNat < x56.length) then
     ob (x56[(IntKind.i64.wrap ((↑x56.length : Int) - (1 : Int))).toNat]?) fun x60 =>
     bif decide ((0 : Int) ≤ IntKind.i64.wrap ((↑x56.length : Int) - (1 : Int)) ∧ (IntKind.i64.wrap ((↑x56.length : Int) - (1 : Int))).toNat < x56.length) then
      ob (x56[(IntKind.i64.wrap ((↑x56.length : Int) - (1 : Int))).toNat]?) fun x61 =>
      some (x56.set (IntKind.i64.wrap ((↑x56.length : Int) - (1 : Int))).toNat (x61.fst, x61.snd.fst, IntKind.i64.wrap (x60.snd.snd + (1 : Int))))
     else
      none
    else
     none
   else
    bif x57.fst == (3 : Int) then
     ck (decide ((0 : Int) ≤ IntKind.i64.wrap ((↑x56.length : Int) - (1 : Int)) ∧ (IntKind.i64.wrap ((↑x56.length : Int) - (1 : Int))).toNat ≤ x56.length)) (
     ck (decide ((IntKind.i64.wrap ((↑x56.length : Int) - (1 : Int))).toNat ≤ x56.length)) (
     some (List.take (IntKind.i64.wrap ((↑x56.length : Int) - (1 : Int))).toNat x56)))
    else
     some (x56)
theorem h_think_Do (k : Nat) (v0 : (List (Int × List Int))) (v1 : (List (Int × Int × Int))) : xC (k + 22) none 39 [(.ro (List.map taskV v0)), (.ro (List.map threeV v1))] = ob (g_think_Do k v0 v1) fun r => some ((.ro (List.map threeV r)), []) := by
  rw [xC_eq]
  unfold g_think_Do
  simp (maxSteps := 2000000) -implicitDefEqProofs only [xe39, xb39, xe72, xb72, xC_eq (g := 72), xe94, xb94, xe95, xb95, xe96, xb96, ↓syP, syA, rtN, pureL, V.pure, nsh, stBk, V.kill, killL, spl, V.shift, shiftL, V.scal, scalL, intR, boolR, threeV, Nat.reduceAdd, Nat.reduceSub, Nat.reduceMul, Nat.reduceLT, Nat.reduceLeDiff, Nat.reduceEqDiff, Nat.reduceBEq, Nat.reduceBNe, Int.reduceBEq, Int.reduceBNe, Int.reduceLT, Int.reduceLE, Int.reduceAdd, Int.reduceSub, Int.reduceNeg, xF, xcallV, xcallC, xcallL, xcallY, xevY, xY_ready, xrange, xG_fn, xR, xA, xcl62, xclk62, xcl71, xclk71, h_think_Next]
  all_goals simp -implicitDefEqProofs only [List.map_nil]
def g_think_Start (k : Nat) (v0 : (List (Int × List Int))) (v1 : (List (Int × Int × Int))) (v2 : Int) : Option (List (Int × Int × Int)) :=
  ob (g_clone (24 : Nat) v1) fun x71 =>
  ob (g_think_May k v0 v1) fun x72 =>
  bif !x72 then
   some (x71)
  else
   ob (g_think_in v2 (IntKind.i64.wrap ((↑v0.length : Int) - (1 : Int)))) fun x73 =>
   bif !x73 then
    some (x71)
   else
    bif room (x71 ++ [(v2, (0 : Int), (0 : Int))]).length (24 : Nat) then
     some (x71 ++ [(v2, (0 : Int), (0 : Int))])
    else
     none
theorem h_think_Start (k : Nat) (v0 : (List (Int × List Int))) (v1 : (List (Int × Int × Int))) (v2 : Int) : xC (k + 21) none 41 [(.ro (List.map taskV v0)), (.ro (List.map threeV v1)), (.lit (.int .i64 v2))] = ob (g_think_Start k v0 v1 v2) fun r => some ((.ro (List.map threeV r)), []) := by
  rw [xC_eq]
  unfold g_think_Start
  simp (maxSteps := 2000000) -implicitDefEqProofs only [xe41, xb41, xm41_0, xk41_0_ret, ↓syP, syA, rtN, pureL, V.pure, nsh, stBk, V.kill, killL, spl, V.shift, shiftL, V.scal, scalL, intR, boolR, threeV, Nat.reduceAdd, Nat.reduceSub, Nat.reduceMul, Nat.reduceLT, Nat.reduceLeDiff, Nat.reduceEqDiff, Nat.reduceBEq, Nat.reduceBNe, Int.reduceBEq, Int.reduceBNe, Int.reduceLT, Int.reduceLE, Int.reduceAdd, Int.reduceSub, Int.reduceNeg, xF, xcallV, xcallC, xcallL, xcallY, xevY, xY_ready, xrange, xG_fn, xR, xA, xcl62, xclk62, xcl71, xclk71, h_think_in, h_think_May]
  all_goals simp -implicitDefEqProofs only [List.map_nil]
def g_think_Left_L0 (k : Nat) (v0 : (List (Int × List Int))) (v1 : (List (Int × Int × Int)))  : Nat → Int → Int → Option Int
  | 0, _, _ => none
  | n + 1, s84, s86 =>
    bif decide (s86 < (↑v1.length : Int)) then
     ob (idx v1 s86) fun x91 =>
     ob (idx v0 x91.fst) fun x92 =>
     ob (idx v0 x91.fst) fun x93 =>
     g_think_Left_L0 k v0 v1  n (IntKind.i64.wrap (s84 + IntKind.i64.wrap (IntKind.i64.wrap (IntKind.i64.wrap (IntKind.i64.wrap (x92.fst - x91.snd.fst) + (↑x93.snd.length : Int)) - x91.snd.snd) + (1 : Int)))) (IntKind.i64.wrap (s86 + (1 : Int)))
    else
     some (s84)
theorem g_think_Left_L0_eq (k : Nat) (v0 : (List (Int × List Int))) (v1 : (List (Int × Int × Int))) : ∀ (n : Nat) (s84 : Int) (s86 : Int) ⦃s79 : Bool⦄ ⦃j85 : V⦄, rt none (itX (xX (xS (k + (20 : Nat))) (46 : Nat) (0 : Nat) (k + (20 : Nat)) false) xl46_0 ((0 : Nat)) (runK (xX (xS (k + (20 : Nat))) (46 : Nat) (0 : Nat) (k + (20 : Nat)) false) (bodyK (xS (k + (20 : Nat))).P Try.f46) xk46_0) n ⟨[V.ro (List.map taskV v0), V.ro (List.map threeV v1), uu, uu, V.lit (Value.int IntKind.i64 (0 : Int)), V.lit (Value.int IntKind.i64 s84), uu, j85, V.ro (List.map taskV v0), V.ro (List.map threeV v1), V.lit (Value.bool s79), V.ro (List.map threeV v1), V.lit (Value.int IntKind.i64 (↑v1.length : Int)), V.lit (Value.int IntKind.i64 s86), V.junk, V.junk, V.junk, V.junk, V.junk, V.junk, V.junk, V.junk, V.junk, V.junk, V.junk, V.junk, V.junk, V.junk, V.junk, V.junk, V.junk, V.junk, V.junk, V.junk, V.junk, V.junk, V.junk, V.junk, V.junk, V.junk, V.junk, uu], []⟩) = ob (g_think_Left_L0 k v0 v1  n s84 s86) fun r => some ((.lit (.int .i64 r)), []) := by
  intro n
  induction n with
  | zero => intros; rfl
  | succ n ih =>
    intro s84 s86 s79 j85
    rw [g_think_Left_L0]
    simp (maxSteps := 2000000) -implicitDefEqProofs only [xe46, xb46, xz46, xj46_0, xj46_1, xk46_0_ret, xk46_1_ret, ↓syP, syA, rtN, pureL, V.pure, nsh, stBk, V.kill, killL, spl, V.shift, shiftL, V.scal, scalL, intR, boolR, threeV, Nat.reduceAdd, Nat.reduceSub, Nat.reduceMul, Nat.reduceLT, Nat.reduceLeDiff, Nat.reduceEqDiff, Nat.reduceBEq, Nat.reduceBNe, Int.reduceBEq, Int.reduceBNe, Int.reduceLT, Int.reduceLE, Int.reduceAdd, Int.reduceSub, Int.reduceNeg, xF, xcallV, xcallC, xcallL, xcallY, xevY, xY_ready, xrange, xG_fn, xR, xA, xcl62, xclk62, xcl71, xclk71, h_think_May, xr46_0, ih]
    all_goals simp -implicitDefEqProofs only [List.map_nil]
def g_think_Left (k : Nat) (v0 : (List (Int × List Int))) (v1 : (List (Int × Int × Int))) : Option Int :=
  ob (g_think_May k v0 v1) fun x94 =>
  bif x94 then
   g_think_Left_L0 k v0 v1 (k + (20 : Nat)) ((0 : Int)) ((0 : Int))
  else
   some ((0 : Int))
theorem h_think_Left (k : Nat) (v0 : (List (Int × List Int))) (v1 : (List (Int × Int × Int))) : xC (k + 21) none 46 [(.ro (List.map taskV v0)), (.ro (List.map threeV v1))] = ob (g_think_Left k v0 v1) fun r => some ((.lit (.int .i64 r)), []) := by
  rw [xC_eq]
  unfold g_think_Left
  simp (maxSteps := 2000000) -implicitDefEqProofs only [xe46, xb46, xz46, xj46_0, xj46_1, xk46_0_ret, xk46_1_ret, ↓syP, syA, rtN, pureL, V.pure, nsh, stBk, V.kill, killL, spl, V.shift, shiftL, V.scal, scalL, intR, boolR, threeV, Nat.reduceAdd, Nat.reduceSub, Nat.reduceMul, Nat.reduceLT, Nat.reduceLeDiff, Nat.reduceEqDiff, Nat.reduceBEq, Nat.reduceBNe, Int.reduceBEq, Int.reduceBNe, Int.reduceLT, Int.reduceLE, Int.reduceAdd, Int.reduceSub, Int.reduceNeg, xF, xcallV, xcallC, xcallL, xcallY, xevY, xY_ready, xrange, xG_fn, xR, xA, xcl62, xclk62, xcl71, xclk71, h_think_May, g_think_Left_L0_eq k v0 v1]
  all_goals simp -implicitDefEqProofs only [List.map_nil]
def g_slices_Equal_apiItem_L0 (k : Nat) (v0 : (List (Int × Int × Int))) (v1 : (List (Int × Int × Int)))  : Nat → Int → Option Bool
  | 0, _ => none
  | n + 1, s100 =>
    bif decide (s100 < (↑v0.length : Int)) then
     ob (idx v0 s100) fun x103 =>
     ob (idx v1 s100) fun x104 =>
     bif !(x103.fst == x104.fst && (x103.snd.fst == x104.snd.fst && x103.snd.snd == x104.snd.snd)) then
      some (false)
     else
      g_slices_Equal_apiItem_L0 k v0 v1  n (IntKind.i64.wrap (s100 + (1 : Int)))
    else
     some (true)
theorem g_slices_Equal_apiItem_L0_eq (k : Nat) (v0 : (List (Int × Int × Int))) (v1 : (List (Int × Int × Int))) : ∀ (n : Nat) (s100 : Int) ⦃j99 : V⦄, rt none (itX (xX (xS k) (76 : Nat) (0 : Nat) k false) xl76_0 ((0 : Nat)) (runK (xX (xS k) (76 : Nat) (0 : Nat) k false) (bodyK (xS k).P Try.f76) xk76_0) n ⟨[V.ro (List.map threeV v0), V.ro (List.map threeV v1), uu, uu, V.lit (Value.bool false), j99, V.ro (List.map threeV v0), V.lit (Value.int IntKind.i64 (↑v0.length : Int)), V.ro (List.map threeV v1), V.lit (Value.int IntKind.i64 (↑v1.length : Int)), V.lit (Value.bool ((↑v0.length : Int) != (↑v1.length : Int))), V.ro (List.map threeV v0), V.lit (Value.int IntKind.i64 (↑v0.length : Int)), V.lit (Value.int IntKind.i64 s100), V.junk, V.junk, V.junk, V.junk, V.junk, V.junk, V.junk, V.junk, V.junk, V.junk, V.junk, V.junk], []⟩) = ob (g_slices_Equal_apiItem_L0 k v0 v1  n s100) fun r => some ((.lit (.bool r)), []) := by
  intro n
  induction n with
  | zero => intros; rfl
  | succ n ih =>
    intro s100 j99
    rw [g_slices_Equal_apiItem_L0]
    simp (maxSteps := 2000000) -implicitDefEqProofs only [xe76, xb76, xz76, xj76_0, xk76_0_ret, ↓syP, syA, rtN, pureL, V.pure, nsh, stBk, V.kill, killL, spl, V.shift, shiftL, V.scal, scalL, intR, boolR, threeV, Nat.reduceAdd, Nat.reduceSub, Nat.reduceMul, Nat.reduceLT, Nat.reduceLeDiff, Nat.reduceEqDiff, Nat.reduceBEq, Nat.reduceBNe, Int.reduceBEq, Int.reduceBNe, Int.reduceLT, Int.reduceLE, Int.reduceAdd, Int.reduceSub, Int.reduceNeg, xF, xcallV, xcallC, xcallL, xcallY, xevY, xY_ready, xrange, xG_fn, xR, xA, xcl62, xclk62, xcl71, xclk71, xr76_0, ih]
    all_goals simp -implicitDefEqProofs only [List.map_nil]
def g_slices_Equal_apiItem (k : Nat) (v0 : (List (Int × Int × Int))) (v1 : (List (Int × Int × Int))) : Option Bool :=
  bif (↑v0.length : Int) != (↑v1.length : Int) then
   some (false)
  else
   g_slices_Equal_apiItem_L0 k v0 v1 (k) ((0 : Int))
theorem h_slices_Equal_apiItem (k : Nat) (v0 : (List (Int × Int × Int))) (v1 : (List (Int × Int × Int))) : xC (k + 1) none 76 [(.ro (List.map threeV v0)), (.ro (List.map threeV v1))] = ob (g_slices_Equal_apiItem k v0 v1) fun r => some ((.lit (.bool r)), []) := by
  rw [xC_eq]
  unfold g_slices_Equal_apiItem
  simp (maxSteps := 2000000) -implicitDefEqProofs only [xe76, xb76, xz76, xj76_0, xk76_0_ret, ↓syP, syA, rtN, pureL, V.pure, nsh, stBk, V.kill, killL, spl, V.shift, shiftL, V.scal, scalL, intR, boolR, threeV, Nat.reduceAdd, Nat.reduceSub, Nat.reduceMul, Nat.reduceLT, Nat.reduceLeDiff, Nat.reduceEqDiff, Nat.reduceBEq, Nat.reduceBNe, Int.reduceBEq, Int.reduceBNe, Int.reduceLT, Int.reduceLE, Int.reduceAdd, Int.reduceSub, Int.reduceNeg, xF, xcallV, xcallC, xcallL, xcallY, xevY, xY_ready, xrange, xG_fn, xR, xA, xcl62, xclk62, xcl71, xclk71, g_slices_Equal_apiItem_L0_eq k v0 v1]
  all_goals simp -implicitDefEqProofs only [List.map_nil]
def g_think_Same (k : Nat) (v0 : (List (Int × Int × Int))) (v1 : (List (Int × Int × Int))) : Option Bool :=
  ob (g_slices_Equal_apiItem k v0 v1) fun x106 =>
  some (x106)
theorem h_think_Same (k : Nat) (v0 : (List (Int × Int × Int))) (v1 : (List (Int × Int × Int))) : xC (k + 2) none 49 [(.ro (List.map threeV v0)), (.ro (List.map threeV v1))] = ob (g_think_Same k v0 v1) fun r => some ((.lit (.bool r)), []) := by
  rw [xC_eq]
  unfold g_think_Same
  simp (maxSteps := 2000000) -implicitDefEqProofs only [xe49, xb49, ↓syP, syA, rtN, pureL, V.pure, nsh, stBk, V.kill, killL, spl, V.shift, shiftL, V.scal, scalL, intR, boolR, threeV, Nat.reduceAdd, Nat.reduceSub, Nat.reduceMul, Nat.reduceLT, Nat.reduceLeDiff, Nat.reduceEqDiff, Nat.reduceBEq, Nat.reduceBNe, Int.reduceBEq, Int.reduceBNe, Int.reduceLT, Int.reduceLE, Int.reduceAdd, Int.reduceSub, Int.reduceNeg, xF, xcallV, xcallC, xcallL, xcallY, xevY, xY_ready, xrange, xG_fn, xR, xA, xcl62, xclk62, xcl71, xclk71, h_slices_Equal_apiItem]
  all_goals simp -implicitDefEqProofs only [List.map_nil]
def g_poacherref17_Same_L0 (k : Nat) (v0 : (List (Int × Int × Int))) (v1 : (List (Int × Int × Int)))  : Nat → Int → Option Bool
  | 0, _ => none
  | n + 1, s111 =>
    bif decide (s111 < (↑v0.length : Int)) then
     ob (idx v0 s111) fun x114 =>
     ob (idx v1 s111) fun x115 =>
     bif !(x114.fst == x115.fst && (x114.snd.fst == x115.snd.fst && x114.snd.snd == x115.snd.snd)) then
      some (false)
     else
      g_poacherref17_Same_L0 k v0 v1  n (IntKind.i64.wrap (s111 + (1 : Int)))
    else
     some (true)
theorem g_poacherref17_Same_L0_eq (k : Nat) (v0 : (List (Int × Int × Int))) (v1 : (List (Int × Int × Int))) : ∀ (n : Nat) (s111 : Int), rt none (itX (xX (xS k) (38 : Nat) (0 : Nat) k false) xl38_0 ((0 : Nat)) (runK (xX (xS k) (38 : Nat) (0 : Nat) k false) (bodyK (xS k).P Try.f38) xk38_0) n ⟨[V.ro (List.map threeV v0), V.ro (List.map threeV v1), uu, uu, V.lit (Value.bool false), V.lit (Value.int IntKind.i64 s111), V.ro (List.map threeV v0), V.lit (Value.int IntKind.i64 (↑v0.length : Int)), V.ro (List.map threeV v1), V.lit (Value.int IntKind.i64 (↑v1.length : Int)), V.lit (Value.bool ((↑v0.length : Int) != (↑v1.length : Int))), V.junk, V.junk, V.junk, V.junk, V.junk, V.junk, V.junk, V.junk, V.junk, V.junk, V.junk, V.junk, V.junk, V.junk, V.junk], []⟩) = ob (g_poacherref17_Same_L0 k v0 v1  n s111) fun r => some ((.lit (.bool r)), []) := by
  intro n
  induction n with
  | zero => intros; rfl
  | succ n ih =>
    intro s111
    rw [g_poacherref17_Same_L0]
    simp (maxSteps := 2000000) -implicitDefEqProofs only [xe38, xb38, xz38, xj38_0, xk38_0_ret, ↓syP, syA, rtN, pureL, V.pure, nsh, stBk, V.kill, killL, spl, V.shift, shiftL, V.scal, scalL, intR, boolR, threeV, Nat.reduceAdd, Nat.reduceSub, Nat.reduceMul, Nat.reduceLT, Nat.reduceLeDiff, Nat.reduceEqDiff, Nat.reduceBEq, Nat.reduceBNe, Int.reduceBEq, Int.reduceBNe, Int.reduceLT, Int.reduceLE, Int.reduceAdd, Int.reduceSub, Int.reduceNeg, xF, xcallV, xcallC, xcallL, xcallY, xevY, xY_ready, xrange, xG_fn, xR, xA, xcl62, xclk62, xcl71, xclk71, xr38_0, ih]
    all_goals simp -implicitDefEqProofs only [List.map_nil]
def g_poacherref17_Same (k : Nat) (v0 : (List (Int × Int × Int))) (v1 : (List (Int × Int × Int))) : Option Bool :=
  bif (↑v0.length : Int) != (↑v1.length : Int) then
   some (false)
  else
   g_poacherref17_Same_L0 k v0 v1 (k) ((0 : Int))
theorem h_poacherref17_Same (k : Nat) (v0 : (List (Int × Int × Int))) (v1 : (List (Int × Int × Int))) : xC (k + 1) none 38 [(.ro (List.map threeV v0)), (.ro (List.map threeV v1))] = ob (g_poacherref17_Same k v0 v1) fun r => some ((.lit (.bool r)), []) := by
  rw [xC_eq]
  unfold g_poacherref17_Same
  simp (maxSteps := 2000000) -implicitDefEqProofs only [xe38, xb38, xz38, xj38_0, xk38_0_ret, ↓syP, syA, rtN, pureL, V.pure, nsh, stBk, V.kill, killL, spl, V.shift, shiftL, V.scal, scalL, intR, boolR, threeV, Nat.reduceAdd, Nat.reduceSub, Nat.reduceMul, Nat.reduceLT, Nat.reduceLeDiff, Nat.reduceEqDiff, Nat.reduceBEq, Nat.reduceBNe, Int.reduceBEq, Int.reduceBNe, Int.reduceLT, Int.reduceLE, Int.reduceAdd, Int.reduceSub, Int.reduceNeg, xF, xcallV, xcallC, xcallL, xcallY, xevY, xY_ready, xrange, xG_fn, xR, xA, xcl62, xclk62, xcl71, xclk71, g_poacherref17_Same_L0_eq k v0 v1]
  all_goals simp -implicitDefEqProofs only [List.map_nil]
def g_poacherref17_May_L0 (k : Nat) (v0 : (List (Int × List Int))) (v1 : (List (Int × Int × Int)))  : Nat → Int → Option Bool
  | 0, _ => none
  | n + 1, s131 =>
    bif decide (s131 < (↑v1.length : Int)) then
     ob (idx v1 s131) fun x144 =>
     bif decide (x144.fst < (0 : Int)) then
      some (false)
     else
      bif decide ((↑v0.length : Int) ≤ x144.fst) then
       some (false)
      else
       ob (idx v1 s131) fun x145 =>
       bif decide (x145.snd.fst < (0 : Int)) then
        some (false)
       else
        ob (idx v1 s131) fun x146 =>
        ob (idx v0 x144.fst) fun x147 =>
        bif decide (x147.fst < x146.snd.fst) then
         some (false)
        else
         ob (idx v1 s131) fun x148 =>
         bif decide (x148.snd.snd < (0 : Int)) then
          some (false)
         else
          ob (idx v1 s131) fun x149 =>
          ob (idx v0 x144.fst) fun x150 =>
          bif decide ((↑x150.snd.length : Int) < x149.snd.snd) then
           some (false)
          else
           ob (idx v1 s131) fun x151 =>
           ob (idx v0 x144.fst) fun x152 =>
           bif decide (x151.snd.fst < x152.fst) then
            ob (idx v1 s131) fun x153 =>
            bif x153.snd.snd != (0 : Int) then
             some (false)
            else
             g_poacherref17_May_L0 k v0 v1  n (IntKind.i64.wrap (s131 + (1 : Int)))
           else
            g_poacherref17_May_L0 k v0 v1  n (IntKind.i64.wrap (s131 + (1 : Int)))
    else
     some (true)
theorem g_poacherref17_May_L0_eq (k : Nat) (v0 : (List (Int × List Int))) (v1 : (List (Int × Int × Int))) : ∀ (n : Nat) (s131 : Int) ⦃s118 : Bool⦄ ⦃s119 : Bool⦄ ⦃j132 : V⦄, rt none (itX (xX (xS (k + (1 : Nat))) (43 : Nat) (0 : Nat) (k + (1 : Nat)) false) xl43_0 ((0 : Nat)) (runK (xX (xS (k + (1 : Nat))) (43 : Nat) (0 : Nat) (k + (1 : Nat)) false) (bodyK (xS (k + (1 : Nat))).P Try.f43) xk43_0) n ⟨(V.ro (List.map taskV v0) :: V.ro (List.map threeV v1) :: uu :: uu :: V.lit (Value.bool false) :: V.lit (Value.bool s118) :: V.lit (Value.int IntKind.i64 s131) :: j132 :: V.ro (List.map taskV v0) :: V.lit (Value.bool s118) :: V.lit (Value.bool s118) :: V.lit (Value.bool s119) :: V.junk :: V.junk :: V.junk :: V.junk :: V.junk :: V.junk :: V.junk :: V.junk :: V.junk :: V.junk :: V.junk :: V.junk :: V.junk :: V.junk :: V.junk :: V.junk :: V.junk :: V.junk :: V.junk :: V.junk :: V.junk :: V.junk :: V.junk :: V.junk :: V.junk :: V.junk :: V.junk :: V.junk :: V.junk :: V.junk :: V.junk :: V.junk :: V.junk :: V.junk :: V.junk :: V.junk :: V.junk :: V.junk :: V.junk :: V.junk :: V.junk :: V.junk :: V.junk :: V.junk :: V.junk :: V.junk :: V.junk :: V.junk :: V.junk :: V.junk :: V.junk :: V.junk :: V.junk :: V.junk :: V.junk :: V.junk :: V.junk :: V.junk :: V.junk :: V.junk :: V.junk :: V.junk :: V.junk :: V.junk :: V.junk :: V.junk :: V.junk :: V.junk :: V.junk :: V.junk :: V.junk :: V.junk :: V.junk :: V.junk :: V.junk :: V.junk :: V.junk :: V.junk :: V.junk :: V.junk :: V.junk :: []), []⟩) = ob (g_poacherref17_May_L0 k v0 v1  n s131) fun r => some ((.lit (.bool r)), []) := by
  intro n
  induction n with
  | zero => intros; rfl
  | succ n ih =>
    intro s131 s118 s119 j132
    rw [g_poacherref17_May_L0]
    simp (maxSteps := 2000000) -implicitDefEqProofs only [xe43, xb43, xz43, xj43_0, xm43_1, xm43_2, xm43_3, xm43_4, xm43_5, xm43_6, xk43_0_ret, xk43_1_ret, xk43_2_ret, ↓syP, syA, rtN, pureL, V.pure, nsh, stBk, V.kill, killL, spl, V.shift, shiftL, V.scal, scalL, intR, boolR, threeV, Nat.reduceAdd, Nat.reduceSub, Nat.reduceMul, Nat.reduceLT, Nat.reduceLeDiff, Nat.reduceEqDiff, Nat.reduceBEq, Nat.reduceBNe, Int.reduceBEq, Int.reduceBNe, Int.reduceLT, Int.reduceLE, Int.reduceAdd, Int.reduceSub, Int.reduceNeg, xF, xcallV, xcallC, xcallL, xcallY, xevY, xY_ready, xrange, xG_fn, xR, xA, xcl62, xclk62, xcl71, xclk71, h_poacherref04_May, xr43_0, ih]
    all_goals simp -implicitDefEqProofs only [List.map_nil]
def g_poacherref17_May (k : Nat) (v0 : (List (Int × List Int))) (v1 : (List (Int × Int × Int))) : Option Bool :=
  ob (g_poacherref04_May k v0) fun x154 =>
  bif !x154 then
   some (false)
  else
   g_poacherref17_May_L0 k v0 v1 (k + (1 : Nat)) ((0 : Int))
theorem h_poacherref17_May (k : Nat) (v0 : (List (Int × List Int))) (v1 : (List (Int × Int × Int))) : xC (k + 2) none 43 [(.ro (List.map taskV v0)), (.ro (List.map threeV v1))] = ob (g_poacherref17_May k v0 v1) fun r => some ((.lit (.bool r)), []) := by
  rw [xC_eq]
  unfold g_poacherref17_May
  simp (maxSteps := 2000000) -implicitDefEqProofs only [xe43, xb43, xz43, xj43_0, xm43_1, xm43_2, xm43_3, xm43_4, xm43_5, xm43_6, xk43_0_ret, xk43_1_ret, xk43_2_ret, ↓syP, syA, rtN, pureL, V.pure, nsh, stBk, V.kill, killL, spl, V.shift, shiftL, V.scal, scalL, intR, boolR, threeV, Nat.reduceAdd, Nat.reduceSub, Nat.reduceMul, Nat.reduceLT, Nat.reduceLeDiff, Nat.reduceEqDiff, Nat.reduceBEq, Nat.reduceBNe, Int.reduceBEq, Int.reduceBNe, Int.reduceLT, Int.reduceLE, Int.reduceAdd, Int.reduceSub, Int.reduceNeg, xF, xcallV, xcallC, xcallL, xcallY, xevY, xY_ready, xrange, xG_fn, xR, xA, xcl62, xclk62, xcl71, xclk71, h_poacherref04_May, g_poacherref17_May_L0_eq k v0 v1]
  all_goals simp -implicitDefEqProofs only [List.map_nil]
def g_poacherref17_Next (k : Nat) (v0 : (List (Int × List Int))) (v1 : (List (Int × Int × Int))) : Option (Int × Int) :=
  ob (g_poacherref17_May k v0 v1) fun x162 =>
  bif !x162 then
   some (((0 : Int)), ((0 : Int)))
  else
   bif (↑v1.length : Int) == (0 : Int) then
    some (((0 : Int)), ((0 : Int)))
   else
    ob (idx v1 (IntKind.i64.wrap ((↑v1.length : Int) - (1 : Int)))) fun x163 =>
    ob (idx v0 x163.fst) fun x164 =>
    bif decide (x163.snd.fst < x164.fst) then
     some (((1 : Int)), (x163.fst))
    else
     ob (idx v0 x163.fst) fun x165 =>
     bif decide (x163.snd.snd < (↑x165.snd.length : Int)) then
      ob (idx v0 x163.fst) fun x166 =>
      ob (idx x166.snd x163.snd.snd) fun x167 =>
      some (((2 : Int)), (x167))
     else
      some (((3 : Int)), (x163.fst))
theorem h_poacherref17_Next (k : Nat) (v0 : (List (Int × List Int))) (v1 : (List (Int × Int × Int))) : xC (k + 3) none 45 [(.ro (List.map taskV v0)), (.ro (List.map threeV v1))] = ob (g_poacherref17_Next k v0 v1) fun r => some ((.agg [(.lit (.int .i64 r.1)), (.lit (.int .i64 r.2))]), []) := by
  rw [xC_eq]
  unfold g_poacherref17_Next
  simp (maxSteps := 2000000) -implicitDefEqProofs only [xe45, xb45, xm45_0, xk45_0_ret, ↓syP, syA, rtN, pureL, V.pure, nsh, stBk, V.kill, killL, spl, V.shift, shiftL, V.scal, scalL, intR, boolR, threeV, Nat.reduceAdd, Nat.reduceSub, Nat.reduceMul, Nat.reduceLT, Nat.reduceLeDiff, Nat.reduceEqDiff, Nat.reduceBEq, Nat.reduceBNe, Int.reduceBEq, Int.reduceBNe, Int.reduceLT, Int.reduceLE, Int.reduceAdd, Int.reduceSub, Int.reduceNeg, xF, xcallV, xcallC, xcallL, xcallY, xevY, xY_ready, xrange, xG_fn, xR, xA, xcl62, xclk62, xcl71, xclk71, h_poacherref17_May]
  all_goals simp -implicitDefEqProofs only [List.map_nil]
def g_poacherref17_Do (k : Nat) (v0 : (List (Int × List Int))) (v1 : (List (Int × Int × Int))) : Option (List (Int × Int × Int)) :=
  ob (g_poacherref17_Next k v0 v1) fun x176 =>
  bif x176.fst == (0 : Int) then
   some (v1)
  else
   bif decide ((0 : Int) ≤ IntKind.i64.wrap ((↑v1.length : Int) - (1 : Int)) ∧ IntKind.i64.wrap ((↑v1.length : Int) - (1 : Int)) ≤ (↑v1.length : Int)) then
    bif decide ((List.take (IntKind.i64.wrap ((↑v1.length : Int) - (1 : Int))).toNat v1).length * (24 : Nat) ≤ (70368744177664 : Nat)) then
     ob (idx v1 (IntKind.i64.wrap ((↑v1.length : Int) - (1 : Int)))) fun x177 =>
     bif x176.fst == (1 : Int) then
      bif x176.fst == (2 : Int) then
       bif x176.fst == (3 : Int) then
        some (List.take (IntKind.i64.wrap ((↑v1.length : Int) - (1 : Int))).toNat v1)
       else
        bif room (List.take (IntKind.i64.wrap ((↑v1.length : Int) - (1 : Int))).toNat v1 ++ [(x177.fst, IntKind.i64.wrap (x177.snd.fst + (1 : Int)), IntKind.i64.wrap (x177.snd.snd + (1 : Int)))]).length (24 : Nat) then
         some (List.take (IntKind.i64.wrap ((↑v1.length : Int) - (1 : Int))).toNat v1 ++ [(x177.fst, IntKind.i64.wrap (x177.snd.fst + (1 : Int)), IntKind.i64.wrap (x177.snd.snd + (1 : Int)))])
        else
         none
      else
       bif x176.fst == (3 : Int) then
        some (List.take (IntKind.i64.wrap ((↑v1.length : Int) - (1 : Int))).toNat v1)
       else
        bif room (List.take (IntKind.i64.wrap ((↑v1.length : Int) - (1 : Int))).toNat v1 ++ [(x177.fst, IntKind.i64.wrap (x177.snd.fst + (1 : Int)), x177.snd.snd)]).length (24 : Nat) then
         some (List.take (IntKind.i64.wrap ((↑v1.length : Int) - (1 : Int))).toNat v1 ++ [(x177.fst, IntKind.i64.wrap (x177.snd.fst + (1 : Int)), x177.snd.snd)])
        else
         none
     else
      bif x176.fst == (2 : Int) then
       bif x176.fst == (3 : Int) then
        some (List.take (IntKind.i64.wrap ((↑v1.length : Int) - (1 : Int))).toNat v1)
       else
        bif room (List.take (IntKind.i64.wrap ((↑v1.length : Int) - (1 : Int))).toNat v1 ++ [(x177.fst, x177.snd.fst, IntKind.i64.wrap (x177.snd.snd + (1 : Int)))]).length (24 : Nat) then
         some (List.take (IntKind.i64.wrap ((↑v1.length : Int) - (1 : Int))).toNat v1 ++ [(x177.fst, x177.snd.fst, IntKind.i64.wrap (x177.snd.snd + (1 : Int)))])
        else
         none
      else
       bif x176.fst == (3 : Int) then
        some (List.take (IntKind.i64.wrap ((↑v1.length : Int) - (1 : Int))).toNat v1)
       else
        bif room (List.take (IntKind.i64.wrap ((↑v1.length : Int) - (1 : Int))).toNat v1 ++ [(x177.fst, x177.snd.fst, x177.snd.snd)]).length (24 : Nat) then
         some (List.take (IntKind.i64.wrap ((↑v1.length : Int) - (1 : Int))).toNat v1 ++ [(x177.fst, x177.snd.fst, x177.snd.snd)])
        else
         none
    else
     none
   else
    none
theorem h_poacherref17_Do (k : Nat) (v0 : (List (Int × List Int))) (v1 : (List (Int × Int × Int))) : xC (k + 4) none 40 [(.ro (List.map taskV v0)), (.ro (List.map threeV v1))] = ob (g_poacherref17_Do k v0 v1) fun r => some ((.ro (List.map threeV r)), []) := by
  rw [xC_eq]
  unfold g_poacherref17_Do
  simp (maxSteps := 2000000) -implicitDefEqProofs only [xe40, xb40, xj40_0, xj40_1, xk40_0_ret, xk40_1_ret, ↓syP, syA, rtN, pureL, V.pure, nsh, stBk, V.kill, killL, spl, V.shift, shiftL, V.scal, scalL, intR, boolR, threeV, Nat.reduceAdd, Nat.reduceSub, Nat.reduceMul, Nat.reduceLT, Nat.reduceLeDiff, Nat.reduceEqDiff, Nat.reduceBEq, Nat.reduceBNe, Int.reduceBEq, Int.reduceBNe, Int.reduceLT, Int.reduceLE, Int.reduceAdd, Int.reduceSub, Int.reduceNeg, xF, xcallV, xcallC, xcallL, xcallY, xevY, xY_ready, xrange, xG_fn, xR, xA, xcl62, xclk62, xcl71, xclk71, h_poacherref17_Next]
  all_goals simp -implicitDefEqProofs only [List.map_nil]
def g_poacherref17_Start (k : Nat) (v0 : (List (Int × List Int))) (v1 : (List (Int × Int × Int))) (v2 : Int) : Option (List (Int × Int × Int)) :=
  ob (g_poacherref17_May k v0 v1) fun x181 =>
  bif !x181 then
   some (v1)
  else
   bif decide (v2 < (0 : Int)) then
    some (v1)
   else
    bif decide ((↑v0.length : Int) ≤ v2) then
     some (v1)
    else
     bif decide (v1.length * (24 : Nat) ≤ (70368744177664 : Nat)) then
      bif room (v1 ++ [(v2, (0 : Int), (0 : Int))]).length (24 : Nat) then
       some (v1 ++ [(v2, (0 : Int), (0 : Int))])
      else
       none
     else
      none
theorem h_poacherref17_Start (k : Nat) (v0 : (List (Int × List Int))) (v1 : (List (Int × Int × Int))) (v2 : Int) : xC (k + 3) none 42 [(.ro (List.map taskV v0)), (.ro (List.map threeV v1)), (.lit (.int .i64 v2))] = ob (g_poacherref17_Start k v0 v1 v2) fun r => some ((.ro (List.map threeV r)), []) := by
  rw [xC_eq]
  unfold g_poacherref17_Start
  simp (maxSteps := 2000000) -implicitDefEqProofs only [xe42, xb42, xm42_0, xm42_1, xk42_0_ret, ↓syP, syA, rtN, pureL, V.pure, nsh, stBk, V.kill, killL, spl, V.shift, shiftL, V.scal, scalL, intR, boolR, threeV, Nat.reduceAdd, Nat.reduceSub, Nat.reduceMul, Nat.reduceLT, Nat.reduceLeDiff, Nat.reduceEqDiff, Nat.reduceBEq, Nat.reduceBNe, Int.reduceBEq, Int.reduceBNe, Int.reduceLT, Int.reduceLE, Int.reduceAdd, Int.reduceSub, Int.reduceNeg, xF, xcallV, xcallC, xcallL, xcallY, xevY, xY_ready, xrange, xG_fn, xR, xA, xcl62, xclk62, xcl71, xclk71, h_poacherref17_May]
  all_goals simp -implicitDefEqProofs only [List.map_nil]
def g_poacherref17_Left_L0 (k : Nat) (v0 : (List (Int × List Int))) (v1 : (List (Int × Int × Int)))  : Nat → Bool → List (Int × Int × Int) → Int → Option Int
  | 0, _, _, _ => none
  | n + 1, s185, s188, s189 =>
    bif s185 then
     bif decide ((0 : Int) < (↑s188.length : Int)) then
      ob (g_poacherref17_Do k v0 s188) fun x192 =>
      g_poacherref17_Left_L0 k v0 v1  n (s185) (x192) (IntKind.i64.wrap (s189 + (1 : Int)))
     else
      some (s189)
    else
     some (s189)
theorem g_poacherref17_Left_L0_eq (k : Nat) (v0 : (List (Int × List Int))) (v1 : (List (Int × Int × Int))) : ∀ (n : Nat) (s185 : Bool) (s188 : List (Int × Int × Int)) (s189 : Int), rt none (itX (xX (xS (k + (4 : Nat))) (47 : Nat) (0 : Nat) (k + (4 : Nat)) false) xl47_0 ((0 : Nat)) (runK (xX (xS (k + (4 : Nat))) (47 : Nat) (0 : Nat) (k + (4 : Nat)) false) (bodyK (xS (k + (4 : Nat))).P Try.f47) xk47_0) n ⟨[V.ro (List.map taskV v0), V.ro (List.map threeV s188), uu, uu, V.lit (Value.int IntKind.i64 (0 : Int)), V.lit (Value.bool s185), V.lit (Value.int IntKind.i64 s189), V.ro (List.map taskV v0), V.ro (List.map threeV v1), V.lit (Value.bool s185), V.junk, V.junk, V.junk, V.junk, V.junk, V.junk, V.junk, V.junk, V.junk, V.junk, V.junk, uu], []⟩) = ob (g_poacherref17_Left_L0 k v0 v1  n s185 s188 s189) fun r => some ((.lit (.int .i64 r)), []) := by
  intro n
  induction n with
  | zero => intros; rfl
  | succ n ih =>
    intro s185 s188 s189
    rw [g_poacherref17_Left_L0]
    simp (maxSteps := 2000000) -implicitDefEqProofs only [xe47, xb47, xz47, xj47_0, xm47_1, xk47_0_ret, xk47_1_ret, ↓syP, syA, rtN, pureL, V.pure, nsh, stBk, V.kill, killL, spl, V.shift, shiftL, V.scal, scalL, intR, boolR, threeV, Nat.reduceAdd, Nat.reduceSub, Nat.reduceMul, Nat.reduceLT, Nat.reduceLeDiff, Nat.reduceEqDiff, Nat.reduceBEq, Nat.reduceBNe, Int.reduceBEq, Int.reduceBNe, Int.reduceLT, Int.reduceLE, Int.reduceAdd, Int.reduceSub, Int.reduceNeg, xF, xcallV, xcallC, xcallL, xcallY, xevY, xY_ready, xrange, xG_fn, xR, xA, xcl62, xclk62, xcl71, xclk71, h_poacherref17_May, h_poacherref17_Do, xr47_0, ih]
    all_goals simp -implicitDefEqProofs only [List.map_nil]
def g_poacherref17_Left (k : Nat) (v0 : (List (Int × List Int))) (v1 : (List (Int × Int × Int))) : Option Int :=
  ob (g_poacherref17_May (k + (2 : Nat)) v0 v1) fun x193 =>
  g_poacherref17_Left_L0 k v0 v1 (k + (4 : Nat)) (x193) (v1) ((0 : Int))
theorem h_poacherref17_Left (k : Nat) (v0 : (List (Int × List Int))) (v1 : (List (Int × Int × Int))) : xC (k + 5) none 47 [(.ro (List.map taskV v0)), (.ro (List.map threeV v1))] = ob (g_poacherref17_Left k v0 v1) fun r => some ((.lit (.int .i64 r)), []) := by
  rw [xC_eq]
  unfold g_poacherref17_Left
  simp (maxSteps := 2000000) -implicitDefEqProofs only [xe47, xb47, xz47, xj47_0, xm47_1, xk47_0_ret, xk47_1_ret, ↓syP, syA, rtN, pureL, V.pure, nsh, stBk, V.kill, killL, spl, V.shift, shiftL, V.scal, scalL, intR, boolR, threeV, Nat.reduceAdd, Nat.reduceSub, Nat.reduceMul, Nat.reduceLT, Nat.reduceLeDiff, Nat.reduceEqDiff, Nat.reduceBEq, Nat.reduceBNe, Int.reduceBEq, Int.reduceBNe, Int.reduceLT, Int.reduceLE, Int.reduceAdd, Int.reduceSub, Int.reduceNeg, xF, xcallV, xcallC, xcallL, xcallY, xevY, xY_ready, xrange, xG_fn, xR, xA, xcl62, xclk62, xcl71, xclk71, h_poacherref17_May, g_poacherref17_Left_L0_eq k v0 v1]
  all_goals simp -implicitDefEqProofs only [List.map_nil]
end Go.Ab
