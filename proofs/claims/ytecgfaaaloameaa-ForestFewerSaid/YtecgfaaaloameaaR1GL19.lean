/- Functions as they are walked: printed by Walk.lean. -/
import Derived.Test.YtecgfaaaloameaaR1GF
import Derived.Test.YtecgfaaaloameaaR1Awk
import Derived.Test.YtecgfaaaloameaaR1BL19
import Derived.Test.YtecgfaaaloameaaAbLibC
set_option maxRecDepth 100000
set_option linter.unusedVariables false
set_option linter.unusedSimpArgs false
namespace Go.Ab
open Go.Proofs
theorem h_forest_Sums_0 : ∀ (k : Nat), xC (k + (20 : Nat)) none (52 : FuncId) [V.ro []] = ob (g_forest_Sums k []) fun (r : Int × Int) => some (V.tup [V.lit (Value.int IntKind.i64 r.fst), V.lit (Value.int IntKind.i64 r.snd)], []) := fun k => h_forest_Sums k []
theorem h_forest_May_0 : ∀ (k : Nat), xC (k + (19 : Nat)) none (50 : FuncId) [V.ro []] = ob (g_forest_May k []) fun (r : Bool) => some (V.lit (Value.bool r), []) := fun k => h_forest_May k []
def g_poacherlaw04_ForestFewer_L1 (k : Nat) (v0 : (List (Int × List Int))) (o0 : List (Int × List Int) → Int → Nat → Option Bool) : Nat → Int → Int → List Int → List (Int × List Int) → Int → Nat → Nat → Option Bool
  | 0, _, _, _, _, _, _, _ => none
  | n + 1, s29, s43, s45, s65, s66, s68, s69 =>
    ob (idx v0 s66) fun x97 =>
    bif decide (s43 < (↑x97.snd.length : Int)) then
     ob (idx v0 s66) fun x98 =>
     ob (idx x98.snd s43) fun x99 =>
     bif x99 != IntKind.i64.wrap ((↑v0.length : Int) - (1 : Int)) then
      ob (idx v0 s66) fun x100 =>
      ob (idx x100.snd s43) fun x101 =>
      ck (s69 == (1 : Nat) || s69 == (0 : Nat)) (
      bif room (s45 ++ [x101]).length (8 : Nat) then
       g_poacherlaw04_ForestFewer_L1 k v0 o0 n (s29) (IntKind.i64.wrap (s43 + (1 : Int))) (s45 ++ [x101]) (s65) (s66) (s68) ((1 : Nat))
      else
       none)
     else
      g_poacherlaw04_ForestFewer_L1 k v0 o0 n (s29) (IntKind.i64.wrap (s43 + (1 : Int))) (s45) (s65) (s66) (s68) (s69)
    else
     ck (s68 == (2 : Nat) || s68 == (0 : Nat)) (
     bif room (s65 ++ [(s29, s45)]).length (32 : Nat) then
      o0 (s65 ++ [(s29, s45)]) (IntKind.i64.wrap (s66 + (1 : Int))) ((2 : Nat))
     else
      none)
theorem g_poacherlaw04_ForestFewer_L1_eq (k : Nat) (v0 : (List (Int × List Int))) (n3 : Nat) (o0 : List (Int × List Int) → Int → Nat → Option Bool) (ho0 : ∀ (s47 : List (Int × List Int)) (s48 : Int) (s51 : Nat) ⦃s4 : Bool⦄ ⦃s5 : Bool⦄ ⦃s6 : Bool⦄ ⦃s7 : Bool⦄ ⦃s46 : Nat⦄ ⦃j49 j50 : V⦄, rt none (itX (xX (xS (k + (60 : Nat))) (19 : Nat) (0 : Nat) (k + (60 : Nat)) false) xl19_0 ((1 : Nat)) (runK (xX (xS (k + (60 : Nat))) (19 : Nat) (0 : Nat) (k + (60 : Nat)) false) (bodyK (xS (k + (60 : Nat))).P Try.f19) xk19_1) n3 ⟨(V.ro (List.map taskV v0) :: uu :: V.lit (Value.bool false) :: V.lit (Value.bool true) :: V.lit (Value.bool s4) :: V.own (0 : Nat) s46 s47.length :: V.lit (Value.int IntKind.i64 s48) :: j49 :: j50 :: uu :: uu :: uu :: uu :: V.lit (Value.bool true) :: V.ro (List.map taskV v0) :: V.lit (Value.bool s4) :: V.lit (Value.bool true) :: V.lit (Value.bool false) :: V.lit (Value.bool false) :: V.lit (Value.bool s4) :: V.lit (Value.bool s5) :: V.lit (Value.bool s5) :: V.lit (Value.bool false) :: V.ro (List.map taskV v0) :: V.lit (Value.bool s6) :: V.lit (Value.bool s7) :: V.lit (Value.bool s7) :: V.lit (Value.bool false) :: V.ro (List.map taskV v0) :: V.lit (Value.int IntKind.i64 (↑v0.length : Int)) :: V.lit (Value.bool ((↑v0.length : Int) == (0 : Int))) :: V.lit (Value.bool ((↑v0.length : Int) == (0 : Int))) :: uu :: V.junk :: V.junk :: V.junk :: V.junk :: V.junk :: V.junk :: V.junk :: V.junk :: V.junk :: V.junk :: V.junk :: V.junk :: V.junk :: V.junk :: V.junk :: V.junk :: V.junk :: V.junk :: V.junk :: V.junk :: V.junk :: V.junk :: V.junk :: V.junk :: V.junk :: V.junk :: V.junk :: V.junk :: V.junk :: V.junk :: V.junk :: V.junk :: V.junk :: V.junk :: V.junk :: V.junk :: V.junk :: V.junk :: V.junk :: V.junk :: V.junk :: V.junk :: V.junk :: V.junk :: V.junk :: V.junk :: V.junk :: V.junk :: V.junk :: V.junk :: V.junk :: V.junk :: uu :: uu :: uu :: uu :: uu :: uu :: uu :: uu :: uu :: uu :: uu :: uu :: uu :: uu :: uu :: uu :: uu :: uu :: uu :: uu :: uu :: uu :: uu :: uu :: uu :: uu :: uu :: uu :: uu :: uu :: uu :: []), [B.rows s51 (List.map taskV s47) s46 true]⟩) = ob (o0 s47 s48 s51) fun r => some ((.lit (.bool r)), [])) : ∀ (n : Nat) (s29 : Int) (s43 : Int) (s45 : List Int) (s65 : List (Int × List Int)) (s66 : Int) (s68 : Nat) (s69 : Nat) ⦃s25 : Bool⦄ ⦃s26 : Bool⦄ ⦃s27 : Bool⦄ ⦃s28 : Bool⦄ ⦃s30 : List Int⦄ ⦃s44 : Nat⦄ ⦃s64 : Nat⦄ ⦃s67 : Bool⦄, rt none (itX (xX (xS (k + (60 : Nat))) (19 : Nat) (0 : Nat) (k + (60 : Nat)) false) xl19_1 ((4 : Nat)) (runK (xX (xS (k + (60 : Nat))) (19 : Nat) (0 : Nat) (k + (60 : Nat)) false) (nextK (xX (xS (k + (60 : Nat))) (19 : Nat) (0 : Nat) (k + (60 : Nat)) false) xl19_0 (1 : Nat) (runK (xX (xS (k + (60 : Nat))) (19 : Nat) (0 : Nat) (k + (60 : Nat)) false) (bodyK (xS (k + (60 : Nat))).P Try.f19) xk19_1) n3) xk19_2) n ⟨(V.ro (List.map taskV v0) :: uu :: V.lit (Value.bool false) :: V.lit (Value.bool true) :: V.lit (Value.bool s25) :: V.own (0 : Nat) s64 s65.length :: V.lit (Value.int IntKind.i64 s66) :: V.ptr (2 : Nat) (0 : Nat) (0 : Nat) (0 : Nat) :: V.lit (Value.int IntKind.i64 s43) :: uu :: uu :: uu :: uu :: V.lit (Value.bool true) :: V.ro (List.map taskV v0) :: V.lit (Value.bool s25) :: V.lit (Value.bool true) :: V.lit (Value.bool false) :: V.lit (Value.bool false) :: V.lit (Value.bool s25) :: V.lit (Value.bool s26) :: V.lit (Value.bool s26) :: V.lit (Value.bool false) :: V.ro (List.map taskV v0) :: V.lit (Value.bool s27) :: V.lit (Value.bool s28) :: V.lit (Value.bool s28) :: V.lit (Value.bool false) :: V.ro (List.map taskV v0) :: V.lit (Value.int IntKind.i64 (↑v0.length : Int)) :: V.lit (Value.bool ((↑v0.length : Int) == (0 : Int))) :: V.lit (Value.bool ((↑v0.length : Int) == (0 : Int))) :: uu :: V.lit (Value.int IntKind.i64 s66) :: V.ro (List.map taskV v0) :: V.lit (Value.int IntKind.i64 (↑v0.length : Int)) :: V.lit (Value.int IntKind.i64 (IntKind.i64.wrap ((↑v0.length : Int) - (1 : Int)))) :: V.lit (Value.bool s67) :: V.junk :: V.junk :: V.ro (List.map taskV v0) :: V.lit (Value.int IntKind.i64 s66) :: V.rp [V.lit (Value.int IntKind.i64 s29), V.ro (List.map (intR IntKind.i64) s30)] :: V.rp [V.lit (Value.int IntKind.i64 s29), V.ro (List.map (intR IntKind.i64) s30)] :: V.lit (Value.int IntKind.i64 s29) :: V.agg [V.lit (Value.int IntKind.i64 s29), V.nil] :: V.junk :: V.junk :: V.junk :: V.junk :: V.junk :: V.junk :: V.junk :: V.junk :: V.junk :: V.junk :: V.junk :: V.junk :: V.junk :: V.junk :: V.junk :: V.junk :: V.junk :: V.junk :: V.junk :: V.junk :: V.junk :: V.junk :: V.junk :: V.junk :: V.junk :: V.junk :: V.junk :: V.junk :: V.junk :: V.junk :: V.junk :: V.junk :: V.junk :: V.junk :: V.junk :: V.junk :: V.junk :: V.junk :: V.junk :: uu :: uu :: uu :: uu :: uu :: uu :: uu :: uu :: uu :: uu :: uu :: uu :: uu :: uu :: uu :: uu :: uu :: uu :: uu :: uu :: uu :: uu :: uu :: uu :: uu :: uu :: uu :: uu :: uu :: uu :: uu :: []), [B.rows s68 (List.map taskV s65) s64 true, B.rows (0 : Nat) [] (0 : Nat) true, B.box [V.lit (Value.int IntKind.i64 s29), V.own (3 : Nat) s44 s45.length], B.rows s69 (List.map (intR IntKind.i64) s45) s44 true]⟩) = ob (g_poacherlaw04_ForestFewer_L1 k v0 o0 n s29 s43 s45 s65 s66 s68 s69) fun r => some ((.lit (.bool r)), []) := by
  intro n
  induction n with
  | zero => intros; rfl
  | succ n ih =>
    intro s29 s43 s45 s65 s66 s68 s69 s25 s26 s27 s28 s30 s44 s64 s67
    rw [g_poacherlaw04_ForestFewer_L1]
    simp (maxSteps := 2000000) -implicitDefEqProofs only [xe19, xb19, xz19, xm19_0, xm19_1, xm19_2, xj19_3, xj19_4, xm19_5, xj19_6, xm19_7, xk19_0_ret, xk19_1_ret, xk19_2_ret, xk19_3_ret, xk19_4_ret, ↓syP, syA, rtN, pureL, V.pure, nsh, stBk, V.kill, killL, spl, V.shift, shiftL, V.scal, scalL, intR, boolR, threeV, Nat.reduceAdd, Nat.reduceSub, Nat.reduceMul, Nat.reduceLT, Nat.reduceLeDiff, Nat.reduceEqDiff, Nat.reduceBEq, Nat.reduceBNe, Int.reduceBEq, Int.reduceBNe, Int.reduceLT, Int.reduceLE, Int.reduceAdd, Int.reduceSub, Int.reduceNeg, xF, xcallV, xcallC, xcallL, xcallY, xevY, xY_ready, xrange, xG_fn, xR, xA, xcl62, xclk62, xcl71, xclk71, awk04', awk21', awk17', opBuildSliceC_eq, pur2_nil, pur2_cons, h_poacherlaw04_Few, h_forest_May, h_forest_Sums, h_forest_Sums_0, h_forest_May_0, xr19_1, ih, ho0]
    all_goals simp -implicitDefEqProofs only [List.map_nil]
def g_poacherlaw04_ForestFewer_L0 (k : Nat) (v0 : (List (Int × List Int)))  : Nat → List (Int × List Int) → Int → Nat → Option Bool
  | 0, _, _, _ => none
  | n + 1, s47, s48, s51 =>
    bif decide (s48 < IntKind.i64.wrap ((↑v0.length : Int) - (1 : Int))) then
     ob (idx v0 s48) fun x87 =>
     g_poacherlaw04_ForestFewer_L1 k v0 (fun s47 s48 s51 => g_poacherlaw04_ForestFewer_L0 k v0  n s47 s48 s51) (k + (60 : Nat)) (x87.fst) ((0 : Int)) ([]) (s47) (s48) (s51) ((0 : Nat))
    else
     ob (g_forest_Sums (k + (40 : Nat)) v0) fun x88 =>
     ob (g_forest_Sums (k + (40 : Nat)) s47) fun x89 =>
     ob (g_forest_May (k + (41 : Nat)) s47) fun x90 =>
     bif x90 then
      bif x88.fst == IntKind.i64.wrap (x89.fst + (1 : Int)) then
       ob (idx v0 (IntKind.i64.wrap ((↑v0.length : Int) - (1 : Int)))) fun x91 =>
       some (x88.snd == IntKind.i64.wrap (x89.snd + x91.fst))
      else
       some (false)
     else
      some (false)
theorem g_poacherlaw04_ForestFewer_L0_eq (k : Nat) (v0 : (List (Int × List Int))) : ∀ (n : Nat) (s47 : List (Int × List Int)) (s48 : Int) (s51 : Nat) ⦃s4 : Bool⦄ ⦃s5 : Bool⦄ ⦃s6 : Bool⦄ ⦃s7 : Bool⦄ ⦃s46 : Nat⦄ ⦃j49 j50 : V⦄, rt none (itX (xX (xS (k + (60 : Nat))) (19 : Nat) (0 : Nat) (k + (60 : Nat)) false) xl19_0 ((1 : Nat)) (runK (xX (xS (k + (60 : Nat))) (19 : Nat) (0 : Nat) (k + (60 : Nat)) false) (bodyK (xS (k + (60 : Nat))).P Try.f19) xk19_1) n ⟨(V.ro (List.map taskV v0) :: uu :: V.lit (Value.bool false) :: V.lit (Value.bool true) :: V.lit (Value.bool s4) :: V.own (0 : Nat) s46 s47.length :: V.lit (Value.int IntKind.i64 s48) :: j49 :: j50 :: uu :: uu :: uu :: uu :: V.lit (Value.bool true) :: V.ro (List.map taskV v0) :: V.lit (Value.bool s4) :: V.lit (Value.bool true) :: V.lit (Value.bool false) :: V.lit (Value.bool false) :: V.lit (Value.bool s4) :: V.lit (Value.bool s5) :: V.lit (Value.bool s5) :: V.lit (Value.bool false) :: V.ro (List.map taskV v0) :: V.lit (Value.bool s6) :: V.lit (Value.bool s7) :: V.lit (Value.bool s7) :: V.lit (Value.bool false) :: V.ro (List.map taskV v0) :: V.lit (Value.int IntKind.i64 (↑v0.length : Int)) :: V.lit (Value.bool ((↑v0.length : Int) == (0 : Int))) :: V.lit (Value.bool ((↑v0.length : Int) == (0 : Int))) :: uu :: V.junk :: V.junk :: V.junk :: V.junk :: V.junk :: V.junk :: V.junk :: V.junk :: V.junk :: V.junk :: V.junk :: V.junk :: V.junk :: V.junk :: V.junk :: V.junk :: V.junk :: V.junk :: V.junk :: V.junk :: V.junk :: V.junk :: V.junk :: V.junk :: V.junk :: V.junk :: V.junk :: V.junk :: V.junk :: V.junk :: V.junk :: V.junk :: V.junk :: V.junk :: V.junk :: V.junk :: V.junk :: V.junk :: V.junk :: V.junk :: V.junk :: V.junk :: V.junk :: V.junk :: V.junk :: V.junk :: V.junk :: V.junk :: V.junk :: V.junk :: V.junk :: V.junk :: uu :: uu :: uu :: uu :: uu :: uu :: uu :: uu :: uu :: uu :: uu :: uu :: uu :: uu :: uu :: uu :: uu :: uu :: uu :: uu :: uu :: uu :: uu :: uu :: uu :: uu :: uu :: uu :: uu :: uu :: uu :: []), [B.rows s51 (List.map taskV s47) s46 true]⟩) = ob (g_poacherlaw04_ForestFewer_L0 k v0  n s47 s48 s51) fun r => some ((.lit (.bool r)), []) := by
  intro n
  induction n with
  | zero => intros; rfl
  | succ n ih =>
    intro s47 s48 s51 s4 s5 s6 s7 s46 j49 j50
    rw [g_poacherlaw04_ForestFewer_L0]
    have hu2 := fun (x82 : Int × List Int) => g_poacherlaw04_ForestFewer_L1_eq k v0 _ (fun s47 s48 s51 => g_poacherlaw04_ForestFewer_L0 k v0  n s47 s48 s51) ih (k + (60 : Nat)) (x82.fst) ((0 : Int)) ([]) (s47) (s48) (s51) ((0 : Nat))
    try simp -implicitDefEqProofs only [List.map_nil, List.length_nil] at hu2
    simp (maxSteps := 2000000) -implicitDefEqProofs only [xe19, xb19, xz19, xm19_0, xm19_1, xm19_2, xj19_3, xj19_4, xm19_5, xj19_6, xm19_7, xk19_0_ret, xk19_1_ret, xk19_2_ret, xk19_3_ret, xk19_4_ret, ↓syP, syA, rtN, pureL, V.pure, nsh, stBk, V.kill, killL, spl, V.shift, shiftL, V.scal, scalL, intR, boolR, threeV, Nat.reduceAdd, Nat.reduceSub, Nat.reduceMul, Nat.reduceLT, Nat.reduceLeDiff, Nat.reduceEqDiff, Nat.reduceBEq, Nat.reduceBNe, Int.reduceBEq, Int.reduceBNe, Int.reduceLT, Int.reduceLE, Int.reduceAdd, Int.reduceSub, Int.reduceNeg, xF, xcallV, xcallC, xcallL, xcallY, xevY, xY_ready, xrange, xG_fn, xR, xA, xcl62, xclk62, xcl71, xclk71, awk04', awk21', awk17', opBuildSliceC_eq, pur2_nil, pur2_cons, h_poacherlaw04_Few, h_forest_May, h_forest_Sums, h_forest_Sums_0, h_forest_May_0, xr19_0, ih, g_poacherlaw04_ForestFewer_L1_eq k v0 _ (fun s47 s48 s51 => g_poacherlaw04_ForestFewer_L0 k v0  n s47 s48 s51) ih, hu2]
    all_goals simp -implicitDefEqProofs only [List.map_nil]
def g_poacherlaw04_ForestFewer (k : Nat) (v0 : (List (Int × List Int))) : Option Bool :=
  ob (g_poacherlaw04_Few (k + (59 : Nat)) v0) fun x102 =>
  bif !x102 then
   some (true)
  else
   ob (g_forest_May (k + (41 : Nat)) v0) fun x103 =>
   bif !x103 then
    some (true)
   else
    bif (↑v0.length : Int) == (0 : Int) then
     some (true)
    else
     g_poacherlaw04_ForestFewer_L0 k v0 (k + (60 : Nat)) ([]) ((0 : Int)) ((0 : Nat))
theorem h_poacherlaw04_ForestFewer (k : Nat) (v0 : (List (Int × List Int))) : xC (k + 61) none 19 [(.ro (List.map taskV v0))] = ob (g_poacherlaw04_ForestFewer k v0) fun r => some ((.lit (.bool r)), []) := by
  rw [xC_eq]
  unfold g_poacherlaw04_ForestFewer
  have hl0 := g_poacherlaw04_ForestFewer_L0_eq k v0 (k + (60 : Nat)) ([]) ((0 : Int)) ((0 : Nat))
  try simp -implicitDefEqProofs only [List.map_nil, List.length_nil] at hl0
  simp (maxSteps := 2000000) -implicitDefEqProofs only [xe19, xb19, xz19, xm19_0, xm19_1, xm19_2, xj19_3, xj19_4, xm19_5, xj19_6, xm19_7, xk19_0_ret, xk19_1_ret, xk19_2_ret, xk19_3_ret, xk19_4_ret, ↓syP, syA, rtN, pureL, V.pure, nsh, stBk, V.kill, killL, spl, V.shift, shiftL, V.scal, scalL, intR, boolR, threeV, Nat.reduceAdd, Nat.reduceSub, Nat.reduceMul, Nat.reduceLT, Nat.reduceLeDiff, Nat.reduceEqDiff, Nat.reduceBEq, Nat.reduceBNe, Int.reduceBEq, Int.reduceBNe, Int.reduceLT, Int.reduceLE, Int.reduceAdd, Int.reduceSub, Int.reduceNeg, xF, xcallV, xcallC, xcallL, xcallY, xevY, xY_ready, xrange, xG_fn, xR, xA, xcl62, xclk62, xcl71, xclk71, awk04', awk21', awk17', opBuildSliceC_eq, pur2_nil, pur2_cons, h_poacherlaw04_Few, h_forest_May, h_forest_May_0, g_poacherlaw04_ForestFewer_L0_eq k v0, hl0]
  all_goals simp -implicitDefEqProofs only [List.map_nil]
end Go.Ab
