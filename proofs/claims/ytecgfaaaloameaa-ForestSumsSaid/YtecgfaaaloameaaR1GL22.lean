/- Functions as they are walked: printed by Walk.lean. -/
import Derived.Test.YtecgfaaaloameaaR1GU
import Derived.Test.YtecgfaaaloameaaR1Awk
import Derived.Test.YtecgfaaaloameaaR1BL22
set_option maxRecDepth 100000
set_option linter.unusedVariables false
set_option linter.unusedSimpArgs false
namespace Go.Ab
open Go.Proofs
def g_poacherlaw04_ForestSums_L1 (k : Nat) (v0 : (List (Int × List Int))) (o0 : Int → Int → List Int → Int → Int → Int → Option Bool) : Nat → Int → Int → List Int → Int → List Int → Int → Int → Int → Option Bool
  | 0, _, _, _, _, _, _, _, _ => none
  | n + 1, s21, s22, s23, s24, s25, s43, s44, s59 =>
    bif decide (s44 < (↑s25.length : Int)) then
     ob (idx s25 s44) fun x74 =>
     bif decide (x74 < (0 : Int)) then
      some (false)
     else
      ob (idx s25 s44) fun x75 =>
      bif decide ((↑v0.length : Int) ≤ x75) then
       some (false)
      else
       ob (idx s25 s44) fun x76 =>
       ob (idx v0 x76) fun x77 =>
       g_poacherlaw04_ForestSums_L1 k v0 o0 n (s21) (s22) (s23) (s24) (s25) (IntKind.i64.wrap (s43 + x77.fst)) (IntKind.i64.wrap (s44 + (1 : Int))) (s59)
    else
     o0 (s21) (s22) (s23) (s24) (IntKind.i64.wrap (s59 + (1 : Int))) (s43)
theorem g_poacherlaw04_ForestSums_L1_eq (k : Nat) (v0 : (List (Int × List Int))) (n5 : Nat) (o0 : Int → Int → List Int → Int → Int → Int → Option Bool) (ho0 : ∀ (s7 : Int) (s8 : Int) (s9 : List Int) (s45 : Int) (s46 : Int) (s61 : Int) ⦃s6 : Bool⦄ ⦃s10 : Bool⦄ ⦃s11 : Bool⦄ ⦃s12 : Bool⦄ ⦃j47 j48 : V⦄, rt none (itX (xX (xS (k + (60 : Nat))) (22 : Nat) (0 : Nat) (k + (60 : Nat)) false) xl22_0 ((0 : Nat)) (runK (xX (xS (k + (60 : Nat))) (22 : Nat) (0 : Nat) (k + (60 : Nat)) false) (bodyK (xS (k + (60 : Nat))).P Try.f22) xk22_2) n5 ⟨(V.ro (List.map taskV v0) :: uu :: V.lit (Value.bool false) :: V.lit (Value.bool true) :: V.lit (Value.bool s6) :: V.lit (Value.int IntKind.i64 s7) :: V.lit (Value.int IntKind.i64 s8) :: V.ro (List.map (intR IntKind.i64) s9) :: V.lit (Value.int IntKind.i64 s45) :: V.lit (Value.int IntKind.i64 s61) :: V.lit (Value.int IntKind.i64 s46) :: j47 :: j48 :: V.lit (Value.bool true) :: V.ro (List.map taskV v0) :: V.lit (Value.bool s6) :: V.lit (Value.bool true) :: V.lit (Value.bool false) :: V.lit (Value.bool false) :: V.lit (Value.bool s6) :: V.lit (Value.bool s10) :: V.lit (Value.bool s10) :: uu :: V.tup [V.lit (Value.int IntKind.i64 s7), V.lit (Value.int IntKind.i64 s8)] :: V.ro (List.map taskV v0) :: V.tup [V.lit (Value.int IntKind.i64 s7), V.lit (Value.int IntKind.i64 s8)] :: V.lit (Value.int IntKind.i64 s7) :: V.lit (Value.int IntKind.i64 s8) :: V.ro (List.map taskV v0) :: V.lit (Value.bool s11) :: V.lit (Value.bool s12) :: uu :: uu :: uu :: uu :: uu :: uu :: V.ro (List.map taskV v0) :: V.ro (List.map (intR IntKind.i64) s9) :: V.junk :: V.junk :: V.junk :: V.junk :: V.junk :: V.junk :: V.junk :: V.junk :: V.junk :: V.junk :: V.junk :: V.junk :: V.junk :: V.junk :: V.junk :: V.junk :: V.junk :: V.junk :: V.junk :: V.junk :: V.junk :: V.junk :: V.junk :: V.junk :: V.junk :: V.junk :: V.junk :: V.junk :: V.junk :: V.junk :: V.junk :: V.junk :: V.junk :: V.junk :: V.junk :: V.junk :: V.junk :: V.junk :: V.junk :: V.junk :: V.junk :: V.junk :: V.junk :: V.junk :: V.junk :: V.junk :: uu :: uu :: uu :: uu :: uu :: uu :: uu :: uu :: []), []⟩) = ob (o0 s7 s8 s9 s45 s46 s61) fun r => some ((.lit (.bool r)), [])) : ∀ (n : Nat) (s21 : Int) (s22 : Int) (s23 : List Int) (s24 : Int) (s25 : List Int) (s43 : Int) (s44 : Int) (s59 : Int) ⦃s20 : Bool⦄ ⦃s26 : Bool⦄ ⦃s27 : Bool⦄ ⦃s28 : Bool⦄ ⦃s29 : Int⦄ ⦃s30 : Bool⦄ ⦃s31 : Int⦄ ⦃s32 : Int⦄ ⦃s60 : Int⦄, rt none (itX (xX (xS (k + (60 : Nat))) (22 : Nat) (0 : Nat) (k + (60 : Nat)) false) xl22_1 ((0 : Nat)) (runK (xX (xS (k + (60 : Nat))) (22 : Nat) (0 : Nat) (k + (60 : Nat)) false) (nextK (xX (xS (k + (60 : Nat))) (22 : Nat) (0 : Nat) (k + (60 : Nat)) false) xl22_0 (0 : Nat) (runK (xX (xS (k + (60 : Nat))) (22 : Nat) (0 : Nat) (k + (60 : Nat)) false) (bodyK (xS (k + (60 : Nat))).P Try.f22) xk22_2) n5) xk22_3) n ⟨(V.ro (List.map taskV v0) :: uu :: V.lit (Value.bool false) :: V.lit (Value.bool true) :: V.lit (Value.bool s20) :: V.lit (Value.int IntKind.i64 s21) :: V.lit (Value.int IntKind.i64 s22) :: V.ro (List.map (intR IntKind.i64) s23) :: V.lit (Value.int IntKind.i64 s24) :: V.lit (Value.int IntKind.i64 s43) :: V.lit (Value.int IntKind.i64 s59) :: V.ro (List.map (intR IntKind.i64) s25) :: V.lit (Value.int IntKind.i64 s44) :: V.lit (Value.bool true) :: V.ro (List.map taskV v0) :: V.lit (Value.bool s20) :: V.lit (Value.bool true) :: V.lit (Value.bool false) :: V.lit (Value.bool false) :: V.lit (Value.bool s20) :: V.lit (Value.bool s26) :: V.lit (Value.bool s26) :: uu :: V.tup [V.lit (Value.int IntKind.i64 s21), V.lit (Value.int IntKind.i64 s22)] :: V.ro (List.map taskV v0) :: V.tup [V.lit (Value.int IntKind.i64 s21), V.lit (Value.int IntKind.i64 s22)] :: V.lit (Value.int IntKind.i64 s21) :: V.lit (Value.int IntKind.i64 s22) :: V.ro (List.map taskV v0) :: V.lit (Value.bool s27) :: V.lit (Value.bool s28) :: uu :: uu :: uu :: uu :: uu :: uu :: V.ro (List.map taskV v0) :: V.ro (List.map (intR IntKind.i64) s23) :: V.lit (Value.int IntKind.i64 s59) :: V.ro (List.map (intR IntKind.i64) s23) :: V.lit (Value.int IntKind.i64 s29) :: V.lit (Value.bool s30) :: V.junk :: V.junk :: V.ro (List.map taskV v0) :: V.ro (List.map (intR IntKind.i64) s23) :: V.lit (Value.int IntKind.i64 s59) :: V.rp [V.lit (Value.int IntKind.i64 s31)] :: V.lit (Value.int IntKind.i64 s31) :: V.ro (List.map (intR IntKind.i64) s25) :: V.lit (Value.int IntKind.i64 s60) :: V.ro (List.map (intR IntKind.i64) s25) :: V.lit (Value.int IntKind.i64 s32) :: V.lit (Value.int IntKind.i64 s24) :: V.junk :: V.junk :: V.junk :: V.junk :: V.junk :: V.junk :: V.junk :: V.junk :: V.junk :: V.junk :: V.junk :: V.junk :: V.junk :: V.junk :: V.junk :: V.junk :: V.junk :: V.junk :: V.junk :: V.junk :: V.junk :: V.junk :: V.junk :: V.junk :: V.junk :: V.junk :: V.junk :: V.junk :: V.junk :: V.junk :: uu :: uu :: uu :: uu :: uu :: uu :: uu :: uu :: []), []⟩) = ob (g_poacherlaw04_ForestSums_L1 k v0 o0 n s21 s22 s23 s24 s25 s43 s44 s59) fun r => some ((.lit (.bool r)), []) := by
  intro n
  induction n with
  | zero => intros; rfl
  | succ n ih =>
    intro s21 s22 s23 s24 s25 s43 s44 s59 s20 s26 s27 s28 s29 s30 s31 s32 s60
    rw [g_poacherlaw04_ForestSums_L1]
    simp (maxSteps := 2000000) -implicitDefEqProofs only [xe22, xb22, xz22, xm22_0, xm22_1, xj22_2, xj22_3, xm22_4, xm22_5, xk22_0_ret, xk22_1_ret, xk22_2_ret, xk22_3_ret, xk22_4_ret, xk22_5_ret, ↓syP, syA, rtN, pureL, V.pure, nsh, stBk, V.kill, killL, spl, V.shift, shiftL, V.scal, scalL, intR, boolR, threeV, Nat.reduceAdd, Nat.reduceSub, Nat.reduceMul, Nat.reduceLT, Nat.reduceLeDiff, Nat.reduceEqDiff, Nat.reduceBEq, Nat.reduceBNe, Int.reduceBEq, Int.reduceBNe, Int.reduceLT, Int.reduceLE, Int.reduceAdd, Int.reduceSub, Int.reduceNeg, xF, xcallV, xcallC, xcallL, xcallY, xevY, xY_ready, xrange, xG_fn, xR, xA, xcl62, xclk62, xcl71, xclk71, awk04', awk21', awk17', downF_init, h_ref_under, h_poacherlaw04_Few, h_forest_May, h_forest_Sums, h_forest_Roots, h_forest_Under, xr22_1, ih, ho0]
    all_goals simp -implicitDefEqProofs only [List.map_nil]
def g_poacherlaw04_ForestSums_L0 (k : Nat) (v0 : (List (Int × List Int)))  : Nat → Int → Int → List Int → Int → Int → Int → Option Bool
  | 0, _, _, _, _, _, _ => none
  | n + 1, s7, s8, s9, s45, s46, s61 =>
    bif decide (s46 < (↑s9.length : Int)) then
     ob (idx s9 s46) fun x72 =>
     ob (g_forest_Under (k + (40 : Nat)) v0 x72) fun x73 =>
     g_poacherlaw04_ForestSums_L1 k v0 (fun s7 s8 s9 s45 s46 s61 => g_poacherlaw04_ForestSums_L0 k v0  n s7 s8 s9 s45 s46 s61) (k + (60 : Nat)) (s7) (s8) (s9) (IntKind.i64.wrap (s45 + (↑x73.length : Int))) (x73) (s61) ((0 : Int)) (s46)
    else
     bif s7 == s45 then
      some (s8 == s61)
     else
      some (false)
theorem g_poacherlaw04_ForestSums_L0_eq (k : Nat) (v0 : (List (Int × List Int))) : ∀ (n : Nat) (s7 : Int) (s8 : Int) (s9 : List Int) (s45 : Int) (s46 : Int) (s61 : Int) ⦃s6 : Bool⦄ ⦃s10 : Bool⦄ ⦃s11 : Bool⦄ ⦃s12 : Bool⦄ ⦃j47 j48 : V⦄, rt none (itX (xX (xS (k + (60 : Nat))) (22 : Nat) (0 : Nat) (k + (60 : Nat)) false) xl22_0 ((0 : Nat)) (runK (xX (xS (k + (60 : Nat))) (22 : Nat) (0 : Nat) (k + (60 : Nat)) false) (bodyK (xS (k + (60 : Nat))).P Try.f22) xk22_2) n ⟨(V.ro (List.map taskV v0) :: uu :: V.lit (Value.bool false) :: V.lit (Value.bool true) :: V.lit (Value.bool s6) :: V.lit (Value.int IntKind.i64 s7) :: V.lit (Value.int IntKind.i64 s8) :: V.ro (List.map (intR IntKind.i64) s9) :: V.lit (Value.int IntKind.i64 s45) :: V.lit (Value.int IntKind.i64 s61) :: V.lit (Value.int IntKind.i64 s46) :: j47 :: j48 :: V.lit (Value.bool true) :: V.ro (List.map taskV v0) :: V.lit (Value.bool s6) :: V.lit (Value.bool true) :: V.lit (Value.bool false) :: V.lit (Value.bool false) :: V.lit (Value.bool s6) :: V.lit (Value.bool s10) :: V.lit (Value.bool s10) :: uu :: V.tup [V.lit (Value.int IntKind.i64 s7), V.lit (Value.int IntKind.i64 s8)] :: V.ro (List.map taskV v0) :: V.tup [V.lit (Value.int IntKind.i64 s7), V.lit (Value.int IntKind.i64 s8)] :: V.lit (Value.int IntKind.i64 s7) :: V.lit (Value.int IntKind.i64 s8) :: V.ro (List.map taskV v0) :: V.lit (Value.bool s11) :: V.lit (Value.bool s12) :: uu :: uu :: uu :: uu :: uu :: uu :: V.ro (List.map taskV v0) :: V.ro (List.map (intR IntKind.i64) s9) :: V.junk :: V.junk :: V.junk :: V.junk :: V.junk :: V.junk :: V.junk :: V.junk :: V.junk :: V.junk :: V.junk :: V.junk :: V.junk :: V.junk :: V.junk :: V.junk :: V.junk :: V.junk :: V.junk :: V.junk :: V.junk :: V.junk :: V.junk :: V.junk :: V.junk :: V.junk :: V.junk :: V.junk :: V.junk :: V.junk :: V.junk :: V.junk :: V.junk :: V.junk :: V.junk :: V.junk :: V.junk :: V.junk :: V.junk :: V.junk :: V.junk :: V.junk :: V.junk :: V.junk :: V.junk :: V.junk :: uu :: uu :: uu :: uu :: uu :: uu :: uu :: uu :: []), []⟩) = ob (g_poacherlaw04_ForestSums_L0 k v0  n s7 s8 s9 s45 s46 s61) fun r => some ((.lit (.bool r)), []) := by
  intro n
  induction n with
  | zero => intros; rfl
  | succ n ih =>
    intro s7 s8 s9 s45 s46 s61 s6 s10 s11 s12 j47 j48
    rw [g_poacherlaw04_ForestSums_L0]
    simp (maxSteps := 2000000) -implicitDefEqProofs only [xe22, xb22, xz22, xm22_0, xm22_1, xj22_2, xj22_3, xm22_4, xm22_5, xk22_0_ret, xk22_1_ret, xk22_2_ret, xk22_3_ret, xk22_4_ret, xk22_5_ret, ↓syP, syA, rtN, pureL, V.pure, nsh, stBk, V.kill, killL, spl, V.shift, shiftL, V.scal, scalL, intR, boolR, threeV, Nat.reduceAdd, Nat.reduceSub, Nat.reduceMul, Nat.reduceLT, Nat.reduceLeDiff, Nat.reduceEqDiff, Nat.reduceBEq, Nat.reduceBNe, Int.reduceBEq, Int.reduceBNe, Int.reduceLT, Int.reduceLE, Int.reduceAdd, Int.reduceSub, Int.reduceNeg, xF, xcallV, xcallC, xcallL, xcallY, xevY, xY_ready, xrange, xG_fn, xR, xA, xcl62, xclk62, xcl71, xclk71, awk04', awk21', awk17', downF_init, h_ref_under, h_poacherlaw04_Few, h_forest_May, h_forest_Sums, h_forest_Roots, h_forest_Under, xr22_0, ih, g_poacherlaw04_ForestSums_L1_eq k v0 _ (fun s7 s8 s9 s45 s46 s61 => g_poacherlaw04_ForestSums_L0 k v0  n s7 s8 s9 s45 s46 s61) ih]
    all_goals simp -implicitDefEqProofs only [List.map_nil]
def g_poacherlaw04_ForestSums (k : Nat) (v0 : (List (Int × List Int))) : Option Bool :=
  ob (g_poacherlaw04_Few (k + (59 : Nat)) v0) fun x78 =>
  bif !x78 then
   some (true)
  else
   ob (g_forest_Sums (k + (40 : Nat)) v0) fun x79 =>
   ob (g_forest_May (k + (41 : Nat)) v0) fun x80 =>
   bif !x80 then
    bif x79.fst == (0 : Int) then
     some (x79.snd == (0 : Int))
    else
     some (false)
   else
    ob (g_forest_Roots (k + (39 : Nat)) v0) fun x81 =>
    g_poacherlaw04_ForestSums_L0 k v0 (k + (60 : Nat)) (x79.fst) (x79.snd) (x81) ((0 : Int)) ((0 : Int)) ((0 : Int))
theorem h_poacherlaw04_ForestSums (k : Nat) (v0 : (List (Int × List Int))) : xC (k + 61) none 22 [(.ro (List.map taskV v0))] = ob (g_poacherlaw04_ForestSums k v0) fun r => some ((.lit (.bool r)), []) := by
  rw [xC_eq]
  unfold g_poacherlaw04_ForestSums
  simp (maxSteps := 2000000) -implicitDefEqProofs only [xe22, xb22, xz22, xm22_0, xm22_1, xj22_2, xj22_3, xm22_4, xm22_5, xk22_0_ret, xk22_1_ret, xk22_2_ret, xk22_3_ret, xk22_4_ret, xk22_5_ret, ↓syP, syA, rtN, pureL, V.pure, nsh, stBk, V.kill, killL, spl, V.shift, shiftL, V.scal, scalL, intR, boolR, threeV, Nat.reduceAdd, Nat.reduceSub, Nat.reduceMul, Nat.reduceLT, Nat.reduceLeDiff, Nat.reduceEqDiff, Nat.reduceBEq, Nat.reduceBNe, Int.reduceBEq, Int.reduceBNe, Int.reduceLT, Int.reduceLE, Int.reduceAdd, Int.reduceSub, Int.reduceNeg, xF, xcallV, xcallC, xcallL, xcallY, xevY, xY_ready, xrange, xG_fn, xR, xA, xcl62, xclk62, xcl71, xclk71, awk04', awk21', awk17', downF_init, h_ref_under, h_poacherlaw04_Few, h_forest_May, h_forest_Sums, h_forest_Roots, g_poacherlaw04_ForestSums_L0_eq k v0]
  all_goals simp -implicitDefEqProofs only [List.map_nil]
end Go.Ab
