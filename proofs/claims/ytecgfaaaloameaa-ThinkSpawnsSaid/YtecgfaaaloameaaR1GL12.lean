/- Functions as they are walked: printed by Walk.lean. -/
import Derived.Test.YtecgfaaaloameaaR1GT
import Derived.Test.YtecgfaaaloameaaR1Awk
import Derived.Test.YtecgfaaaloameaaR1BL12
set_option maxRecDepth 100000
set_option linter.unusedVariables false
set_option linter.unusedSimpArgs false
namespace Go.Ab
open Go.Proofs
def g_poacherlaw17_ThinkSpawns_L1 (k : Nat) (v0 : (List (Int × List Int))) (v1 : (List (Int × Int × Int))) (v2 : Int)  : Nat → List (Int × Int × Int) → Int → Option Bool
  | 0, _, _ => none
  | n + 1, s24, s47 =>
    ob (idx v0 v2) fun x66 =>
    bif decide (s47 < (↑x66.snd.length : Int)) then
     ob (g_think_Next (k + (39 : Nat)) v0 s24) fun x67 =>
     ob (idx v0 v2) fun x68 =>
     ob (idx x68.snd s47) fun x69 =>
     bif !(x67.fst == (2 : Int) && x67.snd == x69) then
      some (false)
     else
      ob (g_think_Do (k + (38 : Nat)) v0 s24) fun x70 =>
      g_poacherlaw17_ThinkSpawns_L1 k v0 v1 v2  n (x70) (IntKind.i64.wrap (s47 + (1 : Int)))
    else
     ob (g_think_Next (k + (39 : Nat)) v0 s24) fun x71 =>
     ob (g_think_Do (k + (38 : Nat)) v0 s24) fun x72 =>
     ob (g_poacherref17_Same (k + (59 : Nat)) x72 v1) fun x73 =>
     bif x71.fst == (3 : Int) && x71.snd == v2 then
      some (x73)
     else
      some (false)
theorem g_poacherlaw17_ThinkSpawns_L1_eq (k : Nat) (v0 : (List (Int × List Int))) (v1 : (List (Int × Int × Int))) (v2 : Int) : ∀ (n : Nat) (s24 : List (Int × Int × Int)) (s47 : Int) ⦃s23 : Bool⦄ ⦃s25 : Bool⦄ ⦃s26 : Bool⦄ ⦃s27 : Bool⦄ ⦃s28 : Bool⦄ ⦃s29 : Bool⦄ ⦃s45 : Int⦄ ⦃s46 : List (Int × Int × Int)⦄, rt none (itX (xX (xS (k + (60 : Nat))) (12 : Nat) (0 : Nat) (k + (60 : Nat)) false) xl12_1 ((0 : Nat)) (runK (xX (xS (k + (60 : Nat))) (12 : Nat) (0 : Nat) (k + (60 : Nat)) false) (bodyK (xS (k + (60 : Nat))).P Try.f12) xk12_2) n ⟨(V.ro (List.map taskV v0) :: V.ro (List.map threeV v1) :: V.lit (Value.int IntKind.i64 v2) :: uu :: uu :: uu :: V.lit (Value.bool false) :: V.lit (Value.bool true) :: V.lit (Value.bool s23) :: V.ro (List.map threeV s24) :: V.lit (Value.int IntKind.i64 s45) :: V.lit (Value.int IntKind.i64 s47) :: uu :: uu :: V.lit (Value.bool true) :: V.ro (List.map taskV v0) :: V.lit (Value.bool s23) :: V.lit (Value.bool true) :: V.lit (Value.bool false) :: V.lit (Value.bool false) :: V.lit (Value.bool s23) :: V.lit (Value.bool s25) :: V.lit (Value.bool s25) :: V.lit (Value.bool false) :: V.ro (List.map threeV v1) :: V.lit (Value.int IntKind.i64 (↑v1.length : Int)) :: V.lit (Value.bool (decide ((40 : Int) < (↑v1.length : Int)))) :: V.lit (Value.bool (decide ((40 : Int) < (↑v1.length : Int)))) :: V.lit (Value.bool false) :: V.ro (List.map taskV v0) :: V.ro (List.map threeV v1) :: V.lit (Value.bool s26) :: V.lit (Value.bool s27) :: V.lit (Value.bool s27) :: V.lit (Value.bool false) :: V.ro (List.map taskV v0) :: V.lit (Value.bool s28) :: V.lit (Value.bool s29) :: V.lit (Value.bool s29) :: V.lit (Value.bool false) :: V.lit (Value.int IntKind.i64 v2) :: V.lit (Value.bool (decide (v2 < (0 : Int)))) :: V.lit (Value.bool (decide (v2 < (0 : Int)))) :: V.lit (Value.bool false) :: V.lit (Value.int IntKind.i64 v2) :: V.ro (List.map taskV v0) :: V.lit (Value.int IntKind.i64 (↑v0.length : Int)) :: V.lit (Value.bool (decide ((↑v0.length : Int) ≤ v2))) :: V.lit (Value.bool (decide ((↑v0.length : Int) ≤ v2))) :: uu :: V.ro (List.map taskV v0) :: V.ro (List.map threeV v1) :: V.lit (Value.int IntKind.i64 v2) :: V.ro (List.map threeV s46) :: V.junk :: V.junk :: V.junk :: V.junk :: V.junk :: V.junk :: V.junk :: V.junk :: V.junk :: V.junk :: V.junk :: V.junk :: V.junk :: V.junk :: V.junk :: V.junk :: V.junk :: V.junk :: V.junk :: V.junk :: V.junk :: V.junk :: V.junk :: V.junk :: V.junk :: V.junk :: V.junk :: V.junk :: V.junk :: V.junk :: V.junk :: V.junk :: V.junk :: V.junk :: V.junk :: V.junk :: V.junk :: V.junk :: V.junk :: V.junk :: V.junk :: V.junk :: V.junk :: V.junk :: uu :: uu :: uu :: uu :: uu :: uu :: uu :: uu :: uu :: uu :: uu :: uu :: uu :: uu :: uu :: uu :: []), []⟩) = ob (g_poacherlaw17_ThinkSpawns_L1 k v0 v1 v2  n s24 s47) fun r => some ((.lit (.bool r)), []) := by
  intro n
  induction n with
  | zero => intros; rfl
  | succ n ih =>
    intro s24 s47 s23 s25 s26 s27 s28 s29 s45 s46
    rw [g_poacherlaw17_ThinkSpawns_L1]
    simp (maxSteps := 2000000) -implicitDefEqProofs only [xe12, xb12, xz12, xm12_0, xm12_1, xm12_2, xm12_3, xm12_4, xm12_5, xj12_6, xj12_7, xm12_8, xk12_0_ret, xk12_1_ret, xk12_2_ret, xk12_3_ret, ↓syP, syA, rtN, pureL, V.pure, nsh, stBk, V.kill, killL, spl, V.shift, shiftL, V.scal, scalL, intR, boolR, threeV, Nat.reduceAdd, Nat.reduceSub, Nat.reduceMul, Nat.reduceLT, Nat.reduceLeDiff, Nat.reduceEqDiff, Nat.reduceBEq, Nat.reduceBNe, Int.reduceBEq, Int.reduceBNe, Int.reduceLT, Int.reduceLE, Int.reduceAdd, Int.reduceSub, Int.reduceNeg, xF, xcallV, xcallC, xcallL, xcallY, xevY, xY_ready, xrange, xG_fn, xR, xA, xcl62, xclk62, xcl71, xclk71, awk04', awk21', awk17', h_poacherlaw04_Few, h_forest_May, h_think_May, h_think_Next, h_think_Do, h_think_Start, h_poacherref17_Same, xr12_1, ih]
    all_goals simp -implicitDefEqProofs only [List.map_nil]
def g_poacherlaw17_ThinkSpawns_L0 (k : Nat) (v0 : (List (Int × List Int))) (v1 : (List (Int × Int × Int))) (v2 : Int)  : Nat → List (Int × Int × Int) → Int → Option Bool
  | 0, _, _ => none
  | n + 1, s7, s20 =>
    ob (idx v0 v2) fun x63 =>
    bif decide (s20 < x63.fst) then
     ob (g_think_Next (k + (39 : Nat)) v0 s7) fun x64 =>
     bif !(x64.fst == (1 : Int) && x64.snd == v2) then
      some (false)
     else
      ob (g_think_Do (k + (38 : Nat)) v0 s7) fun x65 =>
      g_poacherlaw17_ThinkSpawns_L0 k v0 v1 v2  n (x65) (IntKind.i64.wrap (s20 + (1 : Int)))
    else
     g_poacherlaw17_ThinkSpawns_L1 k v0 v1 v2 (k + (60 : Nat)) (s7) ((0 : Int))
theorem g_poacherlaw17_ThinkSpawns_L0_eq (k : Nat) (v0 : (List (Int × List Int))) (v1 : (List (Int × Int × Int))) (v2 : Int) : ∀ (n : Nat) (s7 : List (Int × Int × Int)) (s20 : Int) ⦃s6 : Bool⦄ ⦃s8 : Bool⦄ ⦃s9 : Bool⦄ ⦃s10 : Bool⦄ ⦃s11 : Bool⦄ ⦃s12 : Bool⦄ ⦃s21 : List (Int × Int × Int)⦄, rt none (itX (xX (xS (k + (60 : Nat))) (12 : Nat) (0 : Nat) (k + (60 : Nat)) false) xl12_0 ((0 : Nat)) (runK (xX (xS (k + (60 : Nat))) (12 : Nat) (0 : Nat) (k + (60 : Nat)) false) (bodyK (xS (k + (60 : Nat))).P Try.f12) xk12_1) n ⟨(V.ro (List.map taskV v0) :: V.ro (List.map threeV v1) :: V.lit (Value.int IntKind.i64 v2) :: uu :: uu :: uu :: V.lit (Value.bool false) :: V.lit (Value.bool true) :: V.lit (Value.bool s6) :: V.ro (List.map threeV s7) :: V.lit (Value.int IntKind.i64 s20) :: uu :: uu :: uu :: V.lit (Value.bool true) :: V.ro (List.map taskV v0) :: V.lit (Value.bool s6) :: V.lit (Value.bool true) :: V.lit (Value.bool false) :: V.lit (Value.bool false) :: V.lit (Value.bool s6) :: V.lit (Value.bool s8) :: V.lit (Value.bool s8) :: V.lit (Value.bool false) :: V.ro (List.map threeV v1) :: V.lit (Value.int IntKind.i64 (↑v1.length : Int)) :: V.lit (Value.bool (decide ((40 : Int) < (↑v1.length : Int)))) :: V.lit (Value.bool (decide ((40 : Int) < (↑v1.length : Int)))) :: V.lit (Value.bool false) :: V.ro (List.map taskV v0) :: V.ro (List.map threeV v1) :: V.lit (Value.bool s9) :: V.lit (Value.bool s10) :: V.lit (Value.bool s10) :: V.lit (Value.bool false) :: V.ro (List.map taskV v0) :: V.lit (Value.bool s11) :: V.lit (Value.bool s12) :: V.lit (Value.bool s12) :: V.lit (Value.bool false) :: V.lit (Value.int IntKind.i64 v2) :: V.lit (Value.bool (decide (v2 < (0 : Int)))) :: V.lit (Value.bool (decide (v2 < (0 : Int)))) :: V.lit (Value.bool false) :: V.lit (Value.int IntKind.i64 v2) :: V.ro (List.map taskV v0) :: V.lit (Value.int IntKind.i64 (↑v0.length : Int)) :: V.lit (Value.bool (decide ((↑v0.length : Int) ≤ v2))) :: V.lit (Value.bool (decide ((↑v0.length : Int) ≤ v2))) :: uu :: V.ro (List.map taskV v0) :: V.ro (List.map threeV v1) :: V.lit (Value.int IntKind.i64 v2) :: V.ro (List.map threeV s21) :: V.junk :: V.junk :: V.junk :: V.junk :: V.junk :: V.junk :: V.junk :: V.junk :: V.junk :: V.junk :: V.junk :: V.junk :: V.junk :: V.junk :: V.junk :: V.junk :: V.junk :: V.junk :: uu :: uu :: uu :: uu :: uu :: uu :: uu :: uu :: uu :: uu :: uu :: uu :: uu :: uu :: uu :: uu :: uu :: uu :: uu :: uu :: uu :: uu :: uu :: uu :: uu :: uu :: uu :: uu :: uu :: uu :: uu :: uu :: uu :: uu :: uu :: uu :: uu :: uu :: uu :: uu :: uu :: uu :: []), []⟩) = ob (g_poacherlaw17_ThinkSpawns_L0 k v0 v1 v2  n s7 s20) fun r => some ((.lit (.bool r)), []) := by
  intro n
  induction n with
  | zero => intros; rfl
  | succ n ih =>
    intro s7 s20 s6 s8 s9 s10 s11 s12 s21
    rw [g_poacherlaw17_ThinkSpawns_L0]
    simp (maxSteps := 2000000) -implicitDefEqProofs only [xe12, xb12, xz12, xm12_0, xm12_1, xm12_2, xm12_3, xm12_4, xm12_5, xj12_6, xj12_7, xm12_8, xk12_0_ret, xk12_1_ret, xk12_2_ret, xk12_3_ret, ↓syP, syA, rtN, pureL, V.pure, nsh, stBk, V.kill, killL, spl, V.shift, shiftL, V.scal, scalL, intR, boolR, threeV, Nat.reduceAdd, Nat.reduceSub, Nat.reduceMul, Nat.reduceLT, Nat.reduceLeDiff, Nat.reduceEqDiff, Nat.reduceBEq, Nat.reduceBNe, Int.reduceBEq, Int.reduceBNe, Int.reduceLT, Int.reduceLE, Int.reduceAdd, Int.reduceSub, Int.reduceNeg, xF, xcallV, xcallC, xcallL, xcallY, xevY, xY_ready, xrange, xG_fn, xR, xA, xcl62, xclk62, xcl71, xclk71, awk04', awk21', awk17', h_poacherlaw04_Few, h_forest_May, h_think_May, h_think_Next, h_think_Do, h_think_Start, h_poacherref17_Same, xr12_0, ih, g_poacherlaw17_ThinkSpawns_L1_eq k v0 v1 v2]
    all_goals simp -implicitDefEqProofs only [List.map_nil]
def g_poacherlaw17_ThinkSpawns (k : Nat) (v0 : (List (Int × List Int))) (v1 : (List (Int × Int × Int))) (v2 : Int) : Option Bool :=
  ob (g_poacherlaw04_Few (k + (59 : Nat)) v0) fun x74 =>
  bif !x74 then
   some (true)
  else
   bif decide ((40 : Int) < (↑v1.length : Int)) then
    some (true)
   else
    ob (g_think_May (k + (40 : Nat)) v0 v1) fun x75 =>
    bif !x75 then
     some (true)
    else
     ob (g_forest_May (k + (41 : Nat)) v0) fun x76 =>
     bif !x76 then
      some (true)
     else
      bif decide (v2 < (0 : Int)) then
       some (true)
      else
       bif decide ((↑v0.length : Int) ≤ v2) then
        some (true)
       else
        ob (g_think_Start (k + (39 : Nat)) v0 v1 v2) fun x77 =>
        g_poacherlaw17_ThinkSpawns_L0 k v0 v1 v2 (k + (60 : Nat)) (x77) ((0 : Int))
theorem h_poacherlaw17_ThinkSpawns (k : Nat) (v0 : (List (Int × List Int))) (v1 : (List (Int × Int × Int))) (v2 : Int) : xC (k + 61) none 12 [(.ro (List.map taskV v0)), (.ro (List.map threeV v1)), (.lit (.int .i64 v2))] = ob (g_poacherlaw17_ThinkSpawns k v0 v1 v2) fun r => some ((.lit (.bool r)), []) := by
  rw [xC_eq]
  unfold g_poacherlaw17_ThinkSpawns
  simp (maxSteps := 2000000) -implicitDefEqProofs only [xe12, xb12, xz12, xm12_0, xm12_1, xm12_2, xm12_3, xm12_4, xm12_5, xj12_6, xj12_7, xm12_8, xk12_0_ret, xk12_1_ret, xk12_2_ret, xk12_3_ret, ↓syP, syA, rtN, pureL, V.pure, nsh, stBk, V.kill, killL, spl, V.shift, shiftL, V.scal, scalL, intR, boolR, threeV, Nat.reduceAdd, Nat.reduceSub, Nat.reduceMul, Nat.reduceLT, Nat.reduceLeDiff, Nat.reduceEqDiff, Nat.reduceBEq, Nat.reduceBNe, Int.reduceBEq, Int.reduceBNe, Int.reduceLT, Int.reduceLE, Int.reduceAdd, Int.reduceSub, Int.reduceNeg, xF, xcallV, xcallC, xcallL, xcallY, xevY, xY_ready, xrange, xG_fn, xR, xA, xcl62, xclk62, xcl71, xclk71, awk04', awk21', awk17', h_poacherlaw04_Few, h_forest_May, h_think_May, h_think_Start, g_poacherlaw17_ThinkSpawns_L0_eq k v0 v1 v2]
  all_goals simp -implicitDefEqProofs only [List.map_nil]
end Go.Ab
