/- Functions as they are walked: printed by Walk.lean. -/
import Derived.Test.YthnifkacfonhgaaR2GPA
import Derived.Test.YthnifkacfonhgaaR2BL18
set_option linter.unusedVariables false
set_option linter.unusedSimpArgs false
set_option maxRecDepth 100000
set_option linter.unusedVariables false
set_option linter.unusedSimpArgs false
namespace Go.Ab
open Go.Proofs
theorem h_event_Play_0 : ∀ (k : Nat) (v1 : List Int), xC (k + (40 : Nat)) none (46 : FuncId) [V.ro [], V.ro (List.map (intR IntKind.i64) v1)] = ob (g_event_Play k [] v1) fun (r : List Int × List (Int × Int × Int × Int × Int × Int × Int) × List (Int × Int × Int × Int × Int × Int × Int)) => some (V.tup [V.ro (List.map (intR IntKind.u64) r.fst), V.ro (List.map frameV r.snd.fst), V.ro (List.map frameV r.snd.snd)], []) := fun k v1 => h_event_Play k [] v1
def g_poacherlaw16_EventNobody_L1 (k : Nat) (v0 : (List (List Int))) (v1 : (List Int)) (v2 : Bool) (o0 : List (List Int) → Int → Nat → Option Bool) : Nat → List Int → Int → List (List Int) → Int → Nat → Nat → Option Bool
  | 0, _, _, _, _, _, _ => none
  | n + 1, s36, s37, s54, s55, s62, s82 =>
    ob (idx v0 s55) fun x100 =>
    bif decide (s37 < (↑x100.length : Int)) then
     ob (idx v0 s55) fun x101 =>
     ob (idx x101 s37) fun x102 =>
     bif (x102 == (5 : Int)) == v2 then
      ob (idx v0 s55) fun x103 =>
      ob (idx x103 s37) fun x104 =>
      ck (s62 == (1 : Nat) || s62 == (0 : Nat)) (
      bif room (s36 ++ [x104]).length (8 : Nat) then
       g_poacherlaw16_EventNobody_L1 k v0 v1 v2 o0 n (s36 ++ [x104]) (IntKind.i64.wrap (s37 + (1 : Int))) (s54) (s55) ((1 : Nat)) (s82)
      else
       none)
     else
      g_poacherlaw16_EventNobody_L1 k v0 v1 v2 o0 n (s36) (IntKind.i64.wrap (s37 + (1 : Int))) (s54) (s55) (s62) (s82)
    else
     ck (s82 == (1 : Nat) || s82 == (0 : Nat)) (
     bif room (s54 ++ [s36]).length (24 : Nat) then
      o0 (s54 ++ [s36]) (IntKind.i64.wrap (s55 + (1 : Int))) ((1 : Nat))
     else
      none)
theorem g_poacherlaw16_EventNobody_L1_eq (k : Nat) (v0 : (List (List Int))) (v1 : (List Int)) (v2 : Bool) (n3 : Nat) (o0 : List (List Int) → Int → Nat → Option Bool) (ho0 : ∀ (s39 : List (List Int)) (s40 : Int) (s72 : Nat) ⦃s4 : Bool⦄ ⦃s5 : Bool⦄ ⦃s6 : Bool⦄ ⦃s7 : Bool⦄ ⦃s38 : Nat⦄ ⦃j41 j42 : V⦄, rt none (itX (xX (xS (k + (60 : Nat))) (18 : Nat) (0 : Nat) (k + (60 : Nat)) false) xl18_0 ((1 : Nat)) (runK (xX (xS (k + (60 : Nat))) (18 : Nat) (0 : Nat) (k + (60 : Nat)) false) (bodyK (xS (k + (60 : Nat))).P Try.f18) xk18_1) n3 ⟨(V.ro (List.map listV v0) :: V.ro (List.map (intR IntKind.i64) v1) :: V.lit (Value.bool v2) :: uu :: uu :: uu :: V.lit (Value.bool false) :: V.lit (Value.bool s4) :: V.lit (Value.bool s5) :: V.own (0 : Nat) s38 s39.length :: V.lit (Value.int IntKind.i64 s40) :: j41 :: j42 :: uu :: uu :: uu :: uu :: V.lit (Value.bool s4) :: V.ro (List.map listV v0) :: V.lit (Value.bool s5) :: V.lit (Value.bool s4) :: V.lit (Value.bool s6) :: V.lit (Value.bool false) :: V.lit (Value.bool s5) :: V.lit (Value.bool s7) :: V.lit (Value.bool s7) :: V.lit (Value.bool false) :: V.ro (List.map (intR IntKind.i64) v1) :: V.lit (Value.int IntKind.i64 (↑v1.length : Int)) :: V.lit (Value.bool (decide ((500 : Int) < (↑v1.length : Int)))) :: V.lit (Value.bool (decide ((500 : Int) < (↑v1.length : Int)))) :: uu :: V.junk :: V.junk :: V.junk :: V.junk :: V.junk :: V.junk :: V.junk :: V.junk :: V.junk :: V.junk :: V.junk :: V.junk :: V.junk :: V.junk :: V.junk :: V.junk :: V.junk :: V.junk :: V.junk :: V.junk :: V.junk :: V.junk :: V.junk :: V.junk :: V.junk :: V.junk :: V.junk :: V.junk :: V.junk :: V.junk :: V.junk :: V.junk :: V.junk :: V.junk :: V.junk :: V.junk :: V.junk :: V.junk :: V.junk :: uu :: uu :: uu :: uu :: uu :: uu :: uu :: uu :: uu :: uu :: uu :: uu :: uu :: uu :: uu :: uu :: uu :: uu :: uu :: uu :: uu :: uu :: []), [B.rows s72 (List.map listV s39) s38 true]⟩) = ob (o0 s39 s40 s72) fun r => some ((.lit (.bool r)), [])) : ∀ (n : Nat) (s36 : List Int) (s37 : Int) (s54 : List (List Int)) (s55 : Int) (s62 : Nat) (s82 : Nat) ⦃s14 : Bool⦄ ⦃s15 : Bool⦄ ⦃s16 : Bool⦄ ⦃s17 : Bool⦄ ⦃s35 : Nat⦄ ⦃s53 : Nat⦄ ⦃s56 : Bool⦄, rt none (itX (xX (xS (k + (60 : Nat))) (18 : Nat) (0 : Nat) (k + (60 : Nat)) false) xl18_1 ((2 : Nat)) (runK (xX (xS (k + (60 : Nat))) (18 : Nat) (0 : Nat) (k + (60 : Nat)) false) (nextK (xX (xS (k + (60 : Nat))) (18 : Nat) (0 : Nat) (k + (60 : Nat)) false) xl18_0 (1 : Nat) (runK (xX (xS (k + (60 : Nat))) (18 : Nat) (0 : Nat) (k + (60 : Nat)) false) (bodyK (xS (k + (60 : Nat))).P Try.f18) xk18_1) n3) xk18_2) n ⟨(V.ro (List.map listV v0) :: V.ro (List.map (intR IntKind.i64) v1) :: V.lit (Value.bool v2) :: uu :: uu :: uu :: V.lit (Value.bool false) :: V.lit (Value.bool s14) :: V.lit (Value.bool s15) :: V.own (0 : Nat) s53 s54.length :: V.lit (Value.int IntKind.i64 s55) :: V.own (1 : Nat) s35 s36.length :: V.lit (Value.int IntKind.i64 s37) :: uu :: uu :: uu :: uu :: V.lit (Value.bool s14) :: V.ro (List.map listV v0) :: V.lit (Value.bool s15) :: V.lit (Value.bool s14) :: V.lit (Value.bool s16) :: V.lit (Value.bool false) :: V.lit (Value.bool s15) :: V.lit (Value.bool s17) :: V.lit (Value.bool s17) :: V.lit (Value.bool false) :: V.ro (List.map (intR IntKind.i64) v1) :: V.lit (Value.int IntKind.i64 (↑v1.length : Int)) :: V.lit (Value.bool (decide ((500 : Int) < (↑v1.length : Int)))) :: V.lit (Value.bool (decide ((500 : Int) < (↑v1.length : Int)))) :: uu :: V.lit (Value.int IntKind.i64 s55) :: V.ro (List.map listV v0) :: V.lit (Value.int IntKind.i64 (↑v0.length : Int)) :: V.lit (Value.bool s56) :: V.junk :: V.junk :: V.junk :: V.junk :: V.junk :: V.junk :: V.junk :: V.junk :: V.junk :: V.junk :: V.junk :: V.junk :: V.junk :: V.junk :: V.junk :: V.junk :: V.junk :: V.junk :: V.junk :: V.junk :: V.junk :: V.junk :: V.junk :: V.junk :: V.junk :: V.junk :: V.junk :: V.junk :: V.junk :: V.junk :: V.junk :: V.junk :: V.junk :: V.junk :: V.junk :: uu :: uu :: uu :: uu :: uu :: uu :: uu :: uu :: uu :: uu :: uu :: uu :: uu :: uu :: uu :: uu :: uu :: uu :: uu :: uu :: uu :: uu :: []), [B.rows s82 (List.map listV s54) s53 true, B.rows s62 (List.map (intR IntKind.i64) s36) s35 true]⟩) = ob (g_poacherlaw16_EventNobody_L1 k v0 v1 v2 o0 n s36 s37 s54 s55 s62 s82) fun r => some ((.lit (.bool r)), []) := by
  intro n
  induction n with
  | zero => intros; rfl
  | succ n ih =>
    intro s36 s37 s54 s55 s62 s82 s14 s15 s16 s17 s35 s53 s56
    rw [g_poacherlaw16_EventNobody_L1]
    simp (maxSteps := 2000000) -implicitDefEqProofs only [xe18, xb18, xz18, xm18_0, xm18_1, xj18_2, xj18_3, xj18_4, xj18_5, xm18_6, xk18_0_ret, xk18_1_ret, xk18_2_ret, xk18_3_ret, xk18_4_ret, xk18_5_ret, ↓syP, syA, rtN, pureL, V.pure, nsh, stBk, V.kill, killL, spl, V.shift, shiftL, V.scal, scalL, intR, boolR, threeV, Nat.reduceAdd, Nat.reduceSub, Nat.reduceMul, Nat.reduceLT, Nat.reduceLeDiff, Nat.reduceEqDiff, Nat.reduceBEq, Nat.reduceBNe, Int.reduceBEq, Int.reduceBNe, Int.reduceLT, Int.reduceLE, Int.reduceAdd, Int.reduceSub, Int.reduceNeg, syQ, confV, frameV, listV, xF, xcallV, xcallC, xcallL, xcallY, xevY, xY_ready, xrange, xG_fn, xR, xA, xcl50, xclk50, xcl83, xclk83, xrp84, xrq84, rtC_int, rtC_list, awk14', awk15', h_poacherlaw16_Few, h_event_Play, h_poacherlaw16_awake, h_event_Play_0, xr18_1, ih, ho0]
    all_goals simp -implicitDefEqProofs only [List.map_nil]
def g_poacherlaw16_EventNobody_L2 (k : Nat) (v0 : (List (List Int))) (v1 : (List Int)) (v2 : Bool)  : Nat → List (Int × Int × Int × Int × Int × Int × Int) → Int → Option Bool
  | 0, _, _ => none
  | n + 1, s22, s43 =>
    bif decide (s43 < (↑s22.length : Int)) then
     bif v2 then
      some (false)
     else
      ob (idx s22 s43) fun x106 =>
      bif x106.snd.snd.snd.snd.snd.snd != (3 : Int) then
       some (false)
      else
       g_poacherlaw16_EventNobody_L2 k v0 v1 v2  n (s22) (IntKind.i64.wrap (s43 + (1 : Int)))
    else
     some (true)
theorem g_poacherlaw16_EventNobody_L2_eq (k : Nat) (v0 : (List (List Int))) (v1 : (List Int)) (v2 : Bool) : ∀ (n : Nat) (s22 : List (Int × Int × Int × Int × Int × Int × Int)) (s43 : Int) ⦃s19 : Bool⦄ ⦃s20 : Bool⦄ ⦃s21 : List Int⦄ ⦃s23 : List (Int × Int × Int × Int × Int × Int × Int)⦄ ⦃s24 : Bool⦄ ⦃s25 : Bool⦄ ⦃s57 : Nat⦄ ⦃s58 : List (List Int)⦄ ⦃s59 : Int⦄ ⦃s83 : Nat⦄ ⦃j60 j61 : V⦄, rt none (itX (xX (xS (k + (60 : Nat))) (18 : Nat) (0 : Nat) (k + (60 : Nat)) false) xl18_2 ((1 : Nat)) (runK (xX (xS (k + (60 : Nat))) (18 : Nat) (0 : Nat) (k + (60 : Nat)) false) (bodyK (xS (k + (60 : Nat))).P Try.f18) xk18_3) n ⟨(V.ro (List.map listV v0) :: V.ro (List.map (intR IntKind.i64) v1) :: V.lit (Value.bool v2) :: uu :: uu :: uu :: V.lit (Value.bool false) :: V.lit (Value.bool s19) :: V.lit (Value.bool s20) :: V.own (0 : Nat) s57 s58.length :: V.lit (Value.int IntKind.i64 s59) :: j60 :: j61 :: V.ro (List.map (intR IntKind.u64) s21) :: V.ro (List.map frameV s22) :: V.ro (List.map frameV s23) :: V.lit (Value.int IntKind.i64 s43) :: V.lit (Value.bool s19) :: V.ro (List.map listV v0) :: V.lit (Value.bool s20) :: V.lit (Value.bool s19) :: V.lit (Value.bool s24) :: V.lit (Value.bool false) :: V.lit (Value.bool s20) :: V.lit (Value.bool s25) :: V.lit (Value.bool s25) :: V.lit (Value.bool false) :: V.ro (List.map (intR IntKind.i64) v1) :: V.lit (Value.int IntKind.i64 (↑v1.length : Int)) :: V.lit (Value.bool (decide ((500 : Int) < (↑v1.length : Int)))) :: V.lit (Value.bool (decide ((500 : Int) < (↑v1.length : Int)))) :: uu :: V.junk :: V.junk :: V.junk :: V.junk :: V.junk :: V.junk :: V.junk :: V.junk :: V.junk :: V.junk :: V.junk :: V.junk :: V.junk :: V.junk :: V.junk :: V.junk :: V.junk :: V.junk :: V.junk :: V.junk :: V.junk :: V.junk :: V.junk :: V.junk :: V.junk :: V.junk :: V.junk :: V.junk :: V.junk :: V.junk :: V.junk :: V.junk :: V.junk :: V.junk :: V.junk :: V.junk :: V.junk :: V.junk :: V.junk :: V.tup [V.ro (List.map (intR IntKind.u64) s21), V.ro (List.map frameV s22), V.ro (List.map frameV s23)] :: V.own (0 : Nat) s57 s58.length :: V.ro (List.map (intR IntKind.i64) v1) :: V.tup [V.ro (List.map (intR IntKind.u64) s21), V.ro (List.map frameV s22), V.ro (List.map frameV s23)] :: V.ro (List.map (intR IntKind.u64) s21) :: V.ro (List.map frameV s22) :: V.ro (List.map frameV s23) :: V.junk :: V.junk :: V.junk :: V.junk :: V.junk :: V.junk :: V.junk :: V.junk :: V.junk :: V.junk :: V.junk :: V.junk :: V.junk :: V.junk :: V.junk :: []), [B.rows s83 (List.map listV s58) s57 false]⟩) = ob (g_poacherlaw16_EventNobody_L2 k v0 v1 v2  n s22 s43) fun r => some ((.lit (.bool r)), []) := by
  intro n
  induction n with
  | zero => intros; rfl
  | succ n ih =>
    intro s22 s43 s19 s20 s21 s23 s24 s25 s57 s58 s59 s83 j60 j61
    rw [g_poacherlaw16_EventNobody_L2]
    simp (maxSteps := 2000000) -implicitDefEqProofs only [xe18, xb18, xz18, xm18_0, xm18_1, xj18_2, xj18_3, xj18_4, xj18_5, xm18_6, xk18_0_ret, xk18_1_ret, xk18_2_ret, xk18_3_ret, xk18_4_ret, xk18_5_ret, ↓syP, syA, rtN, pureL, V.pure, nsh, stBk, V.kill, killL, spl, V.shift, shiftL, V.scal, scalL, intR, boolR, threeV, Nat.reduceAdd, Nat.reduceSub, Nat.reduceMul, Nat.reduceLT, Nat.reduceLeDiff, Nat.reduceEqDiff, Nat.reduceBEq, Nat.reduceBNe, Int.reduceBEq, Int.reduceBNe, Int.reduceLT, Int.reduceLE, Int.reduceAdd, Int.reduceSub, Int.reduceNeg, syQ, confV, frameV, listV, xF, xcallV, xcallC, xcallL, xcallY, xevY, xY_ready, xrange, xG_fn, xR, xA, xcl50, xclk50, xcl83, xclk83, xrp84, xrq84, rtC_int, rtC_list, awk14', awk15', h_poacherlaw16_Few, h_event_Play, h_poacherlaw16_awake, h_event_Play_0, xr18_2, ih]
    all_goals simp -implicitDefEqProofs only [List.map_nil]
def g_poacherlaw16_EventNobody_L0 (k : Nat) (v0 : (List (List Int))) (v1 : (List Int)) (v2 : Bool)  : Nat → List (List Int) → Int → Nat → Option Bool
  | 0, _, _, _ => none
  | n + 1, s39, s40, s72 =>
    bif decide (s40 < (↑v0.length : Int)) then
     g_poacherlaw16_EventNobody_L1 k v0 v1 v2 (fun s39 s40 s72 => g_poacherlaw16_EventNobody_L0 k v0 v1 v2  n s39 s40 s72) (k + (60 : Nat)) ([]) ((0 : Int)) (s39) (s40) ((0 : Nat)) (s72)
    else
     ob (g_event_Play (k + (20 : Nat)) s39 v1) fun x94 =>
     g_poacherlaw16_EventNobody_L2 k v0 v1 v2 (k + (60 : Nat)) (x94.snd.fst) ((0 : Int))
theorem g_poacherlaw16_EventNobody_L0_eq (k : Nat) (v0 : (List (List Int))) (v1 : (List Int)) (v2 : Bool) : ∀ (n : Nat) (s39 : List (List Int)) (s40 : Int) (s72 : Nat) ⦃s4 : Bool⦄ ⦃s5 : Bool⦄ ⦃s6 : Bool⦄ ⦃s7 : Bool⦄ ⦃s38 : Nat⦄ ⦃j41 j42 : V⦄, rt none (itX (xX (xS (k + (60 : Nat))) (18 : Nat) (0 : Nat) (k + (60 : Nat)) false) xl18_0 ((1 : Nat)) (runK (xX (xS (k + (60 : Nat))) (18 : Nat) (0 : Nat) (k + (60 : Nat)) false) (bodyK (xS (k + (60 : Nat))).P Try.f18) xk18_1) n ⟨(V.ro (List.map listV v0) :: V.ro (List.map (intR IntKind.i64) v1) :: V.lit (Value.bool v2) :: uu :: uu :: uu :: V.lit (Value.bool false) :: V.lit (Value.bool s4) :: V.lit (Value.bool s5) :: V.own (0 : Nat) s38 s39.length :: V.lit (Value.int IntKind.i64 s40) :: j41 :: j42 :: uu :: uu :: uu :: uu :: V.lit (Value.bool s4) :: V.ro (List.map listV v0) :: V.lit (Value.bool s5) :: V.lit (Value.bool s4) :: V.lit (Value.bool s6) :: V.lit (Value.bool false) :: V.lit (Value.bool s5) :: V.lit (Value.bool s7) :: V.lit (Value.bool s7) :: V.lit (Value.bool false) :: V.ro (List.map (intR IntKind.i64) v1) :: V.lit (Value.int IntKind.i64 (↑v1.length : Int)) :: V.lit (Value.bool (decide ((500 : Int) < (↑v1.length : Int)))) :: V.lit (Value.bool (decide ((500 : Int) < (↑v1.length : Int)))) :: uu :: V.junk :: V.junk :: V.junk :: V.junk :: V.junk :: V.junk :: V.junk :: V.junk :: V.junk :: V.junk :: V.junk :: V.junk :: V.junk :: V.junk :: V.junk :: V.junk :: V.junk :: V.junk :: V.junk :: V.junk :: V.junk :: V.junk :: V.junk :: V.junk :: V.junk :: V.junk :: V.junk :: V.junk :: V.junk :: V.junk :: V.junk :: V.junk :: V.junk :: V.junk :: V.junk :: V.junk :: V.junk :: V.junk :: V.junk :: uu :: uu :: uu :: uu :: uu :: uu :: uu :: uu :: uu :: uu :: uu :: uu :: uu :: uu :: uu :: uu :: uu :: uu :: uu :: uu :: uu :: uu :: []), [B.rows s72 (List.map listV s39) s38 true]⟩) = ob (g_poacherlaw16_EventNobody_L0 k v0 v1 v2  n s39 s40 s72) fun r => some ((.lit (.bool r)), []) := by
  intro n
  induction n with
  | zero => intros; rfl
  | succ n ih =>
    intro s39 s40 s72 s4 s5 s6 s7 s38 j41 j42
    rw [g_poacherlaw16_EventNobody_L0]
    have hu2 := g_poacherlaw16_EventNobody_L1_eq k v0 v1 v2 _ (fun s39 s40 s72 => g_poacherlaw16_EventNobody_L0 k v0 v1 v2  n s39 s40 s72) ih (k + (60 : Nat)) ([]) ((0 : Int)) (s39) (s40) ((0 : Nat)) (s72)
    try simp -implicitDefEqProofs only [List.map_nil, List.length_nil] at hu2
    simp (maxSteps := 2000000) -implicitDefEqProofs only [xe18, xb18, xz18, xm18_0, xm18_1, xj18_2, xj18_3, xj18_4, xj18_5, xm18_6, xk18_0_ret, xk18_1_ret, xk18_2_ret, xk18_3_ret, xk18_4_ret, xk18_5_ret, ↓syP, syA, rtN, pureL, V.pure, nsh, stBk, V.kill, killL, spl, V.shift, shiftL, V.scal, scalL, intR, boolR, threeV, Nat.reduceAdd, Nat.reduceSub, Nat.reduceMul, Nat.reduceLT, Nat.reduceLeDiff, Nat.reduceEqDiff, Nat.reduceBEq, Nat.reduceBNe, Int.reduceBEq, Int.reduceBNe, Int.reduceLT, Int.reduceLE, Int.reduceAdd, Int.reduceSub, Int.reduceNeg, syQ, confV, frameV, listV, xF, xcallV, xcallC, xcallL, xcallY, xevY, xY_ready, xrange, xG_fn, xR, xA, xcl50, xclk50, xcl83, xclk83, xrp84, xrq84, rtC_int, rtC_list, awk14', awk15', h_poacherlaw16_Few, h_event_Play, h_poacherlaw16_awake, h_event_Play_0, xr18_0, ih, g_poacherlaw16_EventNobody_L1_eq k v0 v1 v2 _ (fun s39 s40 s72 => g_poacherlaw16_EventNobody_L0 k v0 v1 v2  n s39 s40 s72) ih, hu2, g_poacherlaw16_EventNobody_L2_eq k v0 v1 v2]
    all_goals simp -implicitDefEqProofs only [List.map_nil]
def g_poacherlaw16_EventNobody (k : Nat) (v0 : (List (List Int))) (v1 : (List Int)) (v2 : Bool) : Option Bool :=
  ob (g_poacherlaw16_awake k) fun x107 =>
  ob (g_poacherlaw16_Few (k + (59 : Nat)) v0) fun x108 =>
  bif !x107 then
   some (x107)
  else
   bif !x108 then
    some (x107)
   else
    bif decide ((500 : Int) < (↑v1.length : Int)) then
     some (x107)
    else
     g_poacherlaw16_EventNobody_L0 k v0 v1 v2 (k + (60 : Nat)) ([]) ((0 : Int)) ((0 : Nat))
theorem h_poacherlaw16_EventNobody (k : Nat) (v0 : (List (List Int))) (v1 : (List Int)) (v2 : Bool) : xC (k + 61) none 18 [(.ro (List.map listV v0)), (.ro (List.map (intR .i64) v1)), (.lit (.bool v2))] = ob (g_poacherlaw16_EventNobody k v0 v1 v2) fun r => some ((.lit (.bool r)), []) := by
  rw [xC_eq]
  unfold g_poacherlaw16_EventNobody
  have hl0 := g_poacherlaw16_EventNobody_L0_eq k v0 v1 v2 (k + (60 : Nat)) ([]) ((0 : Int)) ((0 : Nat))
  try simp -implicitDefEqProofs only [List.map_nil, List.length_nil] at hl0
  simp (maxSteps := 2000000) -implicitDefEqProofs only [xe18, xb18, xz18, xm18_0, xm18_1, xj18_2, xj18_3, xj18_4, xj18_5, xm18_6, xk18_0_ret, xk18_1_ret, xk18_2_ret, xk18_3_ret, xk18_4_ret, xk18_5_ret, ↓syP, syA, rtN, pureL, V.pure, nsh, stBk, V.kill, killL, spl, V.shift, shiftL, V.scal, scalL, intR, boolR, threeV, Nat.reduceAdd, Nat.reduceSub, Nat.reduceMul, Nat.reduceLT, Nat.reduceLeDiff, Nat.reduceEqDiff, Nat.reduceBEq, Nat.reduceBNe, Int.reduceBEq, Int.reduceBNe, Int.reduceLT, Int.reduceLE, Int.reduceAdd, Int.reduceSub, Int.reduceNeg, syQ, confV, frameV, listV, xF, xcallV, xcallC, xcallL, xcallY, xevY, xY_ready, xrange, xG_fn, xR, xA, xcl50, xclk50, xcl83, xclk83, xrp84, xrq84, rtC_int, rtC_list, awk14', awk15', h_poacherlaw16_Few, h_poacherlaw16_awake, g_poacherlaw16_EventNobody_L0_eq k v0 v1 v2, hl0]
  all_goals simp -implicitDefEqProofs only [List.map_nil]
end Go.Ab
