/- Functions as they are walked: printed by Walk.lean. -/
import Derived.Test.YthnifkacfonhgaaR2GPA
import Derived.Test.YthnifkacfonhgaaR2BL16
set_option linter.unusedVariables false
set_option linter.unusedSimpArgs false
set_option maxRecDepth 100000
set_option linter.unusedVariables false
set_option linter.unusedSimpArgs false
namespace Go.Ab
open Go.Proofs
def g_poacherlaw16_EventMissed_L0 (k : Nat) (v0 : (List (List Int))) (v1 : (List Int)) (v2 : Int) (v3 : Bool)  : Nat → List Int → List (Int × Int × Int × Int × Int × Int × Int) → Int → Int → Int → Int → Int → Int → Int → Int → Option Bool
  | 0, _, _, _, _, _, _, _, _, _, _ => none
  | n + 1, s11, s13, s41, s42, s43, s44, s45, s46, s47, s58 =>
    bif decide (s58 < (20 : Int)) then
     ob (g_note_Step (k + (44 : Nat)) ((↑v0.length : Int), (1 : Int), (1 : Int), (0 : Int)) s11 (s41, s42, s43, s44, s45, s46, s47)) fun x75 =>
     g_poacherlaw16_EventMissed_L0 k v0 v1 v2 v3  n (x75.fst) (s13) (x75.snd.fst) (x75.snd.snd.fst) (x75.snd.snd.snd.fst) (x75.snd.snd.snd.snd.fst) (x75.snd.snd.snd.snd.snd.fst) (x75.snd.snd.snd.snd.snd.snd.fst) (x75.snd.snd.snd.snd.snd.snd.snd) (IntKind.i64.wrap (s58 + (1 : Int)))
    else
     ob (idx s13 v2) fun x76 =>
     ob (g_wait_Step ((↑v0.length : Int), (1 : Int), (1 : Int), (0 : Int)) s11 (x76.fst, x76.snd.fst, x76.snd.snd.fst, x76.snd.snd.snd.fst, x76.snd.snd.snd.snd.fst, x76.snd.snd.snd.snd.snd.fst, x76.snd.snd.snd.snd.snd.snd)) fun x77 =>
     ob (g_frame_Over (s41, s42, s43, s44, s45, s46, s47)) fun x78 =>
     bif x78 then
      some (x77.snd.snd.snd.snd.snd.snd.snd == (4 : Int))
     else
      some (false)
theorem g_poacherlaw16_EventMissed_L0_eq (k : Nat) (v0 : (List (List Int))) (v1 : (List Int)) (v2 : Int) (v3 : Bool) : ∀ (n : Nat) (s11 : List Int) (s13 : List (Int × Int × Int × Int × Int × Int × Int)) (s41 : Int) (s42 : Int) (s43 : Int) (s44 : Int) (s45 : Int) (s46 : Int) (s47 : Int) (s58 : Int) ⦃s9 : Bool⦄ ⦃s10 : Bool⦄ ⦃s12 : List (Int × Int × Int × Int × Int × Int × Int)⦄ ⦃s14 : Bool⦄ ⦃s15 : Bool⦄ ⦃s16 : Int⦄ ⦃s17 : Bool⦄ ⦃s18 : Int⦄ ⦃s19 : Int⦄ ⦃s20 : Int⦄ ⦃s21 : Int⦄ ⦃s22 : Int⦄ ⦃s23 : Int⦄ ⦃s24 : Int⦄ ⦃s25 : Bool⦄ ⦃s26 : Int⦄ ⦃s27 : Int⦄ ⦃s28 : Int⦄ ⦃s29 : Int⦄ ⦃s30 : Int⦄ ⦃s31 : Int⦄ ⦃s32 : Int⦄ ⦃s33 : Bool⦄ ⦃s34 : Int⦄ ⦃s35 : Int⦄ ⦃s36 : Int⦄ ⦃s37 : Int⦄ ⦃s38 : Int⦄ ⦃s39 : Int⦄ ⦃s40 : Int⦄ ⦃s59 : List Int⦄ ⦃j48 j49 : V⦄, rt none (itX (xX (xS (k + (60 : Nat))) (16 : Nat) (0 : Nat) (k + (60 : Nat)) false) xl16_0 ((2 : Nat)) (runK (xX (xS (k + (60 : Nat))) (16 : Nat) (0 : Nat) (k + (60 : Nat)) false) (bodyK (xS (k + (60 : Nat))).P Try.f16) xk16_3) n ⟨(V.ro (List.map listV v0) :: V.ro (List.map (intR IntKind.i64) v1) :: V.lit (Value.int IntKind.i64 v2) :: V.lit (Value.bool v3) :: uu :: uu :: uu :: uu :: V.lit (Value.bool false) :: V.lit (Value.bool s9) :: V.lit (Value.bool s10) :: V.ptr (0 : Nat) (0 : Nat) (0 : Nat) (0 : Nat) :: V.ro (List.map (intR IntKind.u64) s11) :: V.ro (List.map frameV s12) :: V.ro (List.map frameV s13) :: V.ptr (1 : Nat) (0 : Nat) (0 : Nat) (0 : Nat) :: V.lit (Value.int IntKind.i64 s58) :: uu :: uu :: V.lit (Value.bool s9) :: V.ro (List.map listV v0) :: V.lit (Value.bool s10) :: V.lit (Value.bool s9) :: V.lit (Value.bool s14) :: V.lit (Value.bool false) :: V.lit (Value.bool s10) :: V.lit (Value.bool s15) :: V.lit (Value.bool s15) :: V.lit (Value.bool false) :: V.ro (List.map (intR IntKind.i64) v1) :: V.lit (Value.int IntKind.i64 (↑v1.length : Int)) :: V.lit (Value.bool (decide ((500 : Int) < (↑v1.length : Int)))) :: V.lit (Value.bool (decide ((500 : Int) < (↑v1.length : Int)))) :: V.lit (Value.bool false) :: V.lit (Value.int IntKind.i64 v2) :: V.lit (Value.bool (decide (v2 < (0 : Int)))) :: V.lit (Value.bool (decide (v2 < (0 : Int)))) :: V.lit (Value.bool false) :: V.lit (Value.int IntKind.i64 v2) :: V.ro (List.map listV v0) :: V.lit (Value.int IntKind.i64 (↑v0.length : Int)) :: V.lit (Value.bool (decide ((↑v0.length : Int) ≤ v2))) :: V.lit (Value.bool (decide ((↑v0.length : Int) ≤ v2))) :: V.lit (Value.bool false) :: V.ro (List.map listV v0) :: V.lit (Value.int IntKind.i64 (↑v0.length : Int)) :: V.lit (Value.bool (decide ((8 : Int) < (↑v0.length : Int)))) :: V.lit (Value.bool (decide ((8 : Int) < (↑v0.length : Int)))) :: uu :: V.ro (List.map listV v0) :: V.lit (Value.int IntKind.i64 (↑v0.length : Int)) :: V.agg [V.lit (Value.int IntKind.i64 (↑v0.length : Int)), V.lit (Value.int IntKind.i64 (1 : Int)), V.lit (Value.int IntKind.i64 (1 : Int)), V.lit (Value.int IntKind.i64 (0 : Int))] :: V.tup [V.ro (List.map (intR IntKind.u64) s59), V.ro (List.map frameV s12), V.ro (List.map frameV s13)] :: V.ro (List.map listV v0) :: V.ro (List.map (intR IntKind.i64) v1) :: V.tup [V.ro (List.map (intR IntKind.u64) s59), V.ro (List.map frameV s12), V.ro (List.map frameV s13)] :: V.ro (List.map (intR IntKind.u64) s59) :: V.ro (List.map frameV s12) :: V.ro (List.map frameV s13) :: V.lit (Value.int IntKind.i64 v2) :: V.ro (List.map frameV s13) :: V.lit (Value.int IntKind.i64 s16) :: V.lit (Value.bool s17) :: V.lit (Value.bool false) :: V.ro (List.map frameV s13) :: V.lit (Value.int IntKind.i64 v2) :: V.rp [V.lit (Value.int IntKind.i64 s18), V.lit (Value.int IntKind.i64 s19), V.lit (Value.int IntKind.i64 s20), V.lit (Value.int IntKind.u64 s21), V.lit (Value.int IntKind.u64 s22), V.lit (Value.int IntKind.u64 s23), V.lit (Value.int IntKind.i64 s24)] :: V.rp [V.lit (Value.int IntKind.i64 s18), V.lit (Value.int IntKind.i64 s19), V.lit (Value.int IntKind.i64 s20), V.lit (Value.int IntKind.u64 s21), V.lit (Value.int IntKind.u64 s22), V.lit (Value.int IntKind.u64 s23), V.lit (Value.int IntKind.i64 s24)] :: V.lit (Value.int IntKind.i64 s18) :: V.lit (Value.bool s25) :: V.lit (Value.bool s25) :: V.lit (Value.bool false) :: V.ro (List.map frameV s13) :: V.lit (Value.int IntKind.i64 v2) :: V.rp [V.lit (Value.int IntKind.i64 s26), V.lit (Value.int IntKind.i64 s27), V.lit (Value.int IntKind.i64 s28), V.lit (Value.int IntKind.u64 s29), V.lit (Value.int IntKind.u64 s30), V.lit (Value.int IntKind.u64 s31), V.lit (Value.int IntKind.i64 s32)] :: V.rp [V.lit (Value.int IntKind.i64 s27), V.lit (Value.int IntKind.i64 s28), V.lit (Value.int IntKind.u64 s29), V.lit (Value.int IntKind.u64 s30), V.lit (Value.int IntKind.u64 s31), V.lit (Value.int IntKind.i64 s32)] :: V.lit (Value.int IntKind.i64 s27) :: V.lit (Value.bool s33) :: V.lit (Value.bool s33) :: uu :: uu :: uu :: uu :: V.lit (Value.int IntKind.i64 v2) :: V.agg [V.lit (Value.int IntKind.i64 s34), V.lit (Value.int IntKind.i64 s35), V.lit (Value.int IntKind.i64 s36), V.lit (Value.int IntKind.u64 s37), V.lit (Value.int IntKind.u64 s38), V.lit (Value.int IntKind.u64 s39), V.lit (Value.int IntKind.i64 s40)] :: V.lit (Value.bool v3) :: j48 :: j49 :: V.junk :: V.junk :: V.junk :: V.junk :: V.junk :: V.junk :: V.junk :: V.junk :: V.junk :: V.junk :: V.junk :: uu :: uu :: uu :: uu :: uu :: uu :: uu :: uu :: uu :: uu :: uu :: uu :: uu :: uu :: uu :: uu :: uu :: []), [B.box [V.lit (Value.int IntKind.i64 (↑v0.length : Int)), V.lit (Value.int IntKind.i64 (1 : Int)), V.lit (Value.int IntKind.i64 (1 : Int)), V.lit (Value.int IntKind.i64 (0 : Int))], B.box [V.lit (Value.int IntKind.i64 s41), V.lit (Value.int IntKind.i64 s42), V.lit (Value.int IntKind.i64 s43), V.lit (Value.int IntKind.u64 s44), V.lit (Value.int IntKind.u64 s45), V.lit (Value.int IntKind.u64 s46), V.lit (Value.int IntKind.i64 s47)]]⟩) = ob (g_poacherlaw16_EventMissed_L0 k v0 v1 v2 v3  n s11 s13 s41 s42 s43 s44 s45 s46 s47 s58) fun r => some ((.lit (.bool r)), []) := by
  intro n
  induction n with
  | zero => intros; rfl
  | succ n ih =>
    intro s11 s13 s41 s42 s43 s44 s45 s46 s47 s58 s9 s10 s12 s14 s15 s16 s17 s18 s19 s20 s21 s22 s23 s24 s25 s26 s27 s28 s29 s30 s31 s32 s33 s34 s35 s36 s37 s38 s39 s40 s59 j48 j49
    rw [g_poacherlaw16_EventMissed_L0]
    simp (maxSteps := 2000000) -implicitDefEqProofs only [xe16, xb16, xz16, xm16_0, xm16_1, xm16_2, xm16_3, xm16_4, xm16_5, xm16_6, xj16_7, xj16_8, xm16_9, xk16_0_ret, xk16_1_ret, xk16_2_ret, xk16_3_ret, xk16_4_ret, ↓syP, syA, rtN, pureL, V.pure, nsh, stBk, V.kill, killL, spl, V.shift, shiftL, V.scal, scalL, intR, boolR, threeV, Nat.reduceAdd, Nat.reduceSub, Nat.reduceMul, Nat.reduceLT, Nat.reduceLeDiff, Nat.reduceEqDiff, Nat.reduceBEq, Nat.reduceBNe, Int.reduceBEq, Int.reduceBNe, Int.reduceLT, Int.reduceLE, Int.reduceAdd, Int.reduceSub, Int.reduceNeg, syQ, confV, frameV, listV, xF, xcallV, xcallC, xcallL, xcallY, xevY, xY_ready, xrange, xG_fn, xR, xA, xcl50, xclk50, xcl83, xclk83, xrp84, xrq84, rtC_int, rtC_list, awk14', awk15', h_frame_Over, h_frame_Begin, h_wait_Step, h_note_Step, h_poacherlaw16_Few, h_event_Play, h_poacherlaw16_awake, xr16_0, ih]
    all_goals simp -implicitDefEqProofs only [List.map_nil]
def g_poacherlaw16_EventMissed (k : Nat) (v0 : (List (List Int))) (v1 : (List Int)) (v2 : Int) (v3 : Bool) : Option Bool :=
  ob (g_poacherlaw16_awake k) fun x79 =>
  ob (g_poacherlaw16_Few (k + (59 : Nat)) v0) fun x80 =>
  bif !x79 then
   some (x79)
  else
   bif !x80 then
    some (x79)
   else
    bif decide ((500 : Int) < (↑v1.length : Int)) then
     some (x79)
    else
     bif decide (v2 < (0 : Int)) then
      some (x79)
     else
      bif decide ((↑v0.length : Int) ≤ v2) then
       some (x79)
      else
       bif decide ((8 : Int) < (↑v0.length : Int)) then
        some (x79)
       else
        ob (g_event_Play (k + (20 : Nat)) v0 v1) fun x81 =>
        bif decide ((↑x81.snd.snd.length : Int) ≤ v2) then
         some (decide (v2 < (↑x81.snd.snd.length : Int)))
        else
         ob (idx x81.snd.snd v2) fun x82 =>
         bif x82.fst != (5 : Int) then
          some (decide (v2 < (↑x81.snd.snd.length : Int)))
         else
          ob (idx x81.snd.snd v2) fun x83 =>
          bif x83.snd.fst != (1 : Int) then
           some (decide (v2 < (↑x81.snd.snd.length : Int)))
          else
           ob (g_frame_Begin (6 : Int) v2 (0 : Int)) fun x84 =>
           bif v3 then
            ob (g_frame_Begin (7 : Int) v2 (0 : Int)) fun x85 =>
            g_poacherlaw16_EventMissed_L0 k v0 v1 v2 v3 (k + (60 : Nat)) (x81.fst) (x81.snd.snd) (x85.fst) (x85.snd.fst) (x85.snd.snd.fst) (x85.snd.snd.snd.fst) (x85.snd.snd.snd.snd.fst) (x85.snd.snd.snd.snd.snd.fst) (x85.snd.snd.snd.snd.snd.snd) ((0 : Int))
           else
            g_poacherlaw16_EventMissed_L0 k v0 v1 v2 v3 (k + (60 : Nat)) (x81.fst) (x81.snd.snd) (x84.fst) (x84.snd.fst) (x84.snd.snd.fst) (x84.snd.snd.snd.fst) (x84.snd.snd.snd.snd.fst) (x84.snd.snd.snd.snd.snd.fst) (x84.snd.snd.snd.snd.snd.snd) ((0 : Int))
theorem h_poacherlaw16_EventMissed (k : Nat) (v0 : (List (List Int))) (v1 : (List Int)) (v2 : Int) (v3 : Bool) : xC (k + 61) none 16 [(.ro (List.map listV v0)), (.ro (List.map (intR .i64) v1)), (.lit (.int .i64 v2)), (.lit (.bool v3))] = ob (g_poacherlaw16_EventMissed k v0 v1 v2 v3) fun r => some ((.lit (.bool r)), []) := by
  rw [xC_eq]
  unfold g_poacherlaw16_EventMissed
  simp (maxSteps := 2000000) -implicitDefEqProofs only [xe16, xb16, xz16, xm16_0, xm16_1, xm16_2, xm16_3, xm16_4, xm16_5, xm16_6, xj16_7, xj16_8, xm16_9, xk16_0_ret, xk16_1_ret, xk16_2_ret, xk16_3_ret, xk16_4_ret, ↓syP, syA, rtN, pureL, V.pure, nsh, stBk, V.kill, killL, spl, V.shift, shiftL, V.scal, scalL, intR, boolR, threeV, Nat.reduceAdd, Nat.reduceSub, Nat.reduceMul, Nat.reduceLT, Nat.reduceLeDiff, Nat.reduceEqDiff, Nat.reduceBEq, Nat.reduceBNe, Int.reduceBEq, Int.reduceBNe, Int.reduceLT, Int.reduceLE, Int.reduceAdd, Int.reduceSub, Int.reduceNeg, syQ, confV, frameV, listV, xF, xcallV, xcallC, xcallL, xcallY, xevY, xY_ready, xrange, xG_fn, xR, xA, xcl50, xclk50, xcl83, xclk83, xrp84, xrq84, rtC_int, rtC_list, awk14', awk15', h_frame_Begin, h_poacherlaw16_Few, h_event_Play, h_poacherlaw16_awake, g_poacherlaw16_EventMissed_L0_eq k v0 v1 v2 v3]
  all_goals simp -implicitDefEqProofs only [List.map_nil]
end Go.Ab
