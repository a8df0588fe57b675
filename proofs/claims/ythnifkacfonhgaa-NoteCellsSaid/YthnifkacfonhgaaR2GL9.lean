/- Functions as they are walked: printed by Walk.lean. -/
import Derived.Test.YthnifkacfonhgaaR2GN
import Derived.Test.YthnifkacfonhgaaR2Awk
import Derived.Test.YthnifkacfonhgaaR2BL9
set_option maxRecDepth 100000
set_option linter.unusedVariables false
set_option linter.unusedSimpArgs false
namespace Go.Ab
open Go.Proofs
def g_poacherlaw15_NoteCells_L1 (k : Nat) (v0 : (Int × Int × Int × Int)) (v1 : (List Int)) (v2 : (Int × Int × Int × Int × Int × Int × Int))  : Nat → List Int → Int → Int → Bool → Int → Option Bool
  | 0, _, _, _, _, _ => none
  | n + 1, s21, s38, s39, s41, s42 =>
    bif decide (s42 < (8 : Int)) then
     bif s41 then
      g_poacherlaw15_NoteCells_L1 k v0 v1 v2  n (s21) (s38) (s39) (true) (IntKind.i64.wrap (s42 + (1 : Int)))
     else
      ob (g_lay_Park (v0.1, v0.2.1, v0.2.2.1, v0.2.2.2) s42) fun x69 =>
      g_poacherlaw15_NoteCells_L1 k v0 v1 v2  n (s21) (s38) (s39) (s39 == x69) (IntKind.i64.wrap (s42 + (1 : Int)))
    else
     bif s38 == (0 : Int) then
      some (true)
     else
      bif s38 == (1 : Int) then
       bif v2.2.1 == (1 : Int) then
        bif s39 == (2 : Int) then
         ob (idx s21 s39) fun x70 =>
         ob (g_word_Epoch x70) fun x71 =>
         ob (idx v1 s39) fun x72 =>
         ob (g_word_Epoch x72) fun x73 =>
         bif x71 == (IntKind.u64.wrap (x73 + (1 : Int))).tmod (281474976710656 : Int) then
          some (true)
         else
          bif v2.2.1 == (2 : Int) then
           bif s41 then
            ob (idx s21 s39) fun x74 =>
            some (x74 == (1 : Int))
           else
            some (false)
          else
           some (false)
        else
         bif v2.2.1 == (2 : Int) then
          bif s41 then
           ob (idx s21 s39) fun x75 =>
           some (x75 == (1 : Int))
          else
           some (false)
         else
          some (false)
       else
        bif v2.2.1 == (2 : Int) then
         bif s41 then
          ob (idx s21 s39) fun x76 =>
          some (x76 == (1 : Int))
         else
          some (false)
        else
         some (false)
      else
       some (false)
theorem g_poacherlaw15_NoteCells_L1_eq (k : Nat) (v0_0 : Int) (v0_1 : Int) (v0_2 : Int) (v0_3 : Int) (v1 : (List Int)) (v2_0 : Int) (v2_1 : Int) (v2_2 : Int) (v2_3 : Int) (v2_4 : Int) (v2_5 : Int) (v2_6 : Int) : ∀ (n : Nat) (s21 : List Int) (s38 : Int) (s39 : Int) (s41 : Bool) (s42 : Int) ⦃s22 : Int⦄ ⦃s23 : Int⦄ ⦃s24 : Int⦄ ⦃s25 : Int⦄ ⦃s26 : Int⦄ ⦃s27 : Int⦄ ⦃s28 : Int⦄ ⦃s29 : Int⦄ ⦃s30 : Bool⦄ ⦃s31 : Bool⦄ ⦃s32 : Bool⦄ ⦃s40 : Int⦄, rt none (itX (xX (xS (k + (60 : Nat))) (9 : Nat) (0 : Nat) (k + (60 : Nat)) false) xl9_1 ((3 : Nat)) (runK (xX (xS (k + (60 : Nat))) (9 : Nat) (0 : Nat) (k + (60 : Nat)) false) (bodyK (xS (k + (60 : Nat))).P Try.f9) xk9_4) n ⟨(V.agg [V.lit (Value.int IntKind.i64 v0_0), V.lit (Value.int IntKind.i64 v0_1), V.lit (Value.int IntKind.i64 v0_2), V.lit (Value.int IntKind.i64 v0_3)] :: V.ro (List.map (intR IntKind.u64) v1) :: V.agg [V.lit (Value.int IntKind.i64 v2_0), V.lit (Value.int IntKind.i64 v2_1), V.lit (Value.int IntKind.i64 v2_2), V.lit (Value.int IntKind.u64 v2_3), V.lit (Value.int IntKind.u64 v2_4), V.lit (Value.int IntKind.u64 v2_5), V.lit (Value.int IntKind.i64 v2_6)] :: V.ptr (0 : Nat) (0 : Nat) (0 : Nat) (0 : Nat) :: uu :: V.ptr (1 : Nat) (0 : Nat) (0 : Nat) (0 : Nat) :: V.lit (Value.bool false) :: V.lit (Value.bool true) :: V.ro (List.map (intR IntKind.u64) s21) :: V.ptr (2 : Nat) (0 : Nat) (0 : Nat) (0 : Nat) :: V.lit (Value.int IntKind.i64 s38) :: V.lit (Value.int IntKind.i64 s39) :: V.lit (Value.int IntKind.i64 s40) :: V.lit (Value.bool s41) :: V.lit (Value.int IntKind.i64 s42) :: V.lit (Value.bool true) :: V.lit (Value.bool true) :: V.lit (Value.bool false) :: V.lit (Value.bool false) :: V.ro (List.map (intR IntKind.u64) v1) :: V.lit (Value.int IntKind.i64 (↑v1.length : Int)) :: V.lit (Value.bool (decide ((500 : Int) < (↑v1.length : Int)))) :: V.lit (Value.bool (decide ((500 : Int) < (↑v1.length : Int)))) :: uu :: V.tup [V.ro (List.map (intR IntKind.u64) s21), V.agg [V.lit (Value.int IntKind.i64 s22), V.lit (Value.int IntKind.i64 s23), V.lit (Value.int IntKind.i64 s24), V.lit (Value.int IntKind.u64 s25), V.lit (Value.int IntKind.u64 s26), V.lit (Value.int IntKind.u64 s27), V.lit (Value.int IntKind.i64 s28)]] :: V.agg [V.lit (Value.int IntKind.i64 v0_0), V.lit (Value.int IntKind.i64 v0_1), V.lit (Value.int IntKind.i64 v0_2), V.lit (Value.int IntKind.i64 v0_3)] :: V.ro (List.map (intR IntKind.u64) v1) :: V.agg [V.lit (Value.int IntKind.i64 v2_0), V.lit (Value.int IntKind.i64 v2_1), V.lit (Value.int IntKind.i64 v2_2), V.lit (Value.int IntKind.u64 v2_3), V.lit (Value.int IntKind.u64 v2_4), V.lit (Value.int IntKind.u64 v2_5), V.lit (Value.int IntKind.i64 v2_6)] :: V.tup [V.ro (List.map (intR IntKind.u64) s21), V.agg [V.lit (Value.int IntKind.i64 s22), V.lit (Value.int IntKind.i64 s23), V.lit (Value.int IntKind.i64 s24), V.lit (Value.int IntKind.u64 s25), V.lit (Value.int IntKind.u64 s26), V.lit (Value.int IntKind.u64 s27), V.lit (Value.int IntKind.i64 s28)]] :: V.ro (List.map (intR IntKind.u64) s21) :: V.agg [V.lit (Value.int IntKind.i64 s22), V.lit (Value.int IntKind.i64 s23), V.lit (Value.int IntKind.i64 s24), V.lit (Value.int IntKind.u64 s25), V.lit (Value.int IntKind.u64 s26), V.lit (Value.int IntKind.u64 s27), V.lit (Value.int IntKind.i64 s28)] :: V.ro (List.map (intR IntKind.u64) s21) :: V.lit (Value.int IntKind.i64 s29) :: V.ro (List.map (intR IntKind.u64) v1) :: V.lit (Value.int IntKind.i64 (↑v1.length : Int)) :: V.lit (Value.bool s30) :: V.junk :: V.junk :: V.junk :: V.junk :: V.junk :: V.junk :: V.junk :: V.junk :: V.junk :: V.junk :: V.junk :: V.junk :: V.junk :: V.junk :: V.junk :: V.junk :: V.junk :: V.junk :: V.agg [V.lit (Value.int IntKind.i64 v0_0), V.lit (Value.int IntKind.i64 v0_1), V.lit (Value.int IntKind.i64 v0_2), V.lit (Value.int IntKind.i64 v0_3)] :: V.ro (List.map (intR IntKind.u64) v1) :: V.agg [V.lit (Value.int IntKind.i64 v2_0), V.lit (Value.int IntKind.i64 v2_1), V.lit (Value.int IntKind.i64 v2_2), V.lit (Value.int IntKind.u64 v2_3), V.lit (Value.int IntKind.u64 v2_4), V.lit (Value.int IntKind.u64 v2_5), V.lit (Value.int IntKind.i64 v2_6)] :: V.lit (Value.bool s31) :: V.lit (Value.bool s32) :: uu :: uu :: uu :: uu :: uu :: uu :: uu :: V.junk :: V.junk :: V.junk :: V.junk :: V.junk :: V.junk :: V.junk :: V.junk :: V.junk :: V.junk :: V.junk :: V.junk :: uu :: uu :: uu :: uu :: uu :: uu :: uu :: uu :: uu :: uu :: uu :: uu :: uu :: uu :: uu :: uu :: uu :: uu :: uu :: uu :: uu :: uu :: uu :: uu :: uu :: uu :: uu :: uu :: uu :: uu :: uu :: uu :: uu :: uu :: uu :: uu :: uu :: uu :: uu :: uu :: uu :: uu :: uu :: uu :: uu :: []), [B.box [V.lit (Value.int IntKind.i64 v0_0), V.lit (Value.int IntKind.i64 v0_1), V.lit (Value.int IntKind.i64 v0_2), V.lit (Value.int IntKind.i64 v0_3)], B.box [V.lit (Value.int IntKind.i64 v2_0), V.lit (Value.int IntKind.i64 v2_1), V.lit (Value.int IntKind.i64 v2_2), V.lit (Value.int IntKind.u64 v2_3), V.lit (Value.int IntKind.u64 v2_4), V.lit (Value.int IntKind.u64 v2_5), V.lit (Value.int IntKind.i64 v2_6)], B.box [V.lit (Value.int IntKind.i64 s22), V.lit (Value.int IntKind.i64 s23), V.lit (Value.int IntKind.i64 s24), V.lit (Value.int IntKind.u64 s25), V.lit (Value.int IntKind.u64 s26), V.lit (Value.int IntKind.u64 s27), V.lit (Value.int IntKind.i64 s28)]]⟩) = ob (g_poacherlaw15_NoteCells_L1 k (v0_0, v0_1, v0_2, v0_3) v1 (v2_0, v2_1, v2_2, v2_3, v2_4, v2_5, v2_6)  n s21 s38 s39 s41 s42) fun r => some ((.lit (.bool r)), []) := by
  intro n
  induction n with
  | zero => intros; rfl
  | succ n ih =>
    intro s21 s38 s39 s41 s42 s22 s23 s24 s25 s26 s27 s28 s29 s30 s31 s32 s40
    rw [g_poacherlaw15_NoteCells_L1]
    simp (maxSteps := 2000000) -implicitDefEqProofs only [xe9, xb9, xz9, xm9_0, xj9_1, xj9_2, xm9_3, xj9_4, xm9_5, xm9_6, xm9_7, xm9_8, xm9_9, xm9_10, xm9_11, xm9_12, xm9_13, xm9_14, xm9_15, xm9_16, xm9_17, xm9_18, xm9_19, xm9_20, xm9_21, xm9_22, xm9_23, xm9_24, xm9_25, xm9_26, xm9_27, xm9_28, xm9_29, xm9_30, xm9_31, xm9_32, xm9_33, xm9_34, xm9_35, xm9_36, xm9_37, xm9_38, xm9_39, xm9_40, xm9_41, xm9_42, xm9_43, xm9_44, xk9_0_ret, xk9_1_ret, xk9_2_ret, xk9_3_ret, xk9_4_ret, xk9_5_ret, xk9_6_ret, ↓syP, syA, rtN, pureL, V.pure, nsh, stBk, V.kill, killL, spl, V.shift, shiftL, V.scal, scalL, intR, boolR, threeV, Nat.reduceAdd, Nat.reduceSub, Nat.reduceMul, Nat.reduceLT, Nat.reduceLeDiff, Nat.reduceEqDiff, Nat.reduceBEq, Nat.reduceBNe, Int.reduceBEq, Int.reduceBNe, Int.reduceLT, Int.reduceLE, Int.reduceAdd, Int.reduceSub, Int.reduceNeg, syQ, confV, frameV, listV, xF, xcallV, xcallC, xcallL, xcallY, xevY, xY_ready, xrange, xG_fn, xR, xA, xcl50, xclk50, xcl83, xclk83, awk14', awk15', h_lay_Park, h_word_Epoch, h_note_Goes, h_note_Step, xr9_1, ih]
    all_goals simp -implicitDefEqProofs only [List.map_nil]
def g_poacherlaw15_NoteCells_L0 (k : Nat) (v0 : (Int × Int × Int × Int)) (v1 : (List Int)) (v2 : (Int × Int × Int × Int × Int × Int × Int))  : Nat → List Int → Int → Int → Int → Int → Int → Int → Int → Int → Int → Int → Option Bool
  | 0, _, _, _, _, _, _, _, _, _, _, _ => none
  | n + 1, s3, s4, s5, s6, s7, s8, s9, s10, s17, s18, s19 =>
    bif decide (s19 < (↑v1.length : Int)) then
     ob (idx s3 s19) fun x58 =>
     ob (idx v1 s19) fun x59 =>
     bif x58 != x59 then
      g_poacherlaw15_NoteCells_L0 k v0 v1 v2  n (s3) (s4) (s5) (s6) (s7) (s8) (s9) (s10) (IntKind.i64.wrap (s17 + (1 : Int))) (s19) (IntKind.i64.wrap (s19 + (1 : Int)))
     else
      g_poacherlaw15_NoteCells_L0 k v0 v1 v2  n (s3) (s4) (s5) (s6) (s7) (s8) (s9) (s10) (s17) (s18) (IntKind.i64.wrap (s19 + (1 : Int)))
    else
     ob (g_note_Goes (v0.1, v0.2.1, v0.2.2.1, v0.2.2.2) v1 (v2.1, v2.2.1, v2.2.2.1, v2.2.2.2.1, v2.2.2.2.2.1, v2.2.2.2.2.2.1, v2.2.2.2.2.2.2)) fun x60 =>
     bif !x60 then
      bif s17 == (0 : Int) then
       some (s4 == v2.1 && (s5 == v2.2.1 && (s6 == v2.2.2.1 && (s7 == v2.2.2.2.1 && (s8 == v2.2.2.2.2.1 && (s9 == v2.2.2.2.2.2.1 && s10 == v2.2.2.2.2.2.2))))))
      else
       some (false)
     else
      g_poacherlaw15_NoteCells_L1 k v0 v1 v2 (k + (60 : Nat)) (s3) (s17) (s18) (false) ((0 : Int))
theorem g_poacherlaw15_NoteCells_L0_eq (k : Nat) (v0_0 : Int) (v0_1 : Int) (v0_2 : Int) (v0_3 : Int) (v1 : (List Int)) (v2_0 : Int) (v2_1 : Int) (v2_2 : Int) (v2_3 : Int) (v2_4 : Int) (v2_5 : Int) (v2_6 : Int) : ∀ (n : Nat) (s3 : List Int) (s4 : Int) (s5 : Int) (s6 : Int) (s7 : Int) (s8 : Int) (s9 : Int) (s10 : Int) (s17 : Int) (s18 : Int) (s19 : Int) ⦃s11 : Int⦄ ⦃s12 : Bool⦄, rt none (itX (xX (xS (k + (60 : Nat))) (9 : Nat) (0 : Nat) (k + (60 : Nat)) false) xl9_0 ((3 : Nat)) (runK (xX (xS (k + (60 : Nat))) (9 : Nat) (0 : Nat) (k + (60 : Nat)) false) (bodyK (xS (k + (60 : Nat))).P Try.f9) xk9_1) n ⟨(V.agg [V.lit (Value.int IntKind.i64 v0_0), V.lit (Value.int IntKind.i64 v0_1), V.lit (Value.int IntKind.i64 v0_2), V.lit (Value.int IntKind.i64 v0_3)] :: V.ro (List.map (intR IntKind.u64) v1) :: V.agg [V.lit (Value.int IntKind.i64 v2_0), V.lit (Value.int IntKind.i64 v2_1), V.lit (Value.int IntKind.i64 v2_2), V.lit (Value.int IntKind.u64 v2_3), V.lit (Value.int IntKind.u64 v2_4), V.lit (Value.int IntKind.u64 v2_5), V.lit (Value.int IntKind.i64 v2_6)] :: V.ptr (0 : Nat) (0 : Nat) (0 : Nat) (0 : Nat) :: uu :: V.ptr (1 : Nat) (0 : Nat) (0 : Nat) (0 : Nat) :: V.lit (Value.bool false) :: V.lit (Value.bool true) :: V.ro (List.map (intR IntKind.u64) s3) :: V.ptr (2 : Nat) (0 : Nat) (0 : Nat) (0 : Nat) :: V.lit (Value.int IntKind.i64 s17) :: V.lit (Value.int IntKind.i64 s18) :: V.lit (Value.int IntKind.i64 s19) :: uu :: uu :: V.lit (Value.bool true) :: V.lit (Value.bool true) :: V.lit (Value.bool false) :: V.lit (Value.bool false) :: V.ro (List.map (intR IntKind.u64) v1) :: V.lit (Value.int IntKind.i64 (↑v1.length : Int)) :: V.lit (Value.bool (decide ((500 : Int) < (↑v1.length : Int)))) :: V.lit (Value.bool (decide ((500 : Int) < (↑v1.length : Int)))) :: uu :: V.tup [V.ro (List.map (intR IntKind.u64) s3), V.agg [V.lit (Value.int IntKind.i64 s4), V.lit (Value.int IntKind.i64 s5), V.lit (Value.int IntKind.i64 s6), V.lit (Value.int IntKind.u64 s7), V.lit (Value.int IntKind.u64 s8), V.lit (Value.int IntKind.u64 s9), V.lit (Value.int IntKind.i64 s10)]] :: V.agg [V.lit (Value.int IntKind.i64 v0_0), V.lit (Value.int IntKind.i64 v0_1), V.lit (Value.int IntKind.i64 v0_2), V.lit (Value.int IntKind.i64 v0_3)] :: V.ro (List.map (intR IntKind.u64) v1) :: V.agg [V.lit (Value.int IntKind.i64 v2_0), V.lit (Value.int IntKind.i64 v2_1), V.lit (Value.int IntKind.i64 v2_2), V.lit (Value.int IntKind.u64 v2_3), V.lit (Value.int IntKind.u64 v2_4), V.lit (Value.int IntKind.u64 v2_5), V.lit (Value.int IntKind.i64 v2_6)] :: V.tup [V.ro (List.map (intR IntKind.u64) s3), V.agg [V.lit (Value.int IntKind.i64 s4), V.lit (Value.int IntKind.i64 s5), V.lit (Value.int IntKind.i64 s6), V.lit (Value.int IntKind.u64 s7), V.lit (Value.int IntKind.u64 s8), V.lit (Value.int IntKind.u64 s9), V.lit (Value.int IntKind.i64 s10)]] :: V.ro (List.map (intR IntKind.u64) s3) :: V.agg [V.lit (Value.int IntKind.i64 s4), V.lit (Value.int IntKind.i64 s5), V.lit (Value.int IntKind.i64 s6), V.lit (Value.int IntKind.u64 s7), V.lit (Value.int IntKind.u64 s8), V.lit (Value.int IntKind.u64 s9), V.lit (Value.int IntKind.i64 s10)] :: V.ro (List.map (intR IntKind.u64) s3) :: V.lit (Value.int IntKind.i64 s11) :: V.ro (List.map (intR IntKind.u64) v1) :: V.lit (Value.int IntKind.i64 (↑v1.length : Int)) :: V.lit (Value.bool s12) :: V.junk :: V.junk :: V.junk :: V.junk :: V.junk :: V.junk :: V.junk :: V.junk :: V.junk :: V.junk :: V.junk :: V.junk :: V.junk :: V.junk :: V.junk :: V.junk :: V.junk :: V.junk :: uu :: uu :: uu :: uu :: uu :: uu :: uu :: uu :: uu :: uu :: uu :: uu :: uu :: uu :: uu :: uu :: uu :: uu :: uu :: uu :: uu :: uu :: uu :: uu :: uu :: uu :: uu :: uu :: uu :: uu :: uu :: uu :: uu :: uu :: uu :: uu :: uu :: uu :: uu :: uu :: uu :: uu :: uu :: uu :: uu :: uu :: uu :: uu :: uu :: uu :: uu :: uu :: uu :: uu :: uu :: uu :: uu :: uu :: uu :: uu :: uu :: uu :: uu :: uu :: uu :: uu :: uu :: uu :: uu :: []), [B.box [V.lit (Value.int IntKind.i64 v0_0), V.lit (Value.int IntKind.i64 v0_1), V.lit (Value.int IntKind.i64 v0_2), V.lit (Value.int IntKind.i64 v0_3)], B.box [V.lit (Value.int IntKind.i64 v2_0), V.lit (Value.int IntKind.i64 v2_1), V.lit (Value.int IntKind.i64 v2_2), V.lit (Value.int IntKind.u64 v2_3), V.lit (Value.int IntKind.u64 v2_4), V.lit (Value.int IntKind.u64 v2_5), V.lit (Value.int IntKind.i64 v2_6)], B.box [V.lit (Value.int IntKind.i64 s4), V.lit (Value.int IntKind.i64 s5), V.lit (Value.int IntKind.i64 s6), V.lit (Value.int IntKind.u64 s7), V.lit (Value.int IntKind.u64 s8), V.lit (Value.int IntKind.u64 s9), V.lit (Value.int IntKind.i64 s10)]]⟩) = ob (g_poacherlaw15_NoteCells_L0 k (v0_0, v0_1, v0_2, v0_3) v1 (v2_0, v2_1, v2_2, v2_3, v2_4, v2_5, v2_6)  n s3 s4 s5 s6 s7 s8 s9 s10 s17 s18 s19) fun r => some ((.lit (.bool r)), []) := by
  intro n
  induction n with
  | zero => intros; rfl
  | succ n ih =>
    intro s3 s4 s5 s6 s7 s8 s9 s10 s17 s18 s19 s11 s12
    rw [g_poacherlaw15_NoteCells_L0]
    simp (maxSteps := 2000000) -implicitDefEqProofs only [xe9, xb9, xz9, xm9_0, xj9_1, xj9_2, xm9_3, xj9_4, xm9_5, xm9_6, xm9_7, xm9_8, xm9_9, xm9_10, xm9_11, xm9_12, xm9_13, xm9_14, xm9_15, xm9_16, xm9_17, xm9_18, xm9_19, xm9_20, xm9_21, xm9_22, xm9_23, xm9_24, xm9_25, xm9_26, xm9_27, xm9_28, xm9_29, xm9_30, xm9_31, xm9_32, xm9_33, xm9_34, xm9_35, xm9_36, xm9_37, xm9_38, xm9_39, xm9_40, xm9_41, xm9_42, xm9_43, xm9_44, xk9_0_ret, xk9_1_ret, xk9_2_ret, xk9_3_ret, xk9_4_ret, xk9_5_ret, xk9_6_ret, ↓syP, syA, rtN, pureL, V.pure, nsh, stBk, V.kill, killL, spl, V.shift, shiftL, V.scal, scalL, intR, boolR, threeV, Nat.reduceAdd, Nat.reduceSub, Nat.reduceMul, Nat.reduceLT, Nat.reduceLeDiff, Nat.reduceEqDiff, Nat.reduceBEq, Nat.reduceBNe, Int.reduceBEq, Int.reduceBNe, Int.reduceLT, Int.reduceLE, Int.reduceAdd, Int.reduceSub, Int.reduceNeg, syQ, confV, frameV, listV, xF, xcallV, xcallC, xcallL, xcallY, xevY, xY_ready, xrange, xG_fn, xR, xA, xcl50, xclk50, xcl83, xclk83, awk14', awk15', h_lay_Park, h_word_Epoch, h_note_Goes, h_note_Step, xr9_0, ih, g_poacherlaw15_NoteCells_L1_eq k v0_0 v0_1 v0_2 v0_3 v1 v2_0 v2_1 v2_2 v2_3 v2_4 v2_5 v2_6]
    all_goals simp -implicitDefEqProofs only [List.map_nil]
def g_poacherlaw15_NoteCells (k : Nat) (v0 : (Int × Int × Int × Int)) (v1 : (List Int)) (v2 : (Int × Int × Int × Int × Int × Int × Int)) : Option Bool :=
  bif decide ((500 : Int) < (↑v1.length : Int)) then
   some (true)
  else
   ob (g_note_Step (k + (44 : Nat)) (v0.1, v0.2.1, v0.2.2.1, v0.2.2.2) v1 (v2.1, v2.2.1, v2.2.2.1, v2.2.2.2.1, v2.2.2.2.2.1, v2.2.2.2.2.2.1, v2.2.2.2.2.2.2)) fun x77 =>
   bif (↑x77.fst.length : Int) != (↑v1.length : Int) then
    some (false)
   else
    g_poacherlaw15_NoteCells_L0 k v0 v1 v2 (k + (60 : Nat)) (x77.fst) (x77.snd.fst) (x77.snd.snd.fst) (x77.snd.snd.snd.fst) (x77.snd.snd.snd.snd.fst) (x77.snd.snd.snd.snd.snd.fst) (x77.snd.snd.snd.snd.snd.snd.fst) (x77.snd.snd.snd.snd.snd.snd.snd) ((0 : Int)) ((-1 : Int)) ((0 : Int))
theorem h_poacherlaw15_NoteCells (k : Nat) (v0_0 : Int) (v0_1 : Int) (v0_2 : Int) (v0_3 : Int) (v1 : (List Int)) (v2_0 : Int) (v2_1 : Int) (v2_2 : Int) (v2_3 : Int) (v2_4 : Int) (v2_5 : Int) (v2_6 : Int) : xC (k + 61) none 9 [(.agg [(.lit (.int .i64 v0_0)), (.lit (.int .i64 v0_1)), (.lit (.int .i64 v0_2)), (.lit (.int .i64 v0_3))]), (.ro (List.map (intR .u64) v1)), (.agg [(.lit (.int .i64 v2_0)), (.lit (.int .i64 v2_1)), (.lit (.int .i64 v2_2)), (.lit (.int .u64 v2_3)), (.lit (.int .u64 v2_4)), (.lit (.int .u64 v2_5)), (.lit (.int .i64 v2_6))])] = ob (g_poacherlaw15_NoteCells k (v0_0, v0_1, v0_2, v0_3) v1 (v2_0, v2_1, v2_2, v2_3, v2_4, v2_5, v2_6)) fun r => some ((.lit (.bool r)), []) := by
  rw [xC_eq]
  unfold g_poacherlaw15_NoteCells
  simp (maxSteps := 2000000) -implicitDefEqProofs only [xe9, xb9, xz9, xm9_0, xj9_1, xj9_2, xm9_3, xj9_4, xm9_5, xm9_6, xm9_7, xm9_8, xm9_9, xm9_10, xm9_11, xm9_12, xm9_13, xm9_14, xm9_15, xm9_16, xm9_17, xm9_18, xm9_19, xm9_20, xm9_21, xm9_22, xm9_23, xm9_24, xm9_25, xm9_26, xm9_27, xm9_28, xm9_29, xm9_30, xm9_31, xm9_32, xm9_33, xm9_34, xm9_35, xm9_36, xm9_37, xm9_38, xm9_39, xm9_40, xm9_41, xm9_42, xm9_43, xm9_44, xk9_0_ret, xk9_1_ret, xk9_2_ret, xk9_3_ret, xk9_4_ret, xk9_5_ret, xk9_6_ret, ↓syP, syA, rtN, pureL, V.pure, nsh, stBk, V.kill, killL, spl, V.shift, shiftL, V.scal, scalL, intR, boolR, threeV, Nat.reduceAdd, Nat.reduceSub, Nat.reduceMul, Nat.reduceLT, Nat.reduceLeDiff, Nat.reduceEqDiff, Nat.reduceBEq, Nat.reduceBNe, Int.reduceBEq, Int.reduceBNe, Int.reduceLT, Int.reduceLE, Int.reduceAdd, Int.reduceSub, Int.reduceNeg, syQ, confV, frameV, listV, xF, xcallV, xcallC, xcallL, xcallY, xevY, xY_ready, xrange, xG_fn, xR, xA, xcl50, xclk50, xcl83, xclk83, awk14', awk15', h_note_Step, g_poacherlaw15_NoteCells_L0_eq k v0_0 v0_1 v0_2 v0_3 v1 v2_0 v2_1 v2_2 v2_3 v2_4 v2_5 v2_6]
  all_goals simp -implicitDefEqProofs only [List.map_nil]
end Go.Ab
