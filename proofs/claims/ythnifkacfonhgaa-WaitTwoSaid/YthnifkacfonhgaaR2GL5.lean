/- Functions as they are walked: printed by Walk.lean. -/
import Derived.Test.YthnifkacfonhgaaR2GR
import Derived.Test.YthnifkacfonhgaaR2GN
import Derived.Test.YthnifkacfonhgaaR2Awk
import Derived.Test.YthnifkacfonhgaaR2BL5
set_option maxRecDepth 100000
set_option linter.unusedVariables false
set_option linter.unusedSimpArgs false
namespace Go.Ab
open Go.Proofs
def g_poacherlaw14_WaitTwo_L0 (k : Nat) (v0 : (Int × Int × Int × Int)) (v1 : (List Int)) (v2 : Int) (v3 : Int)  : Nat → List Int → Int → Int → Int → Int → Int → Int → Int → Int → Int → Int → Int → Int → Int → Int → Int → Option Bool
  | 0, _, _, _, _, _, _, _, _, _, _, _, _, _, _, _, _ => none
  | n + 1, s10, s42, s44, s45, s46, s47, s48, s49, s50, s51, s52, s53, s54, s55, s56, s57 =>
    bif decide (s42 < (12 : Int)) then
     ob (g_wait_Step (v0.1, v0.2.1, v0.2.2.1, v0.2.2.2) s10 (s44, s45, s46, s47, s48, s49, s50)) fun x86 =>
     ob (g_wait_Step (v0.1, v0.2.1, v0.2.2.1, v0.2.2.2) x86.fst (s51, s52, s53, s54, s55, s56, s57)) fun x87 =>
     g_poacherlaw14_WaitTwo_L0 k v0 v1 v2 v3  n (x87.fst) (IntKind.i64.wrap (s42 + (1 : Int))) (x86.snd.fst) (x86.snd.snd.fst) (x86.snd.snd.snd.fst) (x86.snd.snd.snd.snd.fst) (x86.snd.snd.snd.snd.snd.fst) (x86.snd.snd.snd.snd.snd.snd.fst) (x86.snd.snd.snd.snd.snd.snd.snd) (x87.snd.fst) (x87.snd.snd.fst) (x87.snd.snd.snd.fst) (x87.snd.snd.snd.snd.fst) (x87.snd.snd.snd.snd.snd.fst) (x87.snd.snd.snd.snd.snd.snd.fst) (x87.snd.snd.snd.snd.snd.snd.snd)
    else
     ob (g_wait_Parked (s44, s45, s46, s47, s48, s49, s50)) fun x88 =>
     bif x88 then
      ob (g_wait_Parked (s51, s52, s53, s54, s55, s56, s57)) fun x89 =>
      bif x89 then
       ob (g_wait_Waits (v0.1, v0.2.1, v0.2.2.1, v0.2.2.2) s10 v2) fun x90 =>
       bif x90 then
        ob (g_wait_Waits (v0.1, v0.2.1, v0.2.2.1, v0.2.2.2) s10 v3) fun x91 =>
        bif x91 then
         ob (g_cell_Load s10 (2 : Int)) fun x92 =>
         ob (g_word_Epoch x92) fun x93 =>
         ob (g_cell_Load v1 (2 : Int)) fun x94 =>
         ob (g_word_Epoch x94) fun x95 =>
         some (x93 == x95)
        else
         some (false)
       else
        some (false)
      else
       some (false)
     else
      some (false)
theorem g_poacherlaw14_WaitTwo_L0_eq (k : Nat) (v0_0 : Int) (v0_1 : Int) (v0_2 : Int) (v0_3 : Int) (v1 : (List Int)) (v2 : Int) (v3 : Int) : ∀ (n : Nat) (s10 : List Int) (s42 : Int) (s44 : Int) (s45 : Int) (s46 : Int) (s47 : Int) (s48 : Int) (s49 : Int) (s50 : Int) (s51 : Int) (s52 : Int) (s53 : Int) (s54 : Int) (s55 : Int) (s56 : Int) (s57 : Int) ⦃s11 : Int⦄ ⦃s12 : Int⦄ ⦃s13 : Int⦄ ⦃s14 : Int⦄ ⦃s15 : Int⦄ ⦃s16 : Int⦄ ⦃s17 : Int⦄ ⦃s18 : Int⦄ ⦃s19 : Int⦄ ⦃s20 : Int⦄ ⦃s21 : Int⦄ ⦃s22 : Int⦄ ⦃s23 : Int⦄ ⦃s24 : Int⦄ ⦃s25 : Bool⦄ ⦃s26 : Bool⦄ ⦃s27 : Bool⦄ ⦃s28 : Bool⦄ ⦃s29 : Int⦄ ⦃s30 : List Int⦄ ⦃s31 : Int⦄ ⦃s43 : List Int⦄, rt none (itX (xX (xS (k + (60 : Nat))) (5 : Nat) (0 : Nat) (k + (60 : Nat)) false) xl5_0 ((3 : Nat)) (runK (xX (xS (k + (60 : Nat))) (5 : Nat) (0 : Nat) (k + (60 : Nat)) false) (bodyK (xS (k + (60 : Nat))).P Try.f5) xk5_1) n ⟨(V.agg [V.lit (Value.int IntKind.i64 v0_0), V.lit (Value.int IntKind.i64 v0_1), V.lit (Value.int IntKind.i64 v0_2), V.lit (Value.int IntKind.i64 v0_3)] :: V.ro (List.map (intR IntKind.u64) v1) :: V.lit (Value.int IntKind.i64 v2) :: V.lit (Value.int IntKind.i64 v3) :: V.ptr (0 : Nat) (0 : Nat) (0 : Nat) (0 : Nat) :: uu :: uu :: uu :: V.lit (Value.bool false) :: V.lit (Value.bool true) :: V.ptr (1 : Nat) (0 : Nat) (0 : Nat) (0 : Nat) :: V.ptr (2 : Nat) (0 : Nat) (0 : Nat) (0 : Nat) :: V.ro (List.map (intR IntKind.u64) s10) :: V.lit (Value.int IntKind.i64 s42) :: V.lit (Value.bool true) :: V.lit (Value.int IntKind.i64 v2) :: V.agg [V.lit (Value.int IntKind.i64 s11), V.lit (Value.int IntKind.i64 s12), V.lit (Value.int IntKind.i64 s13), V.lit (Value.int IntKind.u64 s14), V.lit (Value.int IntKind.u64 s15), V.lit (Value.int IntKind.u64 s16), V.lit (Value.int IntKind.i64 s17)] :: V.lit (Value.int IntKind.i64 v3) :: V.agg [V.lit (Value.int IntKind.i64 s18), V.lit (Value.int IntKind.i64 s19), V.lit (Value.int IntKind.i64 s20), V.lit (Value.int IntKind.u64 s21), V.lit (Value.int IntKind.u64 s22), V.lit (Value.int IntKind.u64 s23), V.lit (Value.int IntKind.i64 s24)] :: V.lit (Value.bool true) :: V.lit (Value.bool false) :: V.lit (Value.bool false) :: V.ro (List.map (intR IntKind.u64) v1) :: V.lit (Value.int IntKind.i64 (↑v1.length : Int)) :: V.lit (Value.bool (decide ((500 : Int) < (↑v1.length : Int)))) :: V.lit (Value.bool (decide ((500 : Int) < (↑v1.length : Int)))) :: V.lit (Value.bool false) :: V.lit (Value.int IntKind.i64 v3) :: V.lit (Value.int IntKind.i64 v2) :: V.lit (Value.bool (v3 == v2)) :: V.lit (Value.bool (v3 == v2)) :: V.lit (Value.bool false) :: V.agg [V.lit (Value.int IntKind.i64 v0_0), V.lit (Value.int IntKind.i64 v0_1), V.lit (Value.int IntKind.i64 v0_2), V.lit (Value.int IntKind.i64 v0_3)] :: V.ro (List.map (intR IntKind.u64) v1) :: V.agg [V.lit (Value.int IntKind.i64 s11), V.lit (Value.int IntKind.i64 s12), V.lit (Value.int IntKind.i64 s13), V.lit (Value.int IntKind.u64 s14), V.lit (Value.int IntKind.u64 s15), V.lit (Value.int IntKind.u64 s16), V.lit (Value.int IntKind.i64 s17)] :: V.lit (Value.bool s25) :: V.lit (Value.bool s26) :: V.lit (Value.bool s26) :: V.lit (Value.bool false) :: V.agg [V.lit (Value.int IntKind.i64 v0_0), V.lit (Value.int IntKind.i64 v0_1), V.lit (Value.int IntKind.i64 v0_2), V.lit (Value.int IntKind.i64 v0_3)] :: V.ro (List.map (intR IntKind.u64) v1) :: V.agg [V.lit (Value.int IntKind.i64 s18), V.lit (Value.int IntKind.i64 s19), V.lit (Value.int IntKind.i64 s20), V.lit (Value.int IntKind.u64 s21), V.lit (Value.int IntKind.u64 s22), V.lit (Value.int IntKind.u64 s23), V.lit (Value.int IntKind.i64 s24)] :: V.lit (Value.bool s27) :: V.lit (Value.bool s28) :: V.lit (Value.bool s28) :: uu :: V.ro (List.map (intR IntKind.u64) v1) :: V.agg [V.lit (Value.int IntKind.i64 v0_0), V.lit (Value.int IntKind.i64 v0_1), V.lit (Value.int IntKind.i64 v0_2), V.lit (Value.int IntKind.i64 v0_3)] :: V.lit (Value.int IntKind.i64 v2) :: V.lit (Value.int IntKind.i64 s29) :: V.ro (List.map (intR IntKind.u64) s30) :: V.agg [V.lit (Value.int IntKind.i64 v0_0), V.lit (Value.int IntKind.i64 v0_1), V.lit (Value.int IntKind.i64 v0_2), V.lit (Value.int IntKind.i64 v0_3)] :: V.lit (Value.int IntKind.i64 v3) :: V.lit (Value.int IntKind.i64 s31) :: V.ro (List.map (intR IntKind.u64) s43) :: V.junk :: V.junk :: V.junk :: V.junk :: V.junk :: V.junk :: V.junk :: V.junk :: V.junk :: V.junk :: V.junk :: V.junk :: V.junk :: V.junk :: V.junk :: V.junk :: V.junk :: V.junk :: uu :: uu :: uu :: uu :: uu :: uu :: uu :: uu :: uu :: uu :: uu :: uu :: uu :: uu :: uu :: uu :: uu :: uu :: uu :: uu :: uu :: uu :: uu :: uu :: uu :: uu :: uu :: []), [B.box [V.lit (Value.int IntKind.i64 v0_0), V.lit (Value.int IntKind.i64 v0_1), V.lit (Value.int IntKind.i64 v0_2), V.lit (Value.int IntKind.i64 v0_3)], B.box [V.lit (Value.int IntKind.i64 s44), V.lit (Value.int IntKind.i64 s45), V.lit (Value.int IntKind.i64 s46), V.lit (Value.int IntKind.u64 s47), V.lit (Value.int IntKind.u64 s48), V.lit (Value.int IntKind.u64 s49), V.lit (Value.int IntKind.i64 s50)], B.box [V.lit (Value.int IntKind.i64 s51), V.lit (Value.int IntKind.i64 s52), V.lit (Value.int IntKind.i64 s53), V.lit (Value.int IntKind.u64 s54), V.lit (Value.int IntKind.u64 s55), V.lit (Value.int IntKind.u64 s56), V.lit (Value.int IntKind.i64 s57)]]⟩) = ob (g_poacherlaw14_WaitTwo_L0 k (v0_0, v0_1, v0_2, v0_3) v1 v2 v3  n s10 s42 s44 s45 s46 s47 s48 s49 s50 s51 s52 s53 s54 s55 s56 s57) fun r => some ((.lit (.bool r)), []) := by
  intro n
  induction n with
  | zero => intros; rfl
  | succ n ih =>
    intro s10 s42 s44 s45 s46 s47 s48 s49 s50 s51 s52 s53 s54 s55 s56 s57 s11 s12 s13 s14 s15 s16 s17 s18 s19 s20 s21 s22 s23 s24 s25 s26 s27 s28 s29 s30 s31 s43
    rw [g_poacherlaw14_WaitTwo_L0]
    simp (maxSteps := 2000000) -implicitDefEqProofs only [xe5, xb5, xz5, xm5_0, xm5_1, xm5_2, xm5_3, xj5_4, xm5_5, xm5_6, xm5_7, xm5_8, xk5_0_ret, xk5_1_ret, xk5_2_ret, ↓syP, syA, rtN, pureL, V.pure, nsh, stBk, V.kill, killL, spl, V.shift, shiftL, V.scal, scalL, intR, boolR, threeV, Nat.reduceAdd, Nat.reduceSub, Nat.reduceMul, Nat.reduceLT, Nat.reduceLeDiff, Nat.reduceEqDiff, Nat.reduceBEq, Nat.reduceBNe, Int.reduceBEq, Int.reduceBNe, Int.reduceLT, Int.reduceLE, Int.reduceAdd, Int.reduceSub, Int.reduceNeg, syQ, confV, frameV, listV, xF, xcallV, xcallC, xcallL, xcallY, xevY, xY_ready, xrange, xG_fn, xR, xA, xcl50, xclk50, xcl83, xclk83, awk14', awk15', h_push_Goes, h_lay_Park, h_cell_Store, h_cell_Load, h_word_Epoch, h_frame_Begin, h_wait_Parked, h_wait_Waits, h_wait_Step, xr5_0, ih]
    all_goals simp -implicitDefEqProofs only [List.map_nil]
def g_poacherlaw14_WaitTwo (k : Nat) (v0 : (Int × Int × Int × Int)) (v1 : (List Int)) (v2 : Int) (v3 : Int) : Option Bool :=
  ob (g_frame_Begin (5 : Int) v2 (0 : Int)) fun x96 =>
  ob (g_frame_Begin (5 : Int) v3 (0 : Int)) fun x97 =>
  bif decide ((500 : Int) < (↑v1.length : Int)) then
   some (true)
  else
   bif v3 == v2 then
    some (true)
   else
    ob (g_push_Goes (v0.1, v0.2.1, v0.2.2.1, v0.2.2.2) v1 (x96.fst, x96.snd.fst, x96.snd.snd.fst, x96.snd.snd.snd.fst, x96.snd.snd.snd.snd.fst, x96.snd.snd.snd.snd.snd.fst, x96.snd.snd.snd.snd.snd.snd) (5 : Int) (5 : Int)) fun x98 =>
    bif !x98 then
     some (true)
    else
     ob (g_push_Goes (v0.1, v0.2.1, v0.2.2.1, v0.2.2.2) v1 (x97.fst, x97.snd.fst, x97.snd.snd.fst, x97.snd.snd.snd.fst, x97.snd.snd.snd.snd.fst, x97.snd.snd.snd.snd.snd.fst, x97.snd.snd.snd.snd.snd.snd) (5 : Int) (5 : Int)) fun x99 =>
     bif !x99 then
      some (true)
     else
      ob (g_lay_Park (v0.1, v0.2.1, v0.2.2.1, v0.2.2.2) v2) fun x100 =>
      ob (g_cell_Store v1 x100 (0 : Int)) fun x101 =>
      ob (g_lay_Park (v0.1, v0.2.1, v0.2.2.1, v0.2.2.2) v3) fun x102 =>
      ob (g_cell_Store x101 x102 (0 : Int)) fun x103 =>
      g_poacherlaw14_WaitTwo_L0 k v0 v1 v2 v3 (k + (60 : Nat)) (x103) ((0 : Int)) (x96.fst) (x96.snd.fst) (x96.snd.snd.fst) (x96.snd.snd.snd.fst) (x96.snd.snd.snd.snd.fst) (x96.snd.snd.snd.snd.snd.fst) (x96.snd.snd.snd.snd.snd.snd) (x97.fst) (x97.snd.fst) (x97.snd.snd.fst) (x97.snd.snd.snd.fst) (x97.snd.snd.snd.snd.fst) (x97.snd.snd.snd.snd.snd.fst) (x97.snd.snd.snd.snd.snd.snd)
theorem h_poacherlaw14_WaitTwo (k : Nat) (v0_0 : Int) (v0_1 : Int) (v0_2 : Int) (v0_3 : Int) (v1 : (List Int)) (v2 : Int) (v3 : Int) : xC (k + 61) none 5 [(.agg [(.lit (.int .i64 v0_0)), (.lit (.int .i64 v0_1)), (.lit (.int .i64 v0_2)), (.lit (.int .i64 v0_3))]), (.ro (List.map (intR .u64) v1)), (.lit (.int .i64 v2)), (.lit (.int .i64 v3))] = ob (g_poacherlaw14_WaitTwo k (v0_0, v0_1, v0_2, v0_3) v1 v2 v3) fun r => some ((.lit (.bool r)), []) := by
  rw [xC_eq]
  unfold g_poacherlaw14_WaitTwo
  simp (maxSteps := 2000000) -implicitDefEqProofs only [xe5, xb5, xz5, xm5_0, xm5_1, xm5_2, xm5_3, xj5_4, xm5_5, xm5_6, xm5_7, xm5_8, xk5_0_ret, xk5_1_ret, xk5_2_ret, ↓syP, syA, rtN, pureL, V.pure, nsh, stBk, V.kill, killL, spl, V.shift, shiftL, V.scal, scalL, intR, boolR, threeV, Nat.reduceAdd, Nat.reduceSub, Nat.reduceMul, Nat.reduceLT, Nat.reduceLeDiff, Nat.reduceEqDiff, Nat.reduceBEq, Nat.reduceBNe, Int.reduceBEq, Int.reduceBNe, Int.reduceLT, Int.reduceLE, Int.reduceAdd, Int.reduceSub, Int.reduceNeg, syQ, confV, frameV, listV, xF, xcallV, xcallC, xcallL, xcallY, xevY, xY_ready, xrange, xG_fn, xR, xA, xcl50, xclk50, xcl83, xclk83, awk14', awk15', h_push_Goes, h_lay_Park, h_cell_Store, h_frame_Begin, g_poacherlaw14_WaitTwo_L0_eq k v0_0 v0_1 v0_2 v0_3 v1 v2 v3]
  all_goals simp -implicitDefEqProofs only [List.map_nil]
end Go.Ab
