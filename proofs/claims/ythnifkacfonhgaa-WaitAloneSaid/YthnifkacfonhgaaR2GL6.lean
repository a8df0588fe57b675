/- Functions as they are walked: printed by Walk.lean. -/
import Derived.Test.YthnifkacfonhgaaR2GR
import Derived.Test.YthnifkacfonhgaaR2GN
import Derived.Test.YthnifkacfonhgaaR2Awk
import Derived.Test.YthnifkacfonhgaaR2BL6
set_option maxRecDepth 100000
set_option linter.unusedVariables false
set_option linter.unusedSimpArgs false
namespace Go.Ab
open Go.Proofs
def g_poacherlaw14_WaitAlone_L0 (k : Nat) (v0 : (Int × Int × Int × Int)) (v1 : (List Int)) (v2 : Int) (v3 : Int)  : Nat → List Int → List Int → Int → Int → Int → Int → Int → Int → Int → Int → Option Bool
  | 0, _, _, _, _, _, _, _, _, _, _ => none
  | n + 1, s6, s22, s23, s24, s25, s26, s27, s28, s29, s30 =>
    bif decide (s23 < (3 : Int)) then
     ob (g_wait_Step (v0.1, v0.2.1, v0.2.2.1, v0.2.2.2) s22 (s24, s25, s26, s27, s28, s29, s30)) fun x93 =>
     g_poacherlaw14_WaitAlone_L0 k v0 v1 v2 v3  n (s6) (x93.fst) (IntKind.i64.wrap (s23 + (1 : Int))) (x93.snd.fst) (x93.snd.snd.fst) (x93.snd.snd.snd.fst) (x93.snd.snd.snd.snd.fst) (x93.snd.snd.snd.snd.snd.fst) (x93.snd.snd.snd.snd.snd.snd.fst) (x93.snd.snd.snd.snd.snd.snd.snd)
    else
     ob (g_cell_Load s22 (2 : Int)) fun x94 =>
     ob (g_word_Epoch x94) fun x95 =>
     ob (g_cell_Load s6 (2 : Int)) fun x96 =>
     ob (g_word_Epoch x96) fun x97 =>
     ob (g_wait_Step (v0.1, v0.2.1, v0.2.2.1, v0.2.2.2) s22 (s24, s25, s26, s27, s28, s29, s30)) fun x98 =>
     ob (g_wait_Parked (s24, s25, s26, s27, s28, s29, s30)) fun x99 =>
     bif x99 then
      ob (g_wait_Waits (v0.1, v0.2.1, v0.2.2.1, v0.2.2.2) s22 v2) fun x100 =>
      bif x100 then
       ob (g_wait_Parked (x98.snd.fst, x98.snd.snd.fst, x98.snd.snd.snd.fst, x98.snd.snd.snd.snd.fst, x98.snd.snd.snd.snd.snd.fst, x98.snd.snd.snd.snd.snd.snd.fst, x98.snd.snd.snd.snd.snd.snd.snd)) fun x101 =>
       bif x101 then
        ob (g_cell_Same (k + (59 : Nat)) x98.fst s22) fun x102 =>
        ob (g_lay_Park (v0.1, v0.2.1, v0.2.2.1, v0.2.2.2) v2) fun x103 =>
        ob (g_cell_Store x98.fst x103 v3) fun x104 =>
        ob (g_wait_Step (v0.1, v0.2.1, v0.2.2.1, v0.2.2.2) x104 (x98.snd.fst, x98.snd.snd.fst, x98.snd.snd.snd.fst, x98.snd.snd.snd.snd.fst, x98.snd.snd.snd.snd.snd.fst, x98.snd.snd.snd.snd.snd.snd.fst, x98.snd.snd.snd.snd.snd.snd.snd)) fun x105 =>
        ob (g_wait_Step (v0.1, v0.2.1, v0.2.2.1, v0.2.2.2) x105.fst (x105.snd.fst, x105.snd.snd.fst, x105.snd.snd.snd.fst, x105.snd.snd.snd.snd.fst, x105.snd.snd.snd.snd.snd.fst, x105.snd.snd.snd.snd.snd.snd.fst, x105.snd.snd.snd.snd.snd.snd.snd)) fun x106 =>
        bif x95 == x97 then
         bif x102 then
          bif x106.snd.snd.snd.snd.snd.snd.snd == (1 : Int) then
           ob (g_lay_Park (v0.1, v0.2.1, v0.2.2.1, v0.2.2.2) v2) fun x107 =>
           ob (g_cell_Load x106.fst x107) fun x108 =>
           bif x108 == (0 : Int) then
            ob (g_wait_Waits (v0.1, v0.2.1, v0.2.2.1, v0.2.2.2) x106.fst v2) fun x109 =>
            some (x109)
           else
            some (false)
          else
           some (false)
         else
          some (false)
        else
         some (false)
       else
        ob (g_lay_Park (v0.1, v0.2.1, v0.2.2.1, v0.2.2.2) v2) fun x110 =>
        ob (g_cell_Store x98.fst x110 v3) fun x111 =>
        ob (g_wait_Step (v0.1, v0.2.1, v0.2.2.1, v0.2.2.2) x111 (x98.snd.fst, x98.snd.snd.fst, x98.snd.snd.snd.fst, x98.snd.snd.snd.snd.fst, x98.snd.snd.snd.snd.snd.fst, x98.snd.snd.snd.snd.snd.snd.fst, x98.snd.snd.snd.snd.snd.snd.snd)) fun x112 =>
        ob (g_wait_Step (v0.1, v0.2.1, v0.2.2.1, v0.2.2.2) x112.fst (x112.snd.fst, x112.snd.snd.fst, x112.snd.snd.snd.fst, x112.snd.snd.snd.snd.fst, x112.snd.snd.snd.snd.snd.fst, x112.snd.snd.snd.snd.snd.snd.fst, x112.snd.snd.snd.snd.snd.snd.snd)) fun x113 =>
        bif x95 == x97 then
         some (false)
        else
         some (false)
      else
       ob (g_lay_Park (v0.1, v0.2.1, v0.2.2.1, v0.2.2.2) v2) fun x114 =>
       ob (g_cell_Store x98.fst x114 v3) fun x115 =>
       ob (g_wait_Step (v0.1, v0.2.1, v0.2.2.1, v0.2.2.2) x115 (x98.snd.fst, x98.snd.snd.fst, x98.snd.snd.snd.fst, x98.snd.snd.snd.snd.fst, x98.snd.snd.snd.snd.snd.fst, x98.snd.snd.snd.snd.snd.snd.fst, x98.snd.snd.snd.snd.snd.snd.snd)) fun x116 =>
       ob (g_wait_Step (v0.1, v0.2.1, v0.2.2.1, v0.2.2.2) x116.fst (x116.snd.fst, x116.snd.snd.fst, x116.snd.snd.snd.fst, x116.snd.snd.snd.snd.fst, x116.snd.snd.snd.snd.snd.fst, x116.snd.snd.snd.snd.snd.snd.fst, x116.snd.snd.snd.snd.snd.snd.snd)) fun x117 =>
       bif x95 == x97 then
        some (false)
       else
        some (false)
     else
      ob (g_lay_Park (v0.1, v0.2.1, v0.2.2.1, v0.2.2.2) v2) fun x118 =>
      ob (g_cell_Store x98.fst x118 v3) fun x119 =>
      ob (g_wait_Step (v0.1, v0.2.1, v0.2.2.1, v0.2.2.2) x119 (x98.snd.fst, x98.snd.snd.fst, x98.snd.snd.snd.fst, x98.snd.snd.snd.snd.fst, x98.snd.snd.snd.snd.snd.fst, x98.snd.snd.snd.snd.snd.snd.fst, x98.snd.snd.snd.snd.snd.snd.snd)) fun x120 =>
      ob (g_wait_Step (v0.1, v0.2.1, v0.2.2.1, v0.2.2.2) x120.fst (x120.snd.fst, x120.snd.snd.fst, x120.snd.snd.snd.fst, x120.snd.snd.snd.snd.fst, x120.snd.snd.snd.snd.snd.fst, x120.snd.snd.snd.snd.snd.snd.fst, x120.snd.snd.snd.snd.snd.snd.snd)) fun x121 =>
      bif x95 == x97 then
       some (false)
      else
       some (false)
theorem g_poacherlaw14_WaitAlone_L0_eq (k : Nat) (v0_0 : Int) (v0_1 : Int) (v0_2 : Int) (v0_3 : Int) (v1 : (List Int)) (v2 : Int) (v3 : Int) : ∀ (n : Nat) (s6 : List Int) (s22 : List Int) (s23 : Int) (s24 : Int) (s25 : Int) (s26 : Int) (s27 : Int) (s28 : Int) (s29 : Int) (s30 : Int) ⦃s7 : Int⦄ ⦃s8 : Int⦄ ⦃s9 : Int⦄ ⦃s10 : Int⦄ ⦃s11 : Int⦄ ⦃s12 : Int⦄ ⦃s13 : Int⦄ ⦃s14 : Bool⦄ ⦃s15 : Bool⦄ ⦃s16 : Int⦄, rt none (itX (xX (xS (k + (60 : Nat))) (6 : Nat) (0 : Nat) (k + (60 : Nat)) false) xl6_0 ((2 : Nat)) (runK (xX (xS (k + (60 : Nat))) (6 : Nat) (0 : Nat) (k + (60 : Nat)) false) (bodyK (xS (k + (60 : Nat))).P Try.f6) xk6_1) n ⟨(V.agg [V.lit (Value.int IntKind.i64 v0_0), V.lit (Value.int IntKind.i64 v0_1), V.lit (Value.int IntKind.i64 v0_2), V.lit (Value.int IntKind.i64 v0_3)] :: V.ro (List.map (intR IntKind.u64) s6) :: V.lit (Value.int IntKind.i64 v2) :: V.lit (Value.int IntKind.u64 v3) :: V.ptr (0 : Nat) (0 : Nat) (0 : Nat) (0 : Nat) :: uu :: uu :: uu :: V.lit (Value.bool false) :: V.lit (Value.bool true) :: V.ptr (1 : Nat) (0 : Nat) (0 : Nat) (0 : Nat) :: V.ro (List.map (intR IntKind.u64) s22) :: V.lit (Value.int IntKind.i64 s23) :: uu :: uu :: uu :: uu :: uu :: uu :: V.lit (Value.bool true) :: V.lit (Value.int IntKind.i64 v2) :: V.agg [V.lit (Value.int IntKind.i64 s7), V.lit (Value.int IntKind.i64 s8), V.lit (Value.int IntKind.i64 s9), V.lit (Value.int IntKind.u64 s10), V.lit (Value.int IntKind.u64 s11), V.lit (Value.int IntKind.u64 s12), V.lit (Value.int IntKind.i64 s13)] :: V.lit (Value.bool true) :: V.lit (Value.bool false) :: V.lit (Value.bool false) :: V.ro (List.map (intR IntKind.u64) v1) :: V.lit (Value.int IntKind.i64 (↑v1.length : Int)) :: V.lit (Value.bool (decide ((500 : Int) < (↑v1.length : Int)))) :: V.lit (Value.bool (decide ((500 : Int) < (↑v1.length : Int)))) :: V.lit (Value.bool false) :: V.agg [V.lit (Value.int IntKind.i64 v0_0), V.lit (Value.int IntKind.i64 v0_1), V.lit (Value.int IntKind.i64 v0_2), V.lit (Value.int IntKind.i64 v0_3)] :: V.ro (List.map (intR IntKind.u64) v1) :: V.agg [V.lit (Value.int IntKind.i64 s7), V.lit (Value.int IntKind.i64 s8), V.lit (Value.int IntKind.i64 s9), V.lit (Value.int IntKind.u64 s10), V.lit (Value.int IntKind.u64 s11), V.lit (Value.int IntKind.u64 s12), V.lit (Value.int IntKind.i64 s13)] :: V.lit (Value.bool s14) :: V.lit (Value.bool s15) :: V.lit (Value.bool s15) :: V.lit (Value.bool false) :: V.lit (Value.int IntKind.u64 v3) :: V.lit (Value.bool (v3 == (0 : Int))) :: V.lit (Value.bool (v3 == (0 : Int))) :: uu :: V.ro (List.map (intR IntKind.u64) v1) :: V.agg [V.lit (Value.int IntKind.i64 v0_0), V.lit (Value.int IntKind.i64 v0_1), V.lit (Value.int IntKind.i64 v0_2), V.lit (Value.int IntKind.i64 v0_3)] :: V.lit (Value.int IntKind.i64 v2) :: V.lit (Value.int IntKind.i64 s16) :: V.ro (List.map (intR IntKind.u64) s6) :: V.ro (List.map (intR IntKind.u64) s6) :: V.junk :: V.junk :: V.junk :: V.junk :: V.junk :: V.junk :: V.junk :: V.junk :: V.junk :: V.junk :: V.junk :: uu :: uu :: uu :: uu :: uu :: uu :: uu :: uu :: uu :: uu :: uu :: uu :: uu :: uu :: uu :: uu :: uu :: uu :: uu :: uu :: uu :: uu :: uu :: uu :: uu :: uu :: uu :: uu :: uu :: uu :: uu :: uu :: uu :: uu :: uu :: uu :: uu :: uu :: uu :: uu :: uu :: uu :: uu :: uu :: uu :: uu :: uu :: uu :: uu :: uu :: uu :: uu :: uu :: uu :: uu :: uu :: uu :: uu :: uu :: uu :: uu :: uu :: uu :: uu :: uu :: uu :: uu :: uu :: uu :: uu :: uu :: uu :: uu :: []), [B.box [V.lit (Value.int IntKind.i64 v0_0), V.lit (Value.int IntKind.i64 v0_1), V.lit (Value.int IntKind.i64 v0_2), V.lit (Value.int IntKind.i64 v0_3)], B.box [V.lit (Value.int IntKind.i64 s24), V.lit (Value.int IntKind.i64 s25), V.lit (Value.int IntKind.i64 s26), V.lit (Value.int IntKind.u64 s27), V.lit (Value.int IntKind.u64 s28), V.lit (Value.int IntKind.u64 s29), V.lit (Value.int IntKind.i64 s30)]]⟩) = ob (g_poacherlaw14_WaitAlone_L0 k (v0_0, v0_1, v0_2, v0_3) v1 v2 v3  n s6 s22 s23 s24 s25 s26 s27 s28 s29 s30) fun r => some ((.lit (.bool r)), []) := by
  intro n
  induction n with
  | zero => intros; rfl
  | succ n ih =>
    intro s6 s22 s23 s24 s25 s26 s27 s28 s29 s30 s7 s8 s9 s10 s11 s12 s13 s14 s15 s16
    rw [g_poacherlaw14_WaitAlone_L0]
    simp (maxSteps := 2000000) -implicitDefEqProofs only [xe6, xb6, xz6, xm6_0, xm6_1, xm6_2, xj6_3, xm6_4, xm6_5, xm6_6, xm6_7, xm6_8, xm6_9, xm6_10, xk6_0_ret, xk6_1_ret, xk6_2_ret, xk6_3_ret, ↓syP, syA, rtN, pureL, V.pure, nsh, stBk, V.kill, killL, spl, V.shift, shiftL, V.scal, scalL, intR, boolR, threeV, Nat.reduceAdd, Nat.reduceSub, Nat.reduceMul, Nat.reduceLT, Nat.reduceLeDiff, Nat.reduceEqDiff, Nat.reduceBEq, Nat.reduceBNe, Int.reduceBEq, Int.reduceBNe, Int.reduceLT, Int.reduceLE, Int.reduceAdd, Int.reduceSub, Int.reduceNeg, syQ, confV, frameV, listV, xF, xcallV, xcallC, xcallL, xcallY, xevY, xY_ready, xrange, xG_fn, xR, xA, xcl50, xclk50, xcl83, xclk83, awk14', awk15', h_push_Goes, h_lay_Park, h_cell_Store, h_cell_Load, h_cell_Same, h_word_Epoch, h_frame_Begin, h_wait_Parked, h_wait_Waits, h_wait_Step, xr6_0, ih]
    all_goals simp -implicitDefEqProofs only [List.map_nil]
def g_poacherlaw14_WaitAlone (k : Nat) (v0 : (Int × Int × Int × Int)) (v1 : (List Int)) (v2 : Int) (v3 : Int) : Option Bool :=
  ob (g_frame_Begin (5 : Int) v2 (0 : Int)) fun x122 =>
  bif decide ((500 : Int) < (↑v1.length : Int)) then
   some (true)
  else
   ob (g_push_Goes (v0.1, v0.2.1, v0.2.2.1, v0.2.2.2) v1 (x122.fst, x122.snd.fst, x122.snd.snd.fst, x122.snd.snd.snd.fst, x122.snd.snd.snd.snd.fst, x122.snd.snd.snd.snd.snd.fst, x122.snd.snd.snd.snd.snd.snd) (5 : Int) (5 : Int)) fun x123 =>
   bif !x123 then
    some (true)
   else
    bif v3 == (0 : Int) then
     some (true)
    else
     ob (g_lay_Park (v0.1, v0.2.1, v0.2.2.1, v0.2.2.2) v2) fun x124 =>
     ob (g_cell_Store v1 x124 (0 : Int)) fun x125 =>
     g_poacherlaw14_WaitAlone_L0 k v0 v1 v2 v3 (k + (60 : Nat)) (x125) (x125) ((0 : Int)) (x122.fst) (x122.snd.fst) (x122.snd.snd.fst) (x122.snd.snd.snd.fst) (x122.snd.snd.snd.snd.fst) (x122.snd.snd.snd.snd.snd.fst) (x122.snd.snd.snd.snd.snd.snd)
theorem h_poacherlaw14_WaitAlone (k : Nat) (v0_0 : Int) (v0_1 : Int) (v0_2 : Int) (v0_3 : Int) (v1 : (List Int)) (v2 : Int) (v3 : Int) : xC (k + 61) none 6 [(.agg [(.lit (.int .i64 v0_0)), (.lit (.int .i64 v0_1)), (.lit (.int .i64 v0_2)), (.lit (.int .i64 v0_3))]), (.ro (List.map (intR .u64) v1)), (.lit (.int .i64 v2)), (.lit (.int .u64 v3))] = ob (g_poacherlaw14_WaitAlone k (v0_0, v0_1, v0_2, v0_3) v1 v2 v3) fun r => some ((.lit (.bool r)), []) := by
  rw [xC_eq]
  unfold g_poacherlaw14_WaitAlone
  simp (maxSteps := 2000000) -implicitDefEqProofs only [xe6, xb6, xz6, xm6_0, xm6_1, xm6_2, xj6_3, xm6_4, xm6_5, xm6_6, xm6_7, xm6_8, xm6_9, xm6_10, xk6_0_ret, xk6_1_ret, xk6_2_ret, xk6_3_ret, ↓syP, syA, rtN, pureL, V.pure, nsh, stBk, V.kill, killL, spl, V.shift, shiftL, V.scal, scalL, intR, boolR, threeV, Nat.reduceAdd, Nat.reduceSub, Nat.reduceMul, Nat.reduceLT, Nat.reduceLeDiff, Nat.reduceEqDiff, Nat.reduceBEq, Nat.reduceBNe, Int.reduceBEq, Int.reduceBNe, Int.reduceLT, Int.reduceLE, Int.reduceAdd, Int.reduceSub, Int.reduceNeg, syQ, confV, frameV, listV, xF, xcallV, xcallC, xcallL, xcallY, xevY, xY_ready, xrange, xG_fn, xR, xA, xcl50, xclk50, xcl83, xclk83, awk14', awk15', h_push_Goes, h_lay_Park, h_cell_Store, h_frame_Begin, g_poacherlaw14_WaitAlone_L0_eq k v0_0 v0_1 v0_2 v0_3 v1 v2 v3]
  all_goals simp -implicitDefEqProofs only [List.map_nil]
end Go.Ab
