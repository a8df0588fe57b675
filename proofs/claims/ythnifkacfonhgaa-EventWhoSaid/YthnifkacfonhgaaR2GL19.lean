/- Functions as they are walked: printed by Walk.lean. -/
import Derived.Test.YthnifkacfonhgaaR2GPA
import Derived.Test.YthnifkacfonhgaaR2BL19
set_option linter.unusedVariables false
set_option linter.unusedSimpArgs false
set_option maxRecDepth 100000
set_option linter.unusedVariables false
set_option linter.unusedSimpArgs false
namespace Go.Ab
open Go.Proofs
def g_poacherlaw16_EventWho_L1 (k : Nat) (v0 : (List (List Int))) (v1 : (List Int)) (v2 : Int) (o0 : List (Int × Int × Int × Int × Int × Int × Int) → List (Int × Int × Int × Int × Int × Int × Int) → Int → Int → Option Bool) : Nat → List (Int × Int × Int × Int × Int × Int × Int) → List (Int × Int × Int × Int × Int × Int × Int) → Int → Int → Option Bool
  | 0, _, _, _, _ => none
  | n + 1, s25, s26, s67, s68 =>
    ob (idx v0 v2) fun x150 =>
    bif decide (s68 < (↑x150.length : Int)) then
     ob (idx v0 v2) fun x151 =>
     ob (idx x151 s68) fun x152 =>
     ob (idx s25 s67) fun x153 =>
     bif x152 != x153.fst then
      ob (idx v0 v2) fun x154 =>
      ob (idx x154 s68) fun x155 =>
      bif decide ((5 : Int) ≤ x155) then
       ob (idx v0 v2) fun x156 =>
       ob (idx x156 s68) fun x157 =>
       bif decide (x157 ≤ (7 : Int)) then
        some (false)
       else
        g_poacherlaw16_EventWho_L1 k v0 v1 v2 o0 n (s25) (s26) (s67) (IntKind.i64.wrap (s68 + (1 : Int)))
      else
       g_poacherlaw16_EventWho_L1 k v0 v1 v2 o0 n (s25) (s26) (s67) (IntKind.i64.wrap (s68 + (1 : Int)))
     else
      ob (idx v0 v2) fun x158 =>
      bif decide ((↑x158.length : Int) ≤ s68) then
       some (false)
      else
       ob (idx s25 s67) fun x159 =>
       ob (idx s25 s67) fun x160 =>
       bif x160.snd.snd.snd.snd.snd.snd != (1 : Int) then
        ob (idx s25 s67) fun x161 =>
        bif x161.snd.snd.snd.snd.snd.snd != (4 : Int) then
         ob (idx s25 s67) fun x162 =>
         bif x162.snd.snd.snd.snd.snd.snd != (3 : Int) then
          some (false)
         else
          bif x159.fst == (5 : Int) then
           some (false)
          else
           o0 (s25) (s26) (IntKind.i64.wrap (s67 + (1 : Int))) (IntKind.i64.wrap (s68 + (1 : Int)))
        else
         bif !x159.fst == (5 : Int) then
          ob (idx s25 s67) fun x163 =>
          bif x163.snd.snd.snd.snd.snd.snd != (3 : Int) then
           some (false)
          else
           bif x159.fst == (5 : Int) then
            some (false)
           else
            o0 (s25) (s26) (IntKind.i64.wrap (s67 + (1 : Int))) (IntKind.i64.wrap (s68 + (1 : Int)))
         else
          o0 (s25) (s26) (IntKind.i64.wrap (s67 + (1 : Int))) (IntKind.i64.wrap (s68 + (1 : Int)))
       else
        o0 (s25) (s26) (IntKind.i64.wrap (s67 + (1 : Int))) (IntKind.i64.wrap (s68 + (1 : Int)))
    else
     ob (idx v0 v2) fun x164 =>
     bif decide ((↑x164.length : Int) ≤ s68) then
      some (false)
     else
      ob (idx s25 s67) fun x165 =>
      ob (idx s25 s67) fun x166 =>
      bif x166.snd.snd.snd.snd.snd.snd != (1 : Int) then
       ob (idx s25 s67) fun x167 =>
       bif x167.snd.snd.snd.snd.snd.snd != (4 : Int) then
        ob (idx s25 s67) fun x168 =>
        bif x168.snd.snd.snd.snd.snd.snd != (3 : Int) then
         some (false)
        else
         bif x165.fst == (5 : Int) then
          some (false)
         else
          o0 (s25) (s26) (IntKind.i64.wrap (s67 + (1 : Int))) (IntKind.i64.wrap (s68 + (1 : Int)))
       else
        bif !x165.fst == (5 : Int) then
         ob (idx s25 s67) fun x169 =>
         bif x169.snd.snd.snd.snd.snd.snd != (3 : Int) then
          some (false)
         else
          bif x165.fst == (5 : Int) then
           some (false)
          else
           o0 (s25) (s26) (IntKind.i64.wrap (s67 + (1 : Int))) (IntKind.i64.wrap (s68 + (1 : Int)))
        else
         o0 (s25) (s26) (IntKind.i64.wrap (s67 + (1 : Int))) (IntKind.i64.wrap (s68 + (1 : Int)))
      else
       o0 (s25) (s26) (IntKind.i64.wrap (s67 + (1 : Int))) (IntKind.i64.wrap (s68 + (1 : Int)))
theorem g_poacherlaw16_EventWho_L1_eq (k : Nat) (v0 : (List (List Int))) (v1 : (List Int)) (v2 : Int) (n4 : Nat) (o0 : List (Int × Int × Int × Int × Int × Int × Int) → List (Int × Int × Int × Int × Int × Int × Int) → Int → Int → Option Bool) (ho0 : ∀ (s8 : List (Int × Int × Int × Int × Int × Int × Int)) (s9 : List (Int × Int × Int × Int × Int × Int × Int)) (s20 : Int) (s69 : Int) ⦃s5 : Bool⦄ ⦃s6 : Bool⦄ ⦃s7 : List Int⦄ ⦃s10 : Bool⦄ ⦃s11 : Bool⦄ ⦃s12 : Int⦄ ⦃s13 : Bool⦄ ⦃j70 : V⦄, rt none (itX (xX (xS (k + (60 : Nat))) (19 : Nat) (0 : Nat) (k + (60 : Nat)) false) xl19_0 ((0 : Nat)) (runK (xX (xS (k + (60 : Nat))) (19 : Nat) (0 : Nat) (k + (60 : Nat)) false) (bodyK (xS (k + (60 : Nat))).P Try.f19) xk19_1) n4 ⟨(V.ro (List.map listV v0) :: V.ro (List.map (intR IntKind.i64) v1) :: V.lit (Value.int IntKind.i64 v2) :: uu :: uu :: uu :: V.lit (Value.bool false) :: V.lit (Value.bool s5) :: V.lit (Value.bool s6) :: V.ro (List.map (intR IntKind.u64) s7) :: V.ro (List.map frameV s8) :: V.ro (List.map frameV s9) :: V.lit (Value.int IntKind.i64 s69) :: V.lit (Value.int IntKind.i64 s20) :: j70 :: V.lit (Value.bool s5) :: V.ro (List.map listV v0) :: V.lit (Value.bool s6) :: V.lit (Value.bool s5) :: V.lit (Value.bool s10) :: V.lit (Value.bool false) :: V.lit (Value.bool s6) :: V.lit (Value.bool s11) :: V.lit (Value.bool s11) :: V.lit (Value.bool false) :: V.ro (List.map (intR IntKind.i64) v1) :: V.lit (Value.int IntKind.i64 (↑v1.length : Int)) :: V.lit (Value.bool (decide ((500 : Int) < (↑v1.length : Int)))) :: V.lit (Value.bool (decide ((500 : Int) < (↑v1.length : Int)))) :: V.lit (Value.bool false) :: V.lit (Value.int IntKind.i64 v2) :: V.lit (Value.bool (decide (v2 < (0 : Int)))) :: V.lit (Value.bool (decide (v2 < (0 : Int)))) :: V.lit (Value.bool false) :: V.lit (Value.int IntKind.i64 v2) :: V.ro (List.map listV v0) :: V.lit (Value.int IntKind.i64 (↑v0.length : Int)) :: V.lit (Value.bool (decide ((↑v0.length : Int) ≤ v2))) :: V.lit (Value.bool (decide ((↑v0.length : Int) ≤ v2))) :: uu :: V.tup [V.ro (List.map (intR IntKind.u64) s7), V.ro (List.map frameV s8), V.ro (List.map frameV s9)] :: V.ro (List.map listV v0) :: V.ro (List.map (intR IntKind.i64) v1) :: V.tup [V.ro (List.map (intR IntKind.u64) s7), V.ro (List.map frameV s8), V.ro (List.map frameV s9)] :: V.ro (List.map (intR IntKind.u64) s7) :: V.ro (List.map frameV s8) :: V.ro (List.map frameV s9) :: V.lit (Value.int IntKind.i64 v2) :: V.ro (List.map frameV s9) :: V.lit (Value.int IntKind.i64 s12) :: V.lit (Value.bool s13) :: uu :: uu :: uu :: V.junk :: V.junk :: V.junk :: V.junk :: V.junk :: V.junk :: V.junk :: V.junk :: V.junk :: V.junk :: V.junk :: V.junk :: V.junk :: V.junk :: V.junk :: V.junk :: V.junk :: V.junk :: V.junk :: V.junk :: V.junk :: V.junk :: V.junk :: V.junk :: V.junk :: V.junk :: V.junk :: V.junk :: V.junk :: V.junk :: V.junk :: V.junk :: V.junk :: V.junk :: V.junk :: V.junk :: V.junk :: V.junk :: V.junk :: V.junk :: V.junk :: V.junk :: V.junk :: V.junk :: V.junk :: V.junk :: V.junk :: V.junk :: V.junk :: V.junk :: V.junk :: V.junk :: V.junk :: V.junk :: V.junk :: V.junk :: V.junk :: V.junk :: V.junk :: V.junk :: V.junk :: V.junk :: V.junk :: V.junk :: V.junk :: V.junk :: V.junk :: V.junk :: V.junk :: V.junk :: V.junk :: V.junk :: V.junk :: V.junk :: V.junk :: V.junk :: V.junk :: V.junk :: V.junk :: V.junk :: V.junk :: V.junk :: V.junk :: V.junk :: V.junk :: V.junk :: V.junk :: V.junk :: V.junk :: V.junk :: V.junk :: V.junk :: V.junk :: V.junk :: V.junk :: V.junk :: V.junk :: V.junk :: V.junk :: uu :: uu :: uu :: uu :: uu :: uu :: []), []⟩) = ob (o0 s8 s9 s20 s69) fun r => some ((.lit (.bool r)), [])) : ∀ (n : Nat) (s25 : List (Int × Int × Int × Int × Int × Int × Int)) (s26 : List (Int × Int × Int × Int × Int × Int × Int)) (s67 : Int) (s68 : Int) ⦃s22 : Bool⦄ ⦃s23 : Bool⦄ ⦃s24 : List Int⦄ ⦃s27 : Bool⦄ ⦃s28 : Bool⦄ ⦃s29 : Int⦄ ⦃s30 : Bool⦄ ⦃s31 : Int⦄ ⦃s32 : Bool⦄ ⦃s33 : Int⦄ ⦃s34 : Int⦄ ⦃s35 : Int⦄ ⦃s36 : Int⦄ ⦃s37 : Int⦄ ⦃s38 : Int⦄ ⦃s39 : Int⦄ ⦃s40 : Bool⦄ ⦃j97 : V⦄, rt none (itX (xX (xS (k + (60 : Nat))) (19 : Nat) (0 : Nat) (k + (60 : Nat)) false) xl19_1 ((0 : Nat)) (runK (xX (xS (k + (60 : Nat))) (19 : Nat) (0 : Nat) (k + (60 : Nat)) false) (nextK (xX (xS (k + (60 : Nat))) (19 : Nat) (0 : Nat) (k + (60 : Nat)) false) xl19_0 (0 : Nat) (runK (xX (xS (k + (60 : Nat))) (19 : Nat) (0 : Nat) (k + (60 : Nat)) false) (bodyK (xS (k + (60 : Nat))).P Try.f19) xk19_1) n4) xk19_2) n ⟨(V.ro (List.map listV v0) :: V.ro (List.map (intR IntKind.i64) v1) :: V.lit (Value.int IntKind.i64 v2) :: uu :: uu :: uu :: V.lit (Value.bool false) :: V.lit (Value.bool s22) :: V.lit (Value.bool s23) :: V.ro (List.map (intR IntKind.u64) s24) :: V.ro (List.map frameV s25) :: V.ro (List.map frameV s26) :: V.lit (Value.int IntKind.i64 s68) :: V.lit (Value.int IntKind.i64 s67) :: j97 :: V.lit (Value.bool s22) :: V.ro (List.map listV v0) :: V.lit (Value.bool s23) :: V.lit (Value.bool s22) :: V.lit (Value.bool s27) :: V.lit (Value.bool false) :: V.lit (Value.bool s23) :: V.lit (Value.bool s28) :: V.lit (Value.bool s28) :: V.lit (Value.bool false) :: V.ro (List.map (intR IntKind.i64) v1) :: V.lit (Value.int IntKind.i64 (↑v1.length : Int)) :: V.lit (Value.bool (decide ((500 : Int) < (↑v1.length : Int)))) :: V.lit (Value.bool (decide ((500 : Int) < (↑v1.length : Int)))) :: V.lit (Value.bool false) :: V.lit (Value.int IntKind.i64 v2) :: V.lit (Value.bool (decide (v2 < (0 : Int)))) :: V.lit (Value.bool (decide (v2 < (0 : Int)))) :: V.lit (Value.bool false) :: V.lit (Value.int IntKind.i64 v2) :: V.ro (List.map listV v0) :: V.lit (Value.int IntKind.i64 (↑v0.length : Int)) :: V.lit (Value.bool (decide ((↑v0.length : Int) ≤ v2))) :: V.lit (Value.bool (decide ((↑v0.length : Int) ≤ v2))) :: uu :: V.tup [V.ro (List.map (intR IntKind.u64) s24), V.ro (List.map frameV s25), V.ro (List.map frameV s26)] :: V.ro (List.map listV v0) :: V.ro (List.map (intR IntKind.i64) v1) :: V.tup [V.ro (List.map (intR IntKind.u64) s24), V.ro (List.map frameV s25), V.ro (List.map frameV s26)] :: V.ro (List.map (intR IntKind.u64) s24) :: V.ro (List.map frameV s25) :: V.ro (List.map frameV s26) :: V.lit (Value.int IntKind.i64 v2) :: V.ro (List.map frameV s26) :: V.lit (Value.int IntKind.i64 s29) :: V.lit (Value.bool s30) :: uu :: uu :: uu :: V.lit (Value.int IntKind.i64 s67) :: V.ro (List.map frameV s25) :: V.lit (Value.int IntKind.i64 s31) :: V.lit (Value.bool s32) :: V.junk :: V.junk :: V.ro (List.map frameV s25) :: V.lit (Value.int IntKind.i64 s67) :: V.rp [V.lit (Value.int IntKind.i64 s33), V.lit (Value.int IntKind.i64 s34), V.lit (Value.int IntKind.i64 s35), V.lit (Value.int IntKind.u64 s36), V.lit (Value.int IntKind.u64 s37), V.lit (Value.int IntKind.u64 s38), V.lit (Value.int IntKind.i64 s39)] :: V.rp [V.lit (Value.int IntKind.i64 s35), V.lit (Value.int IntKind.u64 s36), V.lit (Value.int IntKind.u64 s37), V.lit (Value.int IntKind.u64 s38), V.lit (Value.int IntKind.i64 s39)] :: V.lit (Value.int IntKind.i64 s35) :: V.lit (Value.int IntKind.i64 v2) :: V.lit (Value.bool s40) :: V.junk :: V.junk :: V.junk :: V.junk :: V.junk :: V.junk :: V.junk :: V.junk :: V.junk :: V.junk :: V.junk :: V.junk :: V.junk :: V.junk :: V.junk :: V.junk :: V.junk :: V.junk :: V.junk :: V.junk :: V.junk :: V.junk :: V.junk :: V.junk :: V.junk :: V.junk :: V.junk :: V.junk :: V.junk :: V.junk :: V.junk :: V.junk :: V.junk :: V.junk :: V.junk :: V.junk :: V.junk :: V.junk :: V.junk :: V.junk :: V.junk :: V.junk :: V.junk :: V.junk :: V.junk :: V.junk :: V.junk :: V.junk :: V.junk :: V.junk :: V.junk :: V.junk :: V.junk :: V.junk :: V.junk :: V.junk :: V.junk :: V.junk :: V.junk :: V.junk :: V.junk :: V.junk :: V.junk :: V.junk :: V.junk :: V.junk :: V.junk :: V.junk :: V.junk :: V.junk :: V.junk :: V.junk :: V.junk :: V.junk :: V.junk :: V.junk :: V.junk :: V.junk :: V.junk :: V.junk :: V.junk :: V.junk :: V.junk :: V.junk :: V.junk :: V.junk :: uu :: uu :: uu :: uu :: uu :: uu :: []), []⟩) = ob (g_poacherlaw16_EventWho_L1 k v0 v1 v2 o0 n s25 s26 s67 s68) fun r => some ((.lit (.bool r)), []) := by
  intro n
  induction n with
  | zero => intros; rfl
  | succ n ih =>
    intro s25 s26 s67 s68 s22 s23 s24 s27 s28 s29 s30 s31 s32 s33 s34 s35 s36 s37 s38 s39 s40 j97
    rw [g_poacherlaw16_EventWho_L1]
    simp (maxSteps := 2000000) -implicitDefEqProofs only [xe19, xb19, xz19, xm19_0, xm19_1, xm19_2, xm19_3, xj19_4, xj19_5, xm19_6, xm19_7, xm19_8, xm19_9, xm19_10, xm19_11, xm19_12, xm19_13, xm19_14, xk19_0_ret, xk19_1_ret, xk19_2_ret, xk19_3_ret, xk19_4_ret, xk19_5_ret, ↓syP, syA, rtN, pureL, V.pure, nsh, stBk, V.kill, killL, spl, V.shift, shiftL, V.scal, scalL, intR, boolR, threeV, Nat.reduceAdd, Nat.reduceSub, Nat.reduceMul, Nat.reduceLT, Nat.reduceLeDiff, Nat.reduceEqDiff, Nat.reduceBEq, Nat.reduceBNe, Int.reduceBEq, Int.reduceBNe, Int.reduceLT, Int.reduceLE, Int.reduceAdd, Int.reduceSub, Int.reduceNeg, syQ, confV, frameV, listV, xF, xcallV, xcallC, xcallL, xcallY, xevY, xY_ready, xrange, xG_fn, xR, xA, xcl50, xclk50, xcl83, xclk83, xrp84, xrq84, rtC_int, rtC_list, awk14', awk15', h_frame_Over, h_poacherlaw16_Few, h_event_Play, h_poacherlaw16_awake, xr19_1, ih, ho0]
    all_goals simp -implicitDefEqProofs only [List.map_nil]
def g_poacherlaw16_EventWho_L0 (k : Nat) (v0 : (List (List Int))) (v1 : (List Int)) (v2 : Int)  : Nat → List (Int × Int × Int × Int × Int × Int × Int) → List (Int × Int × Int × Int × Int × Int × Int) → Int → Int → Option Bool
  | 0, _, _, _, _ => none
  | n + 1, s8, s9, s20, s69 =>
    bif decide (s20 < (↑s8.length : Int)) then
     ob (idx s8 s20) fun x127 =>
     bif x127.snd.snd.fst != v2 then
      g_poacherlaw16_EventWho_L0 k v0 v1 v2  n (s8) (s9) (IntKind.i64.wrap (s20 + (1 : Int))) (s69)
     else
      g_poacherlaw16_EventWho_L1 k v0 v1 v2 (fun s8 s9 s20 s69 => g_poacherlaw16_EventWho_L0 k v0 v1 v2  n s8 s9 s20 s69) (k + (60 : Nat)) (s8) (s9) (s20) (s69)
    else
     ob (idx s9 v2) fun x128 =>
     ob (g_frame_Over (x128.fst, x128.snd.fst, x128.snd.snd.fst, x128.snd.snd.snd.fst, x128.snd.snd.snd.snd.fst, x128.snd.snd.snd.snd.snd.fst, x128.snd.snd.snd.snd.snd.snd)) fun x129 =>
     some (!x129)
theorem g_poacherlaw16_EventWho_L0_eq (k : Nat) (v0 : (List (List Int))) (v1 : (List Int)) (v2 : Int) : ∀ (n : Nat) (s8 : List (Int × Int × Int × Int × Int × Int × Int)) (s9 : List (Int × Int × Int × Int × Int × Int × Int)) (s20 : Int) (s69 : Int) ⦃s5 : Bool⦄ ⦃s6 : Bool⦄ ⦃s7 : List Int⦄ ⦃s10 : Bool⦄ ⦃s11 : Bool⦄ ⦃s12 : Int⦄ ⦃s13 : Bool⦄ ⦃j70 : V⦄, rt none (itX (xX (xS (k + (60 : Nat))) (19 : Nat) (0 : Nat) (k + (60 : Nat)) false) xl19_0 ((0 : Nat)) (runK (xX (xS (k + (60 : Nat))) (19 : Nat) (0 : Nat) (k + (60 : Nat)) false) (bodyK (xS (k + (60 : Nat))).P Try.f19) xk19_1) n ⟨(V.ro (List.map listV v0) :: V.ro (List.map (intR IntKind.i64) v1) :: V.lit (Value.int IntKind.i64 v2) :: uu :: uu :: uu :: V.lit (Value.bool false) :: V.lit (Value.bool s5) :: V.lit (Value.bool s6) :: V.ro (List.map (intR IntKind.u64) s7) :: V.ro (List.map frameV s8) :: V.ro (List.map frameV s9) :: V.lit (Value.int IntKind.i64 s69) :: V.lit (Value.int IntKind.i64 s20) :: j70 :: V.lit (Value.bool s5) :: V.ro (List.map listV v0) :: V.lit (Value.bool s6) :: V.lit (Value.bool s5) :: V.lit (Value.bool s10) :: V.lit (Value.bool false) :: V.lit (Value.bool s6) :: V.lit (Value.bool s11) :: V.lit (Value.bool s11) :: V.lit (Value.bool false) :: V.ro (List.map (intR IntKind.i64) v1) :: V.lit (Value.int IntKind.i64 (↑v1.length : Int)) :: V.lit (Value.bool (decide ((500 : Int) < (↑v1.length : Int)))) :: V.lit (Value.bool (decide ((500 : Int) < (↑v1.length : Int)))) :: V.lit (Value.bool false) :: V.lit (Value.int IntKind.i64 v2) :: V.lit (Value.bool (decide (v2 < (0 : Int)))) :: V.lit (Value.bool (decide (v2 < (0 : Int)))) :: V.lit (Value.bool false) :: V.lit (Value.int IntKind.i64 v2) :: V.ro (List.map listV v0) :: V.lit (Value.int IntKind.i64 (↑v0.length : Int)) :: V.lit (Value.bool (decide ((↑v0.length : Int) ≤ v2))) :: V.lit (Value.bool (decide ((↑v0.length : Int) ≤ v2))) :: uu :: V.tup [V.ro (List.map (intR IntKind.u64) s7), V.ro (List.map frameV s8), V.ro (List.map frameV s9)] :: V.ro (List.map listV v0) :: V.ro (List.map (intR IntKind.i64) v1) :: V.tup [V.ro (List.map (intR IntKind.u64) s7), V.ro (List.map frameV s8), V.ro (List.map frameV s9)] :: V.ro (List.map (intR IntKind.u64) s7) :: V.ro (List.map frameV s8) :: V.ro (List.map frameV s9) :: V.lit (Value.int IntKind.i64 v2) :: V.ro (List.map frameV s9) :: V.lit (Value.int IntKind.i64 s12) :: V.lit (Value.bool s13) :: uu :: uu :: uu :: V.junk :: V.junk :: V.junk :: V.junk :: V.junk :: V.junk :: V.junk :: V.junk :: V.junk :: V.junk :: V.junk :: V.junk :: V.junk :: V.junk :: V.junk :: V.junk :: V.junk :: V.junk :: V.junk :: V.junk :: V.junk :: V.junk :: V.junk :: V.junk :: V.junk :: V.junk :: V.junk :: V.junk :: V.junk :: V.junk :: V.junk :: V.junk :: V.junk :: V.junk :: V.junk :: V.junk :: V.junk :: V.junk :: V.junk :: V.junk :: V.junk :: V.junk :: V.junk :: V.junk :: V.junk :: V.junk :: V.junk :: V.junk :: V.junk :: V.junk :: V.junk :: V.junk :: V.junk :: V.junk :: V.junk :: V.junk :: V.junk :: V.junk :: V.junk :: V.junk :: V.junk :: V.junk :: V.junk :: V.junk :: V.junk :: V.junk :: V.junk :: V.junk :: V.junk :: V.junk :: V.junk :: V.junk :: V.junk :: V.junk :: V.junk :: V.junk :: V.junk :: V.junk :: V.junk :: V.junk :: V.junk :: V.junk :: V.junk :: V.junk :: V.junk :: V.junk :: V.junk :: V.junk :: V.junk :: V.junk :: V.junk :: V.junk :: V.junk :: V.junk :: V.junk :: V.junk :: V.junk :: V.junk :: V.junk :: uu :: uu :: uu :: uu :: uu :: uu :: []), []⟩) = ob (g_poacherlaw16_EventWho_L0 k v0 v1 v2  n s8 s9 s20 s69) fun r => some ((.lit (.bool r)), []) := by
  intro n
  induction n with
  | zero => intros; rfl
  | succ n ih =>
    intro s8 s9 s20 s69 s5 s6 s7 s10 s11 s12 s13 j70
    rw [g_poacherlaw16_EventWho_L0]
    simp (maxSteps := 2000000) -implicitDefEqProofs only [xe19, xb19, xz19, xm19_0, xm19_1, xm19_2, xm19_3, xj19_4, xj19_5, xm19_6, xm19_7, xm19_8, xm19_9, xm19_10, xm19_11, xm19_12, xm19_13, xm19_14, xk19_0_ret, xk19_1_ret, xk19_2_ret, xk19_3_ret, xk19_4_ret, xk19_5_ret, ↓syP, syA, rtN, pureL, V.pure, nsh, stBk, V.kill, killL, spl, V.shift, shiftL, V.scal, scalL, intR, boolR, threeV, Nat.reduceAdd, Nat.reduceSub, Nat.reduceMul, Nat.reduceLT, Nat.reduceLeDiff, Nat.reduceEqDiff, Nat.reduceBEq, Nat.reduceBNe, Int.reduceBEq, Int.reduceBNe, Int.reduceLT, Int.reduceLE, Int.reduceAdd, Int.reduceSub, Int.reduceNeg, syQ, confV, frameV, listV, xF, xcallV, xcallC, xcallL, xcallY, xevY, xY_ready, xrange, xG_fn, xR, xA, xcl50, xclk50, xcl83, xclk83, xrp84, xrq84, rtC_int, rtC_list, awk14', awk15', h_frame_Over, h_poacherlaw16_Few, h_event_Play, h_poacherlaw16_awake, xr19_0, ih, g_poacherlaw16_EventWho_L1_eq k v0 v1 v2 _ (fun s8 s9 s20 s69 => g_poacherlaw16_EventWho_L0 k v0 v1 v2  n s8 s9 s20 s69) ih]
    all_goals simp -implicitDefEqProofs only [List.map_nil]
def g_poacherlaw16_EventWho (k : Nat) (v0 : (List (List Int))) (v1 : (List Int)) (v2 : Int) : Option Bool :=
  ob (g_poacherlaw16_awake k) fun x170 =>
  ob (g_poacherlaw16_Few (k + (59 : Nat)) v0) fun x171 =>
  bif !x170 then
   some (x170)
  else
   bif !x171 then
    some (x170)
   else
    bif decide ((500 : Int) < (↑v1.length : Int)) then
     some (x170)
    else
     bif decide (v2 < (0 : Int)) then
      some (x170)
     else
      bif decide ((↑v0.length : Int) ≤ v2) then
       some (x170)
      else
       ob (g_event_Play (k + (20 : Nat)) v0 v1) fun x172 =>
       bif decide ((↑x172.snd.snd.length : Int) ≤ v2) then
        some ((↑x172.snd.fst.length : Int) == (0 : Int))
       else
        g_poacherlaw16_EventWho_L0 k v0 v1 v2 (k + (60 : Nat)) (x172.snd.fst) (x172.snd.snd) ((0 : Int)) ((0 : Int))
theorem h_poacherlaw16_EventWho (k : Nat) (v0 : (List (List Int))) (v1 : (List Int)) (v2 : Int) : xC (k + 61) none 19 [(.ro (List.map listV v0)), (.ro (List.map (intR .i64) v1)), (.lit (.int .i64 v2))] = ob (g_poacherlaw16_EventWho k v0 v1 v2) fun r => some ((.lit (.bool r)), []) := by
  rw [xC_eq]
  unfold g_poacherlaw16_EventWho
  simp (maxSteps := 2000000) -implicitDefEqProofs only [xe19, xb19, xz19, xm19_0, xm19_1, xm19_2, xm19_3, xj19_4, xj19_5, xm19_6, xm19_7, xm19_8, xm19_9, xm19_10, xm19_11, xm19_12, xm19_13, xm19_14, xk19_0_ret, xk19_1_ret, xk19_2_ret, xk19_3_ret, xk19_4_ret, xk19_5_ret, ↓syP, syA, rtN, pureL, V.pure, nsh, stBk, V.kill, killL, spl, V.shift, shiftL, V.scal, scalL, intR, boolR, threeV, Nat.reduceAdd, Nat.reduceSub, Nat.reduceMul, Nat.reduceLT, Nat.reduceLeDiff, Nat.reduceEqDiff, Nat.reduceBEq, Nat.reduceBNe, Int.reduceBEq, Int.reduceBNe, Int.reduceLT, Int.reduceLE, Int.reduceAdd, Int.reduceSub, Int.reduceNeg, syQ, confV, frameV, listV, xF, xcallV, xcallC, xcallL, xcallY, xevY, xY_ready, xrange, xG_fn, xR, xA, xcl50, xclk50, xcl83, xclk83, xrp84, xrq84, rtC_int, rtC_list, awk14', awk15', h_poacherlaw16_Few, h_event_Play, h_poacherlaw16_awake, g_poacherlaw16_EventWho_L0_eq k v0 v1 v2]
  all_goals simp -implicitDefEqProofs only [List.map_nil]
end Go.Ab
