/- Functions as they are walked: printed by Walk.lean. -/
import Derived.Test.YthnifkacfonhgaaR2GPA
import Derived.Test.YthnifkacfonhgaaR2BL15
set_option linter.unusedVariables false
set_option linter.unusedSimpArgs false
set_option maxRecDepth 100000
set_option linter.unusedVariables false
set_option linter.unusedSimpArgs false
namespace Go.Ab
open Go.Proofs
def g_poacherlaw16_EventWakes_L2 (k : Nat) (v0 : (List (List Int))) (v1 : (List Int)) (v2 : Int) (o0 : Int → Int → Int → Int → Int → Bool → Option Bool) : Nat → Int → Int → Int → Int → Bool → Int → Int → Option Bool
  | 0,_,_,_,_,_,_,_ => none
  | n + 1,s80,s81,s82,s83,s85,s86,s105 =>
    ob (idx v0 s105) fun x147 =>
    bif decide (s86 < (↑x147.length : Int)) then
     bif s85 then
      g_poacherlaw16_EventWakes_L2 k v0 v1 v2 o0 n (s80) (s81) (s82) (s83) (true) (IntKind.i64.wrap (s86 + (1 : Int))) (s105)
     else
      ob (idx v0 s105) fun x148 =>
      ob (idx x148 s86) fun x149 =>
      g_poacherlaw16_EventWakes_L2 k v0 v1 v2 o0 n (s80) (s81) (s82) (s83) (x149 == (7 : Int)) (IntKind.i64.wrap (s86 + (1 : Int))) (s105)
    else
     o0 (s80) (s81) (s82) (s83) (IntKind.i64.wrap (s105 + (1 : Int))) (s85)
theorem g_poacherlaw16_EventWakes_L2_eq (k : Nat) (v0 : (List (List Int))) (v1 : (List Int)) (v2 : Int) (n30 : Nat) (o0 : Int → Int → Int → Int → Int → Bool → Option Bool) (ho0 : ∀ (s51 : Int) (s52 : Int) (s53 : Int) (s54 : Int) (s87 : Int) (s107 : Bool) ⦃s31 : Bool⦄ ⦃s32 : Bool⦄ ⦃s33 : List Int⦄ ⦃s34 : List (Int × Int × Int × Int × Int × Int × Int)⦄ ⦃s35 : List (Int × Int × Int × Int × Int × Int × Int)⦄ ⦃s36 : Bool⦄ ⦃s37 : Bool⦄ ⦃s55 : Int⦄ ⦃j88 : V⦄,rt none (itX (xX (xS (k + (60 : Nat))) (15 : Nat) (0 : Nat) (k + (60 : Nat)) false) xl15_1 ((0 : Nat)) (runK (xX (xS (k + (60 : Nat))) (15 : Nat) (0 : Nat) (k + (60 : Nat)) false) (bodyK (xS (k + (60 : Nat))).P Try.f15) xk15_3) n30 ⟨(V.ro (List.map listV v0) :: V.ro (List.map (intR IntKind.i64) v1) :: V.lit (Value.int IntKind.i64 v2) :: uu :: uu :: uu :: V.lit (Value.bool false) :: V.lit (Value.bool s31) :: V.lit (Value.bool s32) :: V.ro (List.map (intR IntKind.u64) s33) :: V.ro (List.map frameV s34) :: V.ro (List.map frameV s35) :: V.lit (Value.int IntKind.i64 s51) :: V.lit (Value.int IntKind.i64 s52) :: V.lit (Value.int IntKind.i64 s53) :: V.lit (Value.int IntKind.i64 s54) :: V.lit (Value.int IntKind.i64 s55) :: V.lit (Value.bool s107) :: V.lit (Value.int IntKind.i64 s87) :: j88 :: V.lit (Value.bool s31) :: V.ro (List.map listV v0) :: V.lit (Value.bool s32) :: V.lit (Value.bool s31) :: V.lit (Value.bool s36) :: V.lit (Value.bool false) :: V.lit (Value.bool s32) :: V.lit (Value.bool s37) :: V.lit (Value.bool s37) :: V.lit (Value.bool false) :: V.ro (List.map (intR IntKind.i64) v1) :: V.lit (Value.int IntKind.i64 (↑v1.length : Int)) :: V.lit (Value.bool (decide ((500 : Int) < (↑v1.length : Int)))) :: V.lit (Value.bool (decide ((500 : Int) < (↑v1.length : Int)))) :: uu :: V.tup [V.ro (List.map (intR IntKind.u64) s33),V.ro (List.map frameV s34),V.ro (List.map frameV s35)] :: V.ro (List.map listV v0) :: V.ro (List.map (intR IntKind.i64) v1) :: V.tup [V.ro (List.map (intR IntKind.u64) s33),V.ro (List.map frameV s34),V.ro (List.map frameV s35)] :: V.ro (List.map (intR IntKind.u64) s33) :: V.ro (List.map frameV s34) :: V.ro (List.map frameV s35) :: V.junk :: V.junk :: V.junk :: V.junk :: V.junk :: V.junk :: V.junk :: V.junk :: V.junk :: V.junk :: V.junk :: V.junk :: V.junk :: V.junk :: V.junk :: V.junk :: V.junk :: V.junk :: V.junk :: V.junk :: V.junk :: V.junk :: V.junk :: V.junk :: V.junk :: V.junk :: V.junk :: V.junk :: V.junk :: V.junk :: V.junk :: V.junk :: V.junk :: V.junk :: V.junk :: V.junk :: V.junk :: V.junk :: V.junk :: V.junk :: V.junk :: V.junk :: V.junk :: V.junk :: V.junk :: V.junk :: V.junk :: V.junk :: V.junk :: V.junk :: V.junk :: V.junk :: V.junk :: V.junk :: V.junk :: V.junk :: V.junk :: V.junk :: V.junk :: V.junk :: V.junk :: V.junk :: V.junk :: V.junk :: V.junk :: V.junk :: V.junk :: V.junk :: V.junk :: V.junk :: V.junk :: V.junk :: V.junk :: V.junk :: V.junk :: V.junk :: V.junk :: V.junk :: V.junk :: uu :: uu :: uu :: uu :: uu :: uu :: uu :: uu :: uu :: uu :: uu :: uu :: uu :: uu :: uu :: uu :: uu :: uu :: uu :: uu :: uu :: uu :: uu :: uu :: uu :: []),[]⟩) = ob (o0 s51 s52 s53 s54 s87 s107) fun r => some ((.lit (.bool r)),[])) : ∀ (n : Nat) (s80 : Int) (s81 : Int) (s82 : Int) (s83 : Int) (s85 : Bool) (s86 : Int) (s105 : Int) ⦃s57 : Bool⦄ ⦃s58 : Bool⦄ ⦃s59 : List Int⦄ ⦃s60 : List (Int × Int × Int × Int × Int × Int × Int)⦄ ⦃s61 : List (Int × Int × Int × Int × Int × Int × Int)⦄ ⦃s62 : Bool⦄ ⦃s63 : Bool⦄ ⦃s84 : Int⦄ ⦃s106 : Bool⦄,rt none (itX (xX (xS (k + (60 : Nat))) (15 : Nat) (0 : Nat) (k + (60 : Nat)) false) xl15_2 ((0 : Nat)) (runK (xX (xS (k + (60 : Nat))) (15 : Nat) (0 : Nat) (k + (60 : Nat)) false) (nextK (xX (xS (k + (60 : Nat))) (15 : Nat) (0 : Nat) (k + (60 : Nat)) false) xl15_1 (0 : Nat) (runK (xX (xS (k + (60 : Nat))) (15 : Nat) (0 : Nat) (k + (60 : Nat)) false) (bodyK (xS (k + (60 : Nat))).P Try.f15) xk15_3) n30) xk15_5) n ⟨(V.ro (List.map listV v0) :: V.ro (List.map (intR IntKind.i64) v1) :: V.lit (Value.int IntKind.i64 v2) :: uu :: uu :: uu :: V.lit (Value.bool false) :: V.lit (Value.bool s57) :: V.lit (Value.bool s58) :: V.ro (List.map (intR IntKind.u64) s59) :: V.ro (List.map frameV s60) :: V.ro (List.map frameV s61) :: V.lit (Value.int IntKind.i64 s80) :: V.lit (Value.int IntKind.i64 s81) :: V.lit (Value.int IntKind.i64 s82) :: V.lit (Value.int IntKind.i64 s83) :: V.lit (Value.int IntKind.i64 s84) :: V.lit (Value.bool s85) :: V.lit (Value.int IntKind.i64 s105) :: V.lit (Value.int IntKind.i64 s86) :: V.lit (Value.bool s57) :: V.ro (List.map listV v0) :: V.lit (Value.bool s58) :: V.lit (Value.bool s57) :: V.lit (Value.bool s62) :: V.lit (Value.bool false) :: V.lit (Value.bool s58) :: V.lit (Value.bool s63) :: V.lit (Value.bool s63) :: V.lit (Value.bool false) :: V.ro (List.map (intR IntKind.i64) v1) :: V.lit (Value.int IntKind.i64 (↑v1.length : Int)) :: V.lit (Value.bool (decide ((500 : Int) < (↑v1.length : Int)))) :: V.lit (Value.bool (decide ((500 : Int) < (↑v1.length : Int)))) :: uu :: V.tup [V.ro (List.map (intR IntKind.u64) s59),V.ro (List.map frameV s60),V.ro (List.map frameV s61)] :: V.ro (List.map listV v0) :: V.ro (List.map (intR IntKind.i64) v1) :: V.tup [V.ro (List.map (intR IntKind.u64) s59),V.ro (List.map frameV s60),V.ro (List.map frameV s61)] :: V.ro (List.map (intR IntKind.u64) s59) :: V.ro (List.map frameV s60) :: V.ro (List.map frameV s61) :: V.junk :: V.junk :: V.junk :: V.junk :: V.junk :: V.junk :: V.junk :: V.junk :: V.junk :: V.junk :: V.junk :: V.junk :: V.junk :: V.junk :: V.junk :: V.junk :: V.junk :: V.junk :: V.junk :: V.junk :: V.junk :: V.junk :: V.junk :: V.junk :: V.junk :: V.junk :: V.junk :: V.junk :: V.junk :: V.junk :: V.junk :: V.junk :: V.junk :: V.junk :: V.junk :: V.junk :: V.junk :: V.junk :: V.junk :: V.junk :: V.junk :: V.junk :: V.junk :: V.junk :: V.junk :: V.junk :: V.junk :: V.junk :: V.junk :: V.junk :: V.junk :: V.junk :: V.junk :: V.lit (Value.int IntKind.i64 s105) :: V.ro (List.map listV v0) :: V.lit (Value.int IntKind.i64 (↑v0.length : Int)) :: V.lit (Value.bool s106) :: V.junk :: V.junk :: V.junk :: V.junk :: V.junk :: V.junk :: V.junk :: V.junk :: V.junk :: V.junk :: V.junk :: V.junk :: V.junk :: V.junk :: V.junk :: V.junk :: V.junk :: V.junk :: V.junk :: V.junk :: V.junk :: V.junk :: uu :: uu :: uu :: uu :: uu :: uu :: uu :: uu :: uu :: uu :: uu :: uu :: uu :: uu :: uu :: uu :: uu :: uu :: uu :: uu :: uu :: uu :: uu :: uu :: uu :: []),[]⟩) = ob (g_poacherlaw16_EventWakes_L2 k v0 v1 v2 o0 n s80 s81 s82 s83 s85 s86 s105) fun r => some ((.lit (.bool r)),[]) := by
  intro n
  induction n with
  | zero => intros; rfl
  | succ n ih =>
    intro s80 s81 s82 s83 s85 s86 s105 s57 s58 s59 s60 s61 s62 s63 s84 s106
    rw [g_poacherlaw16_EventWakes_L2]
    simp (maxSteps := 2000000) -implicitDefEqProofs only [xe15,xb15,xz15,xm15_0,xm15_1,xj15_2,xj15_3,xj15_4,xj15_5,xj15_6,xm15_7,xm15_8,xm15_9,xm15_10,xm15_11,xm15_12,xm15_13,xm15_14,xm15_15,xm15_16,xm15_17,xm15_18,xm15_19,xm15_20,xm15_21,xm15_22,xm15_23,xm15_24,xk15_0_ret,xk15_1_ret,xk15_2_ret,xk15_3_ret,xk15_4_ret,xk15_5_ret,xk15_6_ret,xk15_7_ret,↓syP,syA,rtN,pureL,V.pure,nsh,stBk,V.kill,killL,spl,V.shift,shiftL,V.scal,scalL,intR,boolR,threeV,Nat.reduceAdd,Nat.reduceSub,Nat.reduceMul,Nat.reduceLT,Nat.reduceLeDiff,Nat.reduceEqDiff,Nat.reduceBEq,Nat.reduceBNe,Int.reduceBEq,Int.reduceBNe,Int.reduceLT,Int.reduceLE,Int.reduceAdd,Int.reduceSub,Int.reduceNeg,syQ,confV,frameV,listV,xF,xcallV,xcallC,xcallL,xcallY,xevY,xY_ready,xrange,xG_fn,xR,xA,xcl50,xclk50,xcl83,xclk83,xrp84,xrq84,rtC_int,rtC_list,awk14',awk15',h_poacherlaw16_Few,h_event_Play,h_poacherlaw16_awake,xr15_2,ih,ho0]
    all_goals simp -implicitDefEqProofs only [List.map_nil]
def g_poacherlaw16_EventWakes_L1 (k : Nat) (v0 : (List (List Int))) (v1 : (List Int)) (v2 : Int)  : Nat → Int → Int → Int → Int → Int → Bool → Option Bool
  | 0,_,_,_,_,_,_ => none
  | n + 1,s51,s52,s53,s54,s87,s107 =>
    bif decide (s87 < (↑v0.length : Int)) then
     g_poacherlaw16_EventWakes_L2 k v0 v1 v2 (fun s51 s52 s53 s54 s87 s107 => g_poacherlaw16_EventWakes_L1 k v0 v1 v2  n s51 s52 s53 s54 s87 s107) (k + (60 : Nat)) (s51) (s52) (s53) (s54) (s107) ((0 : Int)) (s87)
    else
     bif s107 then
      some (true)
     else
      bif decide (s51 ≤ s52) then
       bif decide (s54 ≤ s53) then
        bif decide (s52 ≤ IntKind.i64.wrap (s51 + (↑v0.length : Int))) then
         some (decide (s53 ≤ IntKind.i64.wrap (s54 + (1 : Int))))
        else
         some (false)
       else
        some (false)
      else
       some (false)
theorem g_poacherlaw16_EventWakes_L1_eq (k : Nat) (v0 : (List (List Int))) (v1 : (List Int)) (v2 : Int) : ∀ (n : Nat) (s51 : Int) (s52 : Int) (s53 : Int) (s54 : Int) (s87 : Int) (s107 : Bool) ⦃s31 : Bool⦄ ⦃s32 : Bool⦄ ⦃s33 : List Int⦄ ⦃s34 : List (Int × Int × Int × Int × Int × Int × Int)⦄ ⦃s35 : List (Int × Int × Int × Int × Int × Int × Int)⦄ ⦃s36 : Bool⦄ ⦃s37 : Bool⦄ ⦃s55 : Int⦄ ⦃j88 : V⦄,rt none (itX (xX (xS (k + (60 : Nat))) (15 : Nat) (0 : Nat) (k + (60 : Nat)) false) xl15_1 ((0 : Nat)) (runK (xX (xS (k + (60 : Nat))) (15 : Nat) (0 : Nat) (k + (60 : Nat)) false) (bodyK (xS (k + (60 : Nat))).P Try.f15) xk15_3) n ⟨(V.ro (List.map listV v0) :: V.ro (List.map (intR IntKind.i64) v1) :: V.lit (Value.int IntKind.i64 v2) :: uu :: uu :: uu :: V.lit (Value.bool false) :: V.lit (Value.bool s31) :: V.lit (Value.bool s32) :: V.ro (List.map (intR IntKind.u64) s33) :: V.ro (List.map frameV s34) :: V.ro (List.map frameV s35) :: V.lit (Value.int IntKind.i64 s51) :: V.lit (Value.int IntKind.i64 s52) :: V.lit (Value.int IntKind.i64 s53) :: V.lit (Value.int IntKind.i64 s54) :: V.lit (Value.int IntKind.i64 s55) :: V.lit (Value.bool s107) :: V.lit (Value.int IntKind.i64 s87) :: j88 :: V.lit (Value.bool s31) :: V.ro (List.map listV v0) :: V.lit (Value.bool s32) :: V.lit (Value.bool s31) :: V.lit (Value.bool s36) :: V.lit (Value.bool false) :: V.lit (Value.bool s32) :: V.lit (Value.bool s37) :: V.lit (Value.bool s37) :: V.lit (Value.bool false) :: V.ro (List.map (intR IntKind.i64) v1) :: V.lit (Value.int IntKind.i64 (↑v1.length : Int)) :: V.lit (Value.bool (decide ((500 : Int) < (↑v1.length : Int)))) :: V.lit (Value.bool (decide ((500 : Int) < (↑v1.length : Int)))) :: uu :: V.tup [V.ro (List.map (intR IntKind.u64) s33),V.ro (List.map frameV s34),V.ro (List.map frameV s35)] :: V.ro (List.map listV v0) :: V.ro (List.map (intR IntKind.i64) v1) :: V.tup [V.ro (List.map (intR IntKind.u64) s33),V.ro (List.map frameV s34),V.ro (List.map frameV s35)] :: V.ro (List.map (intR IntKind.u64) s33) :: V.ro (List.map frameV s34) :: V.ro (List.map frameV s35) :: V.junk :: V.junk :: V.junk :: V.junk :: V.junk :: V.junk :: V.junk :: V.junk :: V.junk :: V.junk :: V.junk :: V.junk :: V.junk :: V.junk :: V.junk :: V.junk :: V.junk :: V.junk :: V.junk :: V.junk :: V.junk :: V.junk :: V.junk :: V.junk :: V.junk :: V.junk :: V.junk :: V.junk :: V.junk :: V.junk :: V.junk :: V.junk :: V.junk :: V.junk :: V.junk :: V.junk :: V.junk :: V.junk :: V.junk :: V.junk :: V.junk :: V.junk :: V.junk :: V.junk :: V.junk :: V.junk :: V.junk :: V.junk :: V.junk :: V.junk :: V.junk :: V.junk :: V.junk :: V.junk :: V.junk :: V.junk :: V.junk :: V.junk :: V.junk :: V.junk :: V.junk :: V.junk :: V.junk :: V.junk :: V.junk :: V.junk :: V.junk :: V.junk :: V.junk :: V.junk :: V.junk :: V.junk :: V.junk :: V.junk :: V.junk :: V.junk :: V.junk :: V.junk :: V.junk :: uu :: uu :: uu :: uu :: uu :: uu :: uu :: uu :: uu :: uu :: uu :: uu :: uu :: uu :: uu :: uu :: uu :: uu :: uu :: uu :: uu :: uu :: uu :: uu :: uu :: []),[]⟩) = ob (g_poacherlaw16_EventWakes_L1 k v0 v1 v2  n s51 s52 s53 s54 s87 s107) fun r => some ((.lit (.bool r)),[]) := by
  intro n
  induction n with
  | zero => intros; rfl
  | succ n ih =>
    intro s51 s52 s53 s54 s87 s107 s31 s32 s33 s34 s35 s36 s37 s55 j88
    rw [g_poacherlaw16_EventWakes_L1]
    simp (maxSteps := 2000000) -implicitDefEqProofs only [xe15,xb15,xz15,xm15_0,xm15_1,xj15_2,xj15_3,xj15_4,xj15_5,xj15_6,xm15_7,xm15_8,xm15_9,xm15_10,xm15_11,xm15_12,xm15_13,xm15_14,xm15_15,xm15_16,xm15_17,xm15_18,xm15_19,xm15_20,xm15_21,xm15_22,xm15_23,xm15_24,xk15_0_ret,xk15_1_ret,xk15_2_ret,xk15_3_ret,xk15_4_ret,xk15_5_ret,xk15_6_ret,xk15_7_ret,↓syP,syA,rtN,pureL,V.pure,nsh,stBk,V.kill,killL,spl,V.shift,shiftL,V.scal,scalL,intR,boolR,threeV,Nat.reduceAdd,Nat.reduceSub,Nat.reduceMul,Nat.reduceLT,Nat.reduceLeDiff,Nat.reduceEqDiff,Nat.reduceBEq,Nat.reduceBNe,Int.reduceBEq,Int.reduceBNe,Int.reduceLT,Int.reduceLE,Int.reduceAdd,Int.reduceSub,Int.reduceNeg,syQ,confV,frameV,listV,xF,xcallV,xcallC,xcallL,xcallY,xevY,xY_ready,xrange,xG_fn,xR,xA,xcl50,xclk50,xcl83,xclk83,xrp84,xrq84,rtC_int,rtC_list,awk14',awk15',h_poacherlaw16_Few,h_event_Play,h_poacherlaw16_awake,xr15_1,ih,g_poacherlaw16_EventWakes_L2_eq k v0 v1 v2 _ (fun s51 s52 s53 s54 s87 s107 => g_poacherlaw16_EventWakes_L1 k v0 v1 v2  n s51 s52 s53 s54 s87 s107) ih]
    all_goals simp -implicitDefEqProofs only [List.map_nil]
def g_poacherlaw16_EventWakes_L0 (k : Nat) (v0 : (List (List Int))) (v1 : (List Int)) (v2 : Int)  : Nat → List (Int × Int × Int × Int × Int × Int × Int) → Int → Int → Int → Int → Int → Option Bool
  | 0,_,_,_,_,_,_ => none
  | n + 1,s8,s25,s26,s27,s28,s29 =>
    bif decide (s25 < (↑s8.length : Int)) then
     ob (idx s8 s25) fun x134 =>
     bif x134.snd.snd.snd.snd.snd.snd != (1 : Int) then
      g_poacherlaw16_EventWakes_L0 k v0 v1 v2  n (s8) (IntKind.i64.wrap (s25 + (1 : Int))) (s26) (s27) (s28) (s29)
     else
      ob (idx s8 s25) fun x135 =>
      bif x135.fst == (7 : Int) then
       some (true)
      else
       ob (idx s8 s25) fun x136 =>
       bif x136.fst == (6 : Int) then
        ob (idx s8 s25) fun x137 =>
        bif x137.snd.snd.snd.fst == IntKind.u64.wrap v2 then
         ob (idx s8 s25) fun x138 =>
         bif x138.fst == (5 : Int) then
          ob (idx s8 s25) fun x139 =>
          bif x139.snd.snd.fst == v2 then
           g_poacherlaw16_EventWakes_L0 k v0 v1 v2  n (s8) (IntKind.i64.wrap (s25 + (1 : Int))) (IntKind.i64.wrap (s26 + (1 : Int))) (IntKind.i64.wrap (s27 + (1 : Int))) (IntKind.i64.wrap (s28 + (1 : Int))) (IntKind.i64.wrap (s29 + (1 : Int)))
          else
           g_poacherlaw16_EventWakes_L0 k v0 v1 v2  n (s8) (IntKind.i64.wrap (s25 + (1 : Int))) (IntKind.i64.wrap (s26 + (1 : Int))) (s27) (IntKind.i64.wrap (s28 + (1 : Int))) (IntKind.i64.wrap (s29 + (1 : Int)))
         else
          g_poacherlaw16_EventWakes_L0 k v0 v1 v2  n (s8) (IntKind.i64.wrap (s25 + (1 : Int))) (s26) (s27) (IntKind.i64.wrap (s28 + (1 : Int))) (IntKind.i64.wrap (s29 + (1 : Int)))
        else
         ob (idx s8 s25) fun x140 =>
         bif x140.fst == (5 : Int) then
          ob (idx s8 s25) fun x141 =>
          bif x141.snd.snd.fst == v2 then
           g_poacherlaw16_EventWakes_L0 k v0 v1 v2  n (s8) (IntKind.i64.wrap (s25 + (1 : Int))) (IntKind.i64.wrap (s26 + (1 : Int))) (IntKind.i64.wrap (s27 + (1 : Int))) (IntKind.i64.wrap (s28 + (1 : Int))) (s29)
          else
           g_poacherlaw16_EventWakes_L0 k v0 v1 v2  n (s8) (IntKind.i64.wrap (s25 + (1 : Int))) (IntKind.i64.wrap (s26 + (1 : Int))) (s27) (IntKind.i64.wrap (s28 + (1 : Int))) (s29)
         else
          g_poacherlaw16_EventWakes_L0 k v0 v1 v2  n (s8) (IntKind.i64.wrap (s25 + (1 : Int))) (s26) (s27) (IntKind.i64.wrap (s28 + (1 : Int))) (s29)
       else
        ob (idx s8 s25) fun x142 =>
        bif x142.fst == (5 : Int) then
         ob (idx s8 s25) fun x143 =>
         bif x143.snd.snd.fst == v2 then
          g_poacherlaw16_EventWakes_L0 k v0 v1 v2  n (s8) (IntKind.i64.wrap (s25 + (1 : Int))) (IntKind.i64.wrap (s26 + (1 : Int))) (IntKind.i64.wrap (s27 + (1 : Int))) (s28) (s29)
         else
          g_poacherlaw16_EventWakes_L0 k v0 v1 v2  n (s8) (IntKind.i64.wrap (s25 + (1 : Int))) (IntKind.i64.wrap (s26 + (1 : Int))) (s27) (s28) (s29)
        else
         g_poacherlaw16_EventWakes_L0 k v0 v1 v2  n (s8) (IntKind.i64.wrap (s25 + (1 : Int))) (s26) (s27) (s28) (s29)
    else
     g_poacherlaw16_EventWakes_L1 k v0 v1 v2 (k + (60 : Nat)) (s26) (s28) (s29) (s27) ((0 : Int)) (false)
theorem g_poacherlaw16_EventWakes_L0_eq (k : Nat) (v0 : (List (List Int))) (v1 : (List Int)) (v2 : Int) : ∀ (n : Nat) (s8 : List (Int × Int × Int × Int × Int × Int × Int)) (s25 : Int) (s26 : Int) (s27 : Int) (s28 : Int) (s29 : Int) ⦃s5 : Bool⦄ ⦃s6 : Bool⦄ ⦃s7 : List Int⦄ ⦃s9 : List (Int × Int × Int × Int × Int × Int × Int)⦄ ⦃s10 : Bool⦄ ⦃s11 : Bool⦄,rt none (itX (xX (xS (k + (60 : Nat))) (15 : Nat) (0 : Nat) (k + (60 : Nat)) false) xl15_0 ((0 : Nat)) (runK (xX (xS (k + (60 : Nat))) (15 : Nat) (0 : Nat) (k + (60 : Nat)) false) (bodyK (xS (k + (60 : Nat))).P Try.f15) xk15_1) n ⟨(V.ro (List.map listV v0) :: V.ro (List.map (intR IntKind.i64) v1) :: V.lit (Value.int IntKind.i64 v2) :: uu :: uu :: uu :: V.lit (Value.bool false) :: V.lit (Value.bool s5) :: V.lit (Value.bool s6) :: V.ro (List.map (intR IntKind.u64) s7) :: V.ro (List.map frameV s8) :: V.ro (List.map frameV s9) :: V.lit (Value.int IntKind.i64 s26) :: V.lit (Value.int IntKind.i64 s28) :: V.lit (Value.int IntKind.i64 s29) :: V.lit (Value.int IntKind.i64 s27) :: V.lit (Value.int IntKind.i64 s25) :: uu :: uu :: uu :: V.lit (Value.bool s5) :: V.ro (List.map listV v0) :: V.lit (Value.bool s6) :: V.lit (Value.bool s5) :: V.lit (Value.bool s10) :: V.lit (Value.bool false) :: V.lit (Value.bool s6) :: V.lit (Value.bool s11) :: V.lit (Value.bool s11) :: V.lit (Value.bool false) :: V.ro (List.map (intR IntKind.i64) v1) :: V.lit (Value.int IntKind.i64 (↑v1.length : Int)) :: V.lit (Value.bool (decide ((500 : Int) < (↑v1.length : Int)))) :: V.lit (Value.bool (decide ((500 : Int) < (↑v1.length : Int)))) :: uu :: V.tup [V.ro (List.map (intR IntKind.u64) s7),V.ro (List.map frameV s8),V.ro (List.map frameV s9)] :: V.ro (List.map listV v0) :: V.ro (List.map (intR IntKind.i64) v1) :: V.tup [V.ro (List.map (intR IntKind.u64) s7),V.ro (List.map frameV s8),V.ro (List.map frameV s9)] :: V.ro (List.map (intR IntKind.u64) s7) :: V.ro (List.map frameV s8) :: V.ro (List.map frameV s9) :: V.junk :: V.junk :: V.junk :: V.junk :: V.junk :: V.junk :: V.junk :: V.junk :: V.junk :: V.junk :: V.junk :: V.junk :: V.junk :: V.junk :: V.junk :: V.junk :: V.junk :: V.junk :: V.junk :: V.junk :: V.junk :: V.junk :: V.junk :: V.junk :: V.junk :: V.junk :: V.junk :: V.junk :: V.junk :: V.junk :: V.junk :: V.junk :: V.junk :: V.junk :: V.junk :: V.junk :: V.junk :: V.junk :: V.junk :: V.junk :: V.junk :: V.junk :: V.junk :: V.junk :: V.junk :: V.junk :: V.junk :: V.junk :: V.junk :: V.junk :: V.junk :: V.junk :: V.junk :: uu :: uu :: uu :: uu :: uu :: uu :: uu :: uu :: uu :: uu :: uu :: uu :: uu :: uu :: uu :: uu :: uu :: uu :: uu :: uu :: uu :: uu :: uu :: uu :: uu :: uu :: uu :: uu :: uu :: uu :: uu :: uu :: uu :: uu :: uu :: uu :: uu :: uu :: uu :: uu :: uu :: uu :: uu :: uu :: uu :: uu :: uu :: uu :: uu :: uu :: uu :: []),[]⟩) = ob (g_poacherlaw16_EventWakes_L0 k v0 v1 v2  n s8 s25 s26 s27 s28 s29) fun r => some ((.lit (.bool r)),[]) := by
  intro n
  induction n with
  | zero => intros; rfl
  | succ n ih =>
    intro s8 s25 s26 s27 s28 s29 s5 s6 s7 s9 s10 s11
    rw [g_poacherlaw16_EventWakes_L0]
    simp (maxSteps := 2000000) -implicitDefEqProofs only [xe15,xb15,xz15,xm15_0,xm15_1,xj15_2,xj15_3,xj15_4,xj15_5,xj15_6,xm15_7,xm15_8,xm15_9,xm15_10,xm15_11,xm15_12,xm15_13,xm15_14,xm15_15,xm15_16,xm15_17,xm15_18,xm15_19,xm15_20,xm15_21,xm15_22,xm15_23,xm15_24,xk15_0_ret,xk15_1_ret,xk15_2_ret,xk15_3_ret,xk15_4_ret,xk15_5_ret,xk15_6_ret,xk15_7_ret,↓syP,syA,rtN,pureL,V.pure,nsh,stBk,V.kill,killL,spl,V.shift,shiftL,V.scal,scalL,intR,boolR,threeV,Nat.reduceAdd,Nat.reduceSub,Nat.reduceMul,Nat.reduceLT,Nat.reduceLeDiff,Nat.reduceEqDiff,Nat.reduceBEq,Nat.reduceBNe,Int.reduceBEq,Int.reduceBNe,Int.reduceLT,Int.reduceLE,Int.reduceAdd,Int.reduceSub,Int.reduceNeg,syQ,confV,frameV,listV,xF,xcallV,xcallC,xcallL,xcallY,xevY,xY_ready,xrange,xG_fn,xR,xA,xcl50,xclk50,xcl83,xclk83,xrp84,xrq84,rtC_int,rtC_list,awk14',awk15',h_poacherlaw16_Few,h_event_Play,h_poacherlaw16_awake,xr15_0,ih,g_poacherlaw16_EventWakes_L1_eq k v0 v1 v2]
    all_goals simp -implicitDefEqProofs only [List.map_nil]
def g_poacherlaw16_EventWakes (k : Nat) (v0 : (List (List Int))) (v1 : (List Int)) (v2 : Int) : Option Bool :=
  ob (g_poacherlaw16_awake k) fun x150 =>
  ob (g_poacherlaw16_Few (k + (59 : Nat)) v0) fun x151 =>
  bif !x150 then
   some (x150)
  else
   bif !x151 then
    some (x150)
   else
    bif decide ((500 : Int) < (↑v1.length : Int)) then
     some (x150)
    else
     ob (g_event_Play (k + (20 : Nat)) v0 v1) fun x152 =>
     g_poacherlaw16_EventWakes_L0 k v0 v1 v2 (k + (60 : Nat)) (x152.snd.fst) ((0 : Int)) ((0 : Int)) ((0 : Int)) ((0 : Int)) ((0 : Int))
theorem h_poacherlaw16_EventWakes (k : Nat) (v0 : (List (List Int))) (v1 : (List Int)) (v2 : Int) : xC (k + 61) none 15 [(.ro (List.map listV v0)),(.ro (List.map (intR .i64) v1)),(.lit (.int .i64 v2))] = ob (g_poacherlaw16_EventWakes k v0 v1 v2) fun r => some ((.lit (.bool r)),[]) := by
  rw [xC_eq]
  unfold g_poacherlaw16_EventWakes
  simp (maxSteps := 2000000) -implicitDefEqProofs only [xe15,xb15,xz15,xm15_0,xm15_1,xj15_2,xj15_3,xj15_4,xj15_5,xj15_6,xm15_7,xm15_8,xm15_9,xm15_10,xm15_11,xm15_12,xm15_13,xm15_14,xm15_15,xm15_16,xm15_17,xm15_18,xm15_19,xm15_20,xm15_21,xm15_22,xm15_23,xm15_24,xk15_0_ret,xk15_1_ret,xk15_2_ret,xk15_3_ret,xk15_4_ret,xk15_5_ret,xk15_6_ret,xk15_7_ret,↓syP,syA,rtN,pureL,V.pure,nsh,stBk,V.kill,killL,spl,V.shift,shiftL,V.scal,scalL,intR,boolR,threeV,Nat.reduceAdd,Nat.reduceSub,Nat.reduceMul,Nat.reduceLT,Nat.reduceLeDiff,Nat.reduceEqDiff,Nat.reduceBEq,Nat.reduceBNe,Int.reduceBEq,Int.reduceBNe,Int.reduceLT,Int.reduceLE,Int.reduceAdd,Int.reduceSub,Int.reduceNeg,syQ,confV,frameV,listV,xF,xcallV,xcallC,xcallL,xcallY,xevY,xY_ready,xrange,xG_fn,xR,xA,xcl50,xclk50,xcl83,xclk83,xrp84,xrq84,rtC_int,rtC_list,awk14',awk15',h_poacherlaw16_Few,h_event_Play,h_poacherlaw16_awake,g_poacherlaw16_EventWakes_L0_eq k v0 v1 v2]
  all_goals simp -implicitDefEqProofs only [List.map_nil]
end Go.Ab
