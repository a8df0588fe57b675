/- Functions as they are walked: printed by Walk.lean. -/
import Derived.Test.YthnifkacfonhgaaR2GE4
set_option linter.unusedVariables false
set_option linter.unusedSimpArgs false
set_option maxRecDepth 100000
set_option linter.unusedVariables false
set_option linter.unusedSimpArgs false
namespace Go.Ab
open Go.Proofs
def g_poacherlaw14_WaitCells_L0 (k : Nat) (v0 : (Int × Int × Int × Int)) (v1 : (List Int)) (v2 : (Int × Int × Int × Int × Int × Int × Int))  : Nat → List Int → Int → Int → Int → Int → Int → Int → Int → Int → Bool → Int → Int → Int → Option Bool
  | 0,_,_,_,_,_,_,_,_,_,_,_,_,_ => none
  | n + 1,s3,s4,s5,s6,s7,s8,s9,s10,s11,s12,s17,s18,s19 =>
    bif decide (s19 < (↑v1.length : Int)) then
     ob (idx s3 s19) fun x41 =>
     ob (idx v1 s19) fun x42 =>
     bif x41 != x42 then
      g_poacherlaw14_WaitCells_L0 k v0 v1 v2  n (s3) (s4) (s5) (s6) (s7) (s8) (s9) (s10) (s11) (s12) (IntKind.i64.wrap (s17 + (1 : Int))) (s19) (IntKind.i64.wrap (s19 + (1 : Int)))
     else
      g_poacherlaw14_WaitCells_L0 k v0 v1 v2  n (s3) (s4) (s5) (s6) (s7) (s8) (s9) (s10) (s11) (s12) (s17) (s18) (IntKind.i64.wrap (s19 + (1 : Int)))
    else
     ob (g_push_Goes (v0.1,v0.2.1,v0.2.2.1,v0.2.2.2) v1 (v2.1,v2.2.1,v2.2.2.1,v2.2.2.2.1,v2.2.2.2.2.1,v2.2.2.2.2.2.1,v2.2.2.2.2.2.2) (5 : Int) (5 : Int)) fun x43 =>
     bif !x43 then
      bif s17 == (0 : Int) then
       some (s4 == v2.1 && (s5 == v2.2.1 && (s6 == v2.2.2.1 && (s7 == v2.2.2.2.1 && (s8 == v2.2.2.2.2.1 && (s9 == v2.2.2.2.2.2.1 && s10 == v2.2.2.2.2.2.2))))))
      else
       some (false)
     else
      bif s17 == (0 : Int) then
       some (true)
      else
       bif s17 == (1 : Int) then
        bif v2.2.1 == (2 : Int) then
         bif s18 == (2 : Int) then
          ob (idx s3 s18) fun x44 =>
          ob (idx v1 s18) fun x45 =>
          ob (g_word_Set x45 v2.2.2.1) fun x46 =>
          bif x44 == x46 then
           ob (e33 v0.1 v0.2.1 v0.2.2.1 v0.2.2.2 v1 v2.1 v2.2.1 v2.2.2.1 v2.2.2.2.1 v2.2.2.2.2.1 v2.2.2.2.2.2.1 v2.2.2.2.2.2.2 s3 s4 s5 s6 s7 s8 s9 s10 s17 s18 s19 s11 s12 x43 (V.lit (Value.bool true)) (V.lit (Value.int IntKind.i64 s18)) (V.lit (Value.bool (s18 == (2 : Int)))) (V.lit (Value.bool (s18 == (2 : Int)))) (V.lit (Value.bool true)) (V.ro (List.map (intR IntKind.u64) s3)) (V.lit (Value.int IntKind.i64 s18)) (V.rp [V.lit (Value.int IntKind.u64 x44)]) (V.lit (Value.int IntKind.u64 x44)) (V.ro (List.map (intR IntKind.u64) v1)) (V.lit (Value.int IntKind.i64 s18)) (V.rp [V.lit (Value.int IntKind.u64 x45)]) (V.lit (Value.int IntKind.u64 x45)) (V.ptr (1 : Nat) (0 : Nat) (0 : Nat) (2 : Nat)) (V.lit (Value.int IntKind.i64 v2.2.2.1)) (V.lit (Value.int IntKind.u64 x46)) (V.lit (Value.bool (x44 == x46))) (V.lit (Value.bool (x44 == x46))) (V.lit (Value.bool true)) (V.ptr (2 : Nat) (0 : Nat) (0 : Nat) (1 : Nat)) (V.lit (Value.int IntKind.i64 s5)) (V.lit (Value.bool (s5 == (3 : Int)))) (s5 == (3 : Int))) fun x47 =>
           some (x47)
          else
           ob (e33 v0.1 v0.2.1 v0.2.2.1 v0.2.2.2 v1 v2.1 v2.2.1 v2.2.2.1 v2.2.2.2.1 v2.2.2.2.2.1 v2.2.2.2.2.2.1 v2.2.2.2.2.2.2 s3 s4 s5 s6 s7 s8 s9 s10 s17 s18 s19 s11 s12 x43 (V.lit (Value.bool true)) (V.lit (Value.int IntKind.i64 s18)) (V.lit (Value.bool (s18 == (2 : Int)))) (V.lit (Value.bool (s18 == (2 : Int)))) (V.lit (Value.bool true)) (V.ro (List.map (intR IntKind.u64) s3)) (V.lit (Value.int IntKind.i64 s18)) (V.rp [V.lit (Value.int IntKind.u64 x44)]) (V.lit (Value.int IntKind.u64 x44)) (V.ro (List.map (intR IntKind.u64) v1)) (V.lit (Value.int IntKind.i64 s18)) (V.rp [V.lit (Value.int IntKind.u64 x45)]) (V.lit (Value.int IntKind.u64 x45)) (V.ptr (1 : Nat) (0 : Nat) (0 : Nat) (2 : Nat)) (V.lit (Value.int IntKind.i64 v2.2.2.1)) (V.lit (Value.int IntKind.u64 x46)) (V.lit (Value.bool (x44 == x46))) (V.lit (Value.bool (x44 == x46))) (V.lit (Value.bool false)) uu uu uu false) fun x48 =>
           some (x48)
         else
          ob (e33 v0.1 v0.2.1 v0.2.2.1 v0.2.2.2 v1 v2.1 v2.2.1 v2.2.2.1 v2.2.2.2.1 v2.2.2.2.2.1 v2.2.2.2.2.2.1 v2.2.2.2.2.2.2 s3 s4 s5 s6 s7 s8 s9 s10 s17 s18 s19 s11 s12 x43 (V.lit (Value.bool true)) (V.lit (Value.int IntKind.i64 s18)) (V.lit (Value.bool (s18 == (2 : Int)))) (V.lit (Value.bool (s18 == (2 : Int)))) (V.lit (Value.bool false)) uu uu uu uu uu uu uu uu uu uu uu uu (V.lit (Value.bool false)) (V.lit (Value.bool false)) uu uu uu false) fun x49 =>
          some (x49)
        else
         ob (e33 v0.1 v0.2.1 v0.2.2.1 v0.2.2.2 v1 v2.1 v2.2.1 v2.2.2.1 v2.2.2.2.1 v2.2.2.2.2.1 v2.2.2.2.2.2.1 v2.2.2.2.2.2.2 s3 s4 s5 s6 s7 s8 s9 s10 s17 s18 s19 s11 s12 x43 (V.lit (Value.bool false)) uu uu (V.lit (Value.bool false)) (V.lit (Value.bool false)) uu uu uu uu uu uu uu uu uu uu uu uu (V.lit (Value.bool false)) (V.lit (Value.bool false)) uu uu uu false) fun x50 =>
         some (x50)
       else
        some (false)
theorem g_poacherlaw14_WaitCells_L0_eq (k : Nat) (v0_0 : Int) (v0_1 : Int) (v0_2 : Int) (v0_3 : Int) (v1 : (List Int)) (v2_0 : Int) (v2_1 : Int) (v2_2 : Int) (v2_3 : Int) (v2_4 : Int) (v2_5 : Int) (v2_6 : Int) : ∀ (n : Nat) (s3 : List Int) (s4 : Int) (s5 : Int) (s6 : Int) (s7 : Int) (s8 : Int) (s9 : Int) (s10 : Int) (s11 : Int) (s12 : Bool) (s17 : Int) (s18 : Int) (s19 : Int),rt none (itX (xX (xS (k + (60 : Nat))) (4 : Nat) (0 : Nat) (k + (60 : Nat)) false) xl4_0 ((3 : Nat)) (runK (xX (xS (k + (60 : Nat))) (4 : Nat) (0 : Nat) (k + (60 : Nat)) false) (bodyK (xS (k + (60 : Nat))).P Try.f4) xk4_1) n ⟨(V.agg [V.lit (Value.int IntKind.i64 v0_0),V.lit (Value.int IntKind.i64 v0_1),V.lit (Value.int IntKind.i64 v0_2),V.lit (Value.int IntKind.i64 v0_3)] :: V.ro (List.map (intR IntKind.u64) v1) :: V.agg [V.lit (Value.int IntKind.i64 v2_0),V.lit (Value.int IntKind.i64 v2_1),V.lit (Value.int IntKind.i64 v2_2),V.lit (Value.int IntKind.u64 v2_3),V.lit (Value.int IntKind.u64 v2_4),V.lit (Value.int IntKind.u64 v2_5),V.lit (Value.int IntKind.i64 v2_6)] :: V.ptr (0 : Nat) (0 : Nat) (0 : Nat) (0 : Nat) :: uu :: V.ptr (1 : Nat) (0 : Nat) (0 : Nat) (0 : Nat) :: V.lit (Value.bool false) :: V.lit (Value.bool true) :: V.ro (List.map (intR IntKind.u64) s3) :: V.ptr (2 : Nat) (0 : Nat) (0 : Nat) (0 : Nat) :: V.lit (Value.int IntKind.i64 s17) :: V.lit (Value.int IntKind.i64 s18) :: V.lit (Value.int IntKind.i64 s19) :: V.lit (Value.bool true) :: V.lit (Value.bool true) :: V.lit (Value.bool false) :: V.lit (Value.bool false) :: V.ro (List.map (intR IntKind.u64) v1) :: V.lit (Value.int IntKind.i64 (↑v1.length : Int)) :: V.lit (Value.bool (decide ((500 : Int) < (↑v1.length : Int)))) :: V.lit (Value.bool (decide ((500 : Int) < (↑v1.length : Int)))) :: uu :: V.tup [V.ro (List.map (intR IntKind.u64) s3),V.agg [V.lit (Value.int IntKind.i64 s4),V.lit (Value.int IntKind.i64 s5),V.lit (Value.int IntKind.i64 s6),V.lit (Value.int IntKind.u64 s7),V.lit (Value.int IntKind.u64 s8),V.lit (Value.int IntKind.u64 s9),V.lit (Value.int IntKind.i64 s10)]] :: V.agg [V.lit (Value.int IntKind.i64 v0_0),V.lit (Value.int IntKind.i64 v0_1),V.lit (Value.int IntKind.i64 v0_2),V.lit (Value.int IntKind.i64 v0_3)] :: V.ro (List.map (intR IntKind.u64) v1) :: V.agg [V.lit (Value.int IntKind.i64 v2_0),V.lit (Value.int IntKind.i64 v2_1),V.lit (Value.int IntKind.i64 v2_2),V.lit (Value.int IntKind.u64 v2_3),V.lit (Value.int IntKind.u64 v2_4),V.lit (Value.int IntKind.u64 v2_5),V.lit (Value.int IntKind.i64 v2_6)] :: V.tup [V.ro (List.map (intR IntKind.u64) s3),V.agg [V.lit (Value.int IntKind.i64 s4),V.lit (Value.int IntKind.i64 s5),V.lit (Value.int IntKind.i64 s6),V.lit (Value.int IntKind.u64 s7),V.lit (Value.int IntKind.u64 s8),V.lit (Value.int IntKind.u64 s9),V.lit (Value.int IntKind.i64 s10)]] :: V.ro (List.map (intR IntKind.u64) s3) :: V.agg [V.lit (Value.int IntKind.i64 s4),V.lit (Value.int IntKind.i64 s5),V.lit (Value.int IntKind.i64 s6),V.lit (Value.int IntKind.u64 s7),V.lit (Value.int IntKind.u64 s8),V.lit (Value.int IntKind.u64 s9),V.lit (Value.int IntKind.i64 s10)] :: V.ro (List.map (intR IntKind.u64) s3) :: V.lit (Value.int IntKind.i64 s11) :: V.ro (List.map (intR IntKind.u64) v1) :: V.lit (Value.int IntKind.i64 (↑v1.length : Int)) :: V.lit (Value.bool s12) :: V.junk :: V.junk :: V.junk :: V.junk :: V.junk :: V.junk :: V.junk :: V.junk :: V.junk :: V.junk :: V.junk :: V.junk :: V.junk :: V.junk :: V.junk :: V.junk :: V.junk :: V.junk :: uu :: uu :: uu :: uu :: uu :: uu :: uu :: uu :: uu :: uu :: uu :: uu :: uu :: uu :: uu :: uu :: uu :: uu :: uu :: uu :: uu :: uu :: uu :: uu :: uu :: uu :: uu :: uu :: uu :: uu :: uu :: uu :: uu :: uu :: uu :: uu :: uu :: uu :: uu :: uu :: uu :: uu :: uu :: uu :: uu :: uu :: uu :: uu :: uu :: uu :: uu :: uu :: uu :: uu :: uu :: uu :: uu :: uu :: uu :: uu :: uu :: uu :: uu :: uu :: uu :: uu :: []),[B.box [V.lit (Value.int IntKind.i64 v0_0),V.lit (Value.int IntKind.i64 v0_1),V.lit (Value.int IntKind.i64 v0_2),V.lit (Value.int IntKind.i64 v0_3)],B.box [V.lit (Value.int IntKind.i64 v2_0),V.lit (Value.int IntKind.i64 v2_1),V.lit (Value.int IntKind.i64 v2_2),V.lit (Value.int IntKind.u64 v2_3),V.lit (Value.int IntKind.u64 v2_4),V.lit (Value.int IntKind.u64 v2_5),V.lit (Value.int IntKind.i64 v2_6)],B.box [V.lit (Value.int IntKind.i64 s4),V.lit (Value.int IntKind.i64 s5),V.lit (Value.int IntKind.i64 s6),V.lit (Value.int IntKind.u64 s7),V.lit (Value.int IntKind.u64 s8),V.lit (Value.int IntKind.u64 s9),V.lit (Value.int IntKind.i64 s10)]]⟩) = ob (g_poacherlaw14_WaitCells_L0 k (v0_0,v0_1,v0_2,v0_3) v1 (v2_0,v2_1,v2_2,v2_3,v2_4,v2_5,v2_6)  n s3 s4 s5 s6 s7 s8 s9 s10 s11 s12 s17 s18 s19) fun r => some ((.lit (.bool r)),[]) := by
  intro n
  induction n with
  | zero => intros; rfl
  | succ n ih =>
    intro s3 s4 s5 s6 s7 s8 s9 s10 s11 s12 s17 s18 s19
    rw [g_poacherlaw14_WaitCells_L0]
    simp (maxSteps := 2000000) -implicitDefEqProofs only [xe4,xb4,xz4,xm4_0,xj4_1,xj4_2,xm4_3,xm4_4,xm4_5,xm4_6,xm4_7,xm4_8,xm4_9,xm4_10,xm4_11,xm4_12,xm4_13,xm4_14,xm4_15,xm4_16,xm4_17,xm4_18,xm4_19,xm4_20,xm4_21,xm4_22,xm4_24,xm4_25,xm4_26,xm4_27,xm4_28,xm4_29,xm4_30,xm4_31,xm4_32,xm4_33,xm4_34,xm4_35,xm4_36,xm4_37,xm4_38,xm4_39,xm4_40,xm4_41,xm4_42,xm4_43,xm4_44,xm4_45,xm4_46,xm4_47,xm4_48,xm4_49,xm4_50,xm4_51,xk4_0_ret,xk4_1_ret,xk4_2_ret,xk4_3_ret,xk4_4_ret,↓syP,syA,rtN,pureL,V.pure,nsh,stBk,V.kill,killL,spl,V.shift,shiftL,V.scal,scalL,intR,boolR,threeV,Nat.reduceAdd,Nat.reduceSub,Nat.reduceMul,Nat.reduceLT,Nat.reduceLeDiff,Nat.reduceEqDiff,Nat.reduceBEq,Nat.reduceBNe,Int.reduceBEq,Int.reduceBNe,Int.reduceLT,Int.reduceLE,Int.reduceAdd,Int.reduceSub,Int.reduceNeg,syQ,confV,frameV,listV,xF,xcallV,xcallC,xcallL,xcallY,xevY,xY_ready,xrange,xG_fn,xR,xA,xcl50,xclk50,xcl83,xclk83,xrp84,xrq84,awk14',awk15',e33_eq,h_push_Goes,h_word_Set,h_wait_Step,xr4_0,ih]
    all_goals simp -implicitDefEqProofs only [List.map_nil]
def g_poacherlaw14_WaitCells (k : Nat) (v0 : (Int × Int × Int × Int)) (v1 : (List Int)) (v2 : (Int × Int × Int × Int × Int × Int × Int)) : Option Bool :=
  bif decide ((500 : Int) < (↑v1.length : Int)) then
   some (true)
  else
   ob (g_wait_Step (v0.1,v0.2.1,v0.2.2.1,v0.2.2.2) v1 (v2.1,v2.2.1,v2.2.2.1,v2.2.2.2.1,v2.2.2.2.2.1,v2.2.2.2.2.2.1,v2.2.2.2.2.2.2)) fun x51 =>
   bif (↑x51.fst.length : Int) != (↑v1.length : Int) then
    some (false)
   else
    g_poacherlaw14_WaitCells_L0 k v0 v1 v2 (k + (60 : Nat)) (x51.fst) (x51.snd.fst) (x51.snd.snd.fst) (x51.snd.snd.snd.fst) (x51.snd.snd.snd.snd.fst) (x51.snd.snd.snd.snd.snd.fst) (x51.snd.snd.snd.snd.snd.snd.fst) (x51.snd.snd.snd.snd.snd.snd.snd) ((↑x51.fst.length : Int)) ((↑x51.fst.length : Int) != (↑v1.length : Int)) ((0 : Int)) ((-1 : Int)) ((0 : Int))
theorem h_poacherlaw14_WaitCells (k : Nat) (v0_0 : Int) (v0_1 : Int) (v0_2 : Int) (v0_3 : Int) (v1 : (List Int)) (v2_0 : Int) (v2_1 : Int) (v2_2 : Int) (v2_3 : Int) (v2_4 : Int) (v2_5 : Int) (v2_6 : Int) : xC (k + 61) none 4 [(.agg [(.lit (.int .i64 v0_0)),(.lit (.int .i64 v0_1)),(.lit (.int .i64 v0_2)),(.lit (.int .i64 v0_3))]),(.ro (List.map (intR .u64) v1)),(.agg [(.lit (.int .i64 v2_0)),(.lit (.int .i64 v2_1)),(.lit (.int .i64 v2_2)),(.lit (.int .u64 v2_3)),(.lit (.int .u64 v2_4)),(.lit (.int .u64 v2_5)),(.lit (.int .i64 v2_6))])] = ob (g_poacherlaw14_WaitCells k (v0_0,v0_1,v0_2,v0_3) v1 (v2_0,v2_1,v2_2,v2_3,v2_4,v2_5,v2_6)) fun r => some ((.lit (.bool r)),[]) := by
  rw [xC_eq]
  unfold g_poacherlaw14_WaitCells
  simp (maxSteps := 2000000) -implicitDefEqProofs only [xe4,xb4,xz4,xm4_0,xj4_1,xj4_2,xm4_3,xm4_4,xm4_5,xm4_6,xm4_7,xm4_8,xm4_9,xm4_10,xm4_11,xm4_12,xm4_13,xm4_14,xm4_15,xm4_16,xm4_17,xm4_18,xm4_19,xm4_20,xm4_21,xm4_22,xm4_24,xm4_25,xm4_26,xm4_27,xm4_28,xm4_29,xm4_30,xm4_31,xm4_32,xm4_33,xm4_34,xm4_35,xm4_36,xm4_37,xm4_38,xm4_39,xm4_40,xm4_41,xm4_42,xm4_43,xm4_44,xm4_45,xm4_46,xm4_47,xm4_48,xm4_49,xm4_50,xm4_51,xk4_0_ret,xk4_1_ret,xk4_2_ret,xk4_3_ret,xk4_4_ret,↓syP,syA,rtN,pureL,V.pure,nsh,stBk,V.kill,killL,spl,V.shift,shiftL,V.scal,scalL,intR,boolR,threeV,Nat.reduceAdd,Nat.reduceSub,Nat.reduceMul,Nat.reduceLT,Nat.reduceLeDiff,Nat.reduceEqDiff,Nat.reduceBEq,Nat.reduceBNe,Int.reduceBEq,Int.reduceBNe,Int.reduceLT,Int.reduceLE,Int.reduceAdd,Int.reduceSub,Int.reduceNeg,syQ,confV,frameV,listV,xF,xcallV,xcallC,xcallL,xcallY,xevY,xY_ready,xrange,xG_fn,xR,xA,xcl50,xclk50,xcl83,xclk83,xrp84,xrq84,awk14',awk15',e33_eq,h_wait_Step,g_poacherlaw14_WaitCells_L0_eq k v0_0 v0_1 v0_2 v0_3 v1 v2_0 v2_1 v2_2 v2_3 v2_4 v2_5 v2_6]
  all_goals simp -implicitDefEqProofs only [List.map_nil]
end Go.Ab
