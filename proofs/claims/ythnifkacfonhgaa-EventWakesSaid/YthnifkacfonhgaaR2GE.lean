/- Functions as they are walked: printed by Walk.lean. -/
import Derived.Test.YthnifkacfonhgaaR2GN
import Derived.Test.YthnifkacfonhgaaR2BE
set_option linter.unusedVariables false
set_option linter.unusedSimpArgs false
set_option maxRecDepth 100000
set_option linter.unusedVariables false
set_option linter.unusedSimpArgs false
namespace Go.Ab
open Go.Proofs
def g_event_layout (v0 : Int) : Option (Int × Int × Int × Int) :=
  some ((v0),((1 : Int)),((1 : Int)),((0 : Int)))
theorem h_event_layout (k : Nat) (v0 : Int) : xC (k + 1) none 82 [(.lit (.int .i64 v0))] = ob (g_event_layout v0) fun r => some ((.agg [(.lit (.int .i64 r.1)),(.lit (.int .i64 r.2.1)),(.lit (.int .i64 r.2.2.1)),(.lit (.int .i64 r.2.2.2))]),[]) := by
  rw [xC_eq]
  unfold g_event_layout
  simp (maxSteps := 2000000) -implicitDefEqProofs only [xe82,xb82,↓syP,syA,rtN,pureL,V.pure,nsh,stBk,V.kill,killL,spl,V.shift,shiftL,V.scal,scalL,intR,boolR,threeV,Nat.reduceAdd,Nat.reduceSub,Nat.reduceMul,Nat.reduceLT,Nat.reduceLeDiff,Nat.reduceEqDiff,Nat.reduceBEq,Nat.reduceBNe,Int.reduceBEq,Int.reduceBNe,Int.reduceLT,Int.reduceLE,Int.reduceAdd,Int.reduceSub,Int.reduceNeg,syQ,confV,frameV,listV,xF,xcallV,xcallC,xcallL,xcallY,xevY,xY_ready,xrange,xG_fn,xR,xA,xcl50,xclk50,xcl83,xclk83,xrp84,awk14',awk15']
  all_goals simp -implicitDefEqProofs only [List.map_nil]
def g_lay_New_L0 (k : Nat) (v0 : (Int × Int × Int × Int))  : Nat → Int → List Int → Int → Nat → Option (List Int)
  | 0,_,_,_,_ => none
  | n + 1,s3,s6,s7,s9 =>
    bif decide (s7 < s3) then
     ck (s9 == (1 : Nat) || s9 == (0 : Nat)) (
     bif room (s6 ++ [(0 : Int)]).length (8 : Nat) then
      g_lay_New_L0 k v0  n (s3) (s6 ++ [(0 : Int)]) (IntKind.i64.wrap (s7 + (1 : Int))) ((1 : Nat))
     else
      none)
    else
     some (s6)
theorem g_lay_New_L0_eq (k : Nat) (v0_0 : Int) (v0_1 : Int) (v0_2 : Int) (v0_3 : Int) : ∀ (n : Nat) (s3 : Int) (s6 : List Int) (s7 : Int) (s9 : Nat) ⦃s5 : Nat⦄,rt none (itX (xX (xS (k + (3 : Nat))) (49 : Nat) (0 : Nat) (k + (3 : Nat)) false) xl49_0 ((3 : Nat)) (runK (xX (xS (k + (3 : Nat))) (49 : Nat) (0 : Nat) (k + (3 : Nat)) false) (bodyK (xS (k + (3 : Nat))).P Try.f49) xk49_0) n ⟨[V.agg [V.lit (Value.int IntKind.i64 v0_0),V.lit (Value.int IntKind.i64 v0_1),V.lit (Value.int IntKind.i64 v0_2),V.lit (Value.int IntKind.i64 v0_3)],V.ptr (0 : Nat) (0 : Nat) (0 : Nat) (0 : Nat),V.own (1 : Nat) (0 : Nat) (0 : Nat),V.own (2 : Nat) s5 s6.length,V.agg [V.lit (Value.int IntKind.i64 v0_0),V.lit (Value.int IntKind.i64 v0_1),V.lit (Value.int IntKind.i64 v0_2),V.lit (Value.int IntKind.i64 v0_3)],V.lit (Value.int IntKind.i64 s3),V.lit (Value.int IntKind.i64 s7),V.junk,V.junk,V.junk,V.junk,V.junk,uu],[B.box [V.lit (Value.int IntKind.i64 v0_0),V.lit (Value.int IntKind.i64 v0_1),V.lit (Value.int IntKind.i64 v0_2),V.lit (Value.int IntKind.i64 v0_3)],B.rows (0 : Nat) [] (0 : Nat) true,B.rows s9 (List.map (intR IntKind.u64) s6) s5 true]⟩) = ob (g_lay_New_L0 k (v0_0,v0_1,v0_2,v0_3)  n s3 s6 s7 s9) fun r => some ((.ro (List.map (intR .u64) r)),[]) := by
  intro n
  induction n with
  | zero => intros; rfl
  | succ n ih =>
    intro s3 s6 s7 s9 s5
    rw [g_lay_New_L0]
    simp (maxSteps := 2000000) -implicitDefEqProofs only [xe49,xb49,xz49,xj49_0,xk49_0_ret,↓syP,syA,rtN,pureL,V.pure,nsh,stBk,V.kill,killL,spl,V.shift,shiftL,V.scal,scalL,intR,boolR,threeV,Nat.reduceAdd,Nat.reduceSub,Nat.reduceMul,Nat.reduceLT,Nat.reduceLeDiff,Nat.reduceEqDiff,Nat.reduceBEq,Nat.reduceBNe,Int.reduceBEq,Int.reduceBNe,Int.reduceLT,Int.reduceLE,Int.reduceAdd,Int.reduceSub,Int.reduceNeg,syQ,confV,frameV,listV,xF,xcallV,xcallC,xcallL,xcallY,xevY,xY_ready,xrange,xG_fn,xR,xA,xcl50,xclk50,xcl83,xclk83,xrp84,awk14',awk15',h_lay_Size,xr49_0,ih]
    all_goals simp -implicitDefEqProofs only [List.map_nil]
def g_lay_New (k : Nat) (v0 : (Int × Int × Int × Int)) : Option (List Int) :=
  ob (g_lay_Size (v0.1,v0.2.1,v0.2.2.1,v0.2.2.2)) fun x11 =>
  g_lay_New_L0 k v0 (k + (3 : Nat)) (x11) ([]) ((0 : Int)) ((0 : Nat))
theorem h_lay_New (k : Nat) (v0_0 : Int) (v0_1 : Int) (v0_2 : Int) (v0_3 : Int) : xC (k + 4) none 49 [(.agg [(.lit (.int .i64 v0_0)),(.lit (.int .i64 v0_1)),(.lit (.int .i64 v0_2)),(.lit (.int .i64 v0_3))])] = ob (g_lay_New k (v0_0,v0_1,v0_2,v0_3)) fun r => some ((.ro (List.map (intR .u64) r)),[]) := by
  rw [xC_eq]
  unfold g_lay_New
  have hl0 := fun (x12 : Int) => g_lay_New_L0_eq k v0_0 v0_1 v0_2 v0_3 (k + (3 : Nat)) (x12) ([]) ((0 : Int)) ((0 : Nat))
  try simp -implicitDefEqProofs only [List.map_nil,List.length_nil] at hl0
  simp (maxSteps := 2000000) -implicitDefEqProofs only [xe49,xb49,xz49,xj49_0,xk49_0_ret,↓syP,syA,rtN,pureL,V.pure,nsh,stBk,V.kill,killL,spl,V.shift,shiftL,V.scal,scalL,intR,boolR,threeV,Nat.reduceAdd,Nat.reduceSub,Nat.reduceMul,Nat.reduceLT,Nat.reduceLeDiff,Nat.reduceEqDiff,Nat.reduceBEq,Nat.reduceBNe,Int.reduceBEq,Int.reduceBNe,Int.reduceLT,Int.reduceLE,Int.reduceAdd,Int.reduceSub,Int.reduceNeg,syQ,confV,frameV,listV,xF,xcallV,xcallC,xcallL,xcallY,xevY,xY_ready,xrange,xG_fn,xR,xA,xcl50,xclk50,xcl83,xclk83,xrp84,awk14',awk15',h_lay_Size,g_lay_New_L0_eq k v0_0 v0_1 v0_2 v0_3,hl0]
  all_goals simp -implicitDefEqProofs only [List.map_nil]
def g_event_Step (k : Nat) (v0 : (Int × Int × Int × Int)) (v1 : (List Int)) (v2 : (Int × Int × Int × Int × Int × Int × Int)) : Option ((List Int) × (Int × Int × Int × Int × Int × Int × Int)) :=
  bif v2.1 == (5 : Int) then
   ob (g_wait_Step (v0.1,v0.2.1,v0.2.2.1,v0.2.2.2) v1 (v2.1,v2.2.1,v2.2.2.1,v2.2.2.2.1,v2.2.2.2.2.1,v2.2.2.2.2.2.1,v2.2.2.2.2.2.2)) fun x18 =>
   some ((x18.fst),((x18.snd.fst),(x18.snd.snd.fst),(x18.snd.snd.snd.fst),(x18.snd.snd.snd.snd.fst),(x18.snd.snd.snd.snd.snd.fst),(x18.snd.snd.snd.snd.snd.snd.fst),(x18.snd.snd.snd.snd.snd.snd.snd)))
  else
   bif v2.1 == (6 : Int) then
    bif v2.1 == (6 : Int) then
     ob (g_note_Step k (v0.1,v0.2.1,v0.2.2.1,v0.2.2.2) v1 (v2.1,v2.2.1,v2.2.2.1,v2.2.2.2.1,v2.2.2.2.2.1,v2.2.2.2.2.2.1,v2.2.2.2.2.2.2)) fun x19 =>
     some ((x19.fst),((x19.snd.fst),(x19.snd.snd.fst),(x19.snd.snd.snd.fst),(x19.snd.snd.snd.snd.fst),(x19.snd.snd.snd.snd.snd.fst),(x19.snd.snd.snd.snd.snd.snd.fst),(x19.snd.snd.snd.snd.snd.snd.snd)))
    else
     ob (g_clone (8 : Nat) v1) fun x20 =>
     some ((x20),((v2.1),(v2.2.1),(v2.2.2.1),(v2.2.2.2.1),(v2.2.2.2.2.1),(v2.2.2.2.2.2.1),(v2.2.2.2.2.2.2)))
   else
    bif v2.1 == (7 : Int) then
     ob (g_note_Step k (v0.1,v0.2.1,v0.2.2.1,v0.2.2.2) v1 (v2.1,v2.2.1,v2.2.2.1,v2.2.2.2.1,v2.2.2.2.2.1,v2.2.2.2.2.2.1,v2.2.2.2.2.2.2)) fun x21 =>
     some ((x21.fst),((x21.snd.fst),(x21.snd.snd.fst),(x21.snd.snd.snd.fst),(x21.snd.snd.snd.snd.fst),(x21.snd.snd.snd.snd.snd.fst),(x21.snd.snd.snd.snd.snd.snd.fst),(x21.snd.snd.snd.snd.snd.snd.snd)))
    else
     ob (g_clone (8 : Nat) v1) fun x22 =>
     some ((x22),((v2.1),(v2.2.1),(v2.2.2.1),(v2.2.2.2.1),(v2.2.2.2.2.1),(v2.2.2.2.2.2.1),(v2.2.2.2.2.2.2)))
theorem h_event_Step (k : Nat) (v0_0 : Int) (v0_1 : Int) (v0_2 : Int) (v0_3 : Int) (v1 : (List Int)) (v2_0 : Int) (v2_1 : Int) (v2_2 : Int) (v2_3 : Int) (v2_4 : Int) (v2_5 : Int) (v2_6 : Int) : xC (k + 17) none 88 [(.agg [(.lit (.int .i64 v0_0)),(.lit (.int .i64 v0_1)),(.lit (.int .i64 v0_2)),(.lit (.int .i64 v0_3))]),(.ro (List.map (intR .u64) v1)),(.agg [(.lit (.int .i64 v2_0)),(.lit (.int .i64 v2_1)),(.lit (.int .i64 v2_2)),(.lit (.int .u64 v2_3)),(.lit (.int .u64 v2_4)),(.lit (.int .u64 v2_5)),(.lit (.int .i64 v2_6))])] = ob (g_event_Step k (v0_0,v0_1,v0_2,v0_3) v1 (v2_0,v2_1,v2_2,v2_3,v2_4,v2_5,v2_6)) fun r => some ((.tup [(.ro (List.map (intR .u64) r.1)),(.agg [(.lit (.int .i64 r.2.1)),(.lit (.int .i64 r.2.2.1)),(.lit (.int .i64 r.2.2.2.1)),(.lit (.int .u64 r.2.2.2.2.1)),(.lit (.int .u64 r.2.2.2.2.2.1)),(.lit (.int .u64 r.2.2.2.2.2.2.1)),(.lit (.int .i64 r.2.2.2.2.2.2.2))])]),[]) := by
  rw [xC_eq]
  unfold g_event_Step
  simp (maxSteps := 2000000) -implicitDefEqProofs only [xe88,xb88,xj88_0,xk88_0_ret,↓syP,syA,rtN,pureL,V.pure,nsh,stBk,V.kill,killL,spl,V.shift,shiftL,V.scal,scalL,intR,boolR,threeV,Nat.reduceAdd,Nat.reduceSub,Nat.reduceMul,Nat.reduceLT,Nat.reduceLeDiff,Nat.reduceEqDiff,Nat.reduceBEq,Nat.reduceBNe,Int.reduceBEq,Int.reduceBNe,Int.reduceLT,Int.reduceLE,Int.reduceAdd,Int.reduceSub,Int.reduceNeg,syQ,confV,frameV,listV,xF,xcallV,xcallC,xcallL,xcallY,xevY,xY_ready,xrange,xG_fn,xR,xA,xcl50,xclk50,xcl83,xclk83,xrp84,awk14',awk15',h_wait_Step,h_note_Step]
  all_goals simp -implicitDefEqProofs only [List.map_nil]
def g_poacherlaw16_Few_L0 (k : Nat) (v0 : (List (List Int)))  : Nat → Int → Option Bool
  | 0,_ => none
  | n + 1,s30 =>
    bif decide (s30 < (↑v0.length : Int)) then
     bif decide (s30 ≤ (10 : Int)) then
      ob (idx v0 s30) fun x33 =>
      bif decide ((30 : Int) < (↑x33.length : Int)) then
       some (false)
      else
       g_poacherlaw16_Few_L0 k v0  n (IntKind.i64.wrap (s30 + (1 : Int)))
     else
      some (decide ((↑v0.length : Int) ≤ (10 : Int)))
    else
     some (decide ((↑v0.length : Int) ≤ (10 : Int)))
theorem g_poacherlaw16_Few_L0_eq (k : Nat) (v0 : (List (List Int))) : ∀ (n : Nat) (s30 : Int),rt none (itX (xX (xS k) (45 : Nat) (0 : Nat) k false) xl45_0 ((0 : Nat)) (runK (xX (xS k) (45 : Nat) (0 : Nat) k false) (bodyK (xS k).P Try.f45) xk45_0) n ⟨[V.ro (List.map listV v0),uu,V.lit (Value.bool false),V.lit (Value.int IntKind.i64 s30),V.junk,V.junk,V.junk,V.junk,V.junk,V.junk,V.junk,V.junk,V.junk,V.junk,V.junk,V.junk,V.junk,V.junk,V.junk,V.junk,uu,uu,uu],[]⟩) = ob (g_poacherlaw16_Few_L0 k v0  n s30) fun r => some ((.lit (.bool r)),[]) := by
  intro n
  induction n with
  | zero => intros; rfl
  | succ n ih =>
    intro s30
    rw [g_poacherlaw16_Few_L0]
    simp (maxSteps := 2000000) -implicitDefEqProofs only [xe45,xb45,xz45,xj45_0,xm45_1,xk45_0_ret,xk45_1_ret,↓syP,syA,rtN,pureL,V.pure,nsh,stBk,V.kill,killL,spl,V.shift,shiftL,V.scal,scalL,intR,boolR,threeV,Nat.reduceAdd,Nat.reduceSub,Nat.reduceMul,Nat.reduceLT,Nat.reduceLeDiff,Nat.reduceEqDiff,Nat.reduceBEq,Nat.reduceBNe,Int.reduceBEq,Int.reduceBNe,Int.reduceLT,Int.reduceLE,Int.reduceAdd,Int.reduceSub,Int.reduceNeg,syQ,confV,frameV,listV,xF,xcallV,xcallC,xcallL,xcallY,xevY,xY_ready,xrange,xG_fn,xR,xA,xcl50,xclk50,xcl83,xclk83,xrp84,awk14',awk15',xr45_0,ih]
    all_goals simp -implicitDefEqProofs only [List.map_nil]
def g_poacherlaw16_Few (k : Nat) (v0 : (List (List Int))) : Option Bool :=
  g_poacherlaw16_Few_L0 k v0 (k) ((0 : Int))
theorem h_poacherlaw16_Few (k : Nat) (v0 : (List (List Int))) : xC (k + 1) none 45 [(.ro (List.map listV v0))] = ob (g_poacherlaw16_Few k v0) fun r => some ((.lit (.bool r)),[]) := by
  rw [xC_eq]
  unfold g_poacherlaw16_Few
  simp (maxSteps := 2000000) -implicitDefEqProofs only [xe45,xb45,xz45,xj45_0,xm45_1,xk45_0_ret,xk45_1_ret,↓syP,syA,rtN,pureL,V.pure,nsh,stBk,V.kill,killL,spl,V.shift,shiftL,V.scal,scalL,intR,boolR,threeV,Nat.reduceAdd,Nat.reduceSub,Nat.reduceMul,Nat.reduceLT,Nat.reduceLeDiff,Nat.reduceEqDiff,Nat.reduceBEq,Nat.reduceBNe,Int.reduceBEq,Int.reduceBNe,Int.reduceLT,Int.reduceLE,Int.reduceAdd,Int.reduceSub,Int.reduceNeg,syQ,confV,frameV,listV,xF,xcallV,xcallC,xcallL,xcallY,xevY,xY_ready,xrange,xG_fn,xR,xA,xcl50,xclk50,xcl83,xclk83,xrp84,awk14',awk15',g_poacherlaw16_Few_L0_eq k v0]
  all_goals simp -implicitDefEqProofs only [List.map_nil]
end Go.Ab
