/- Functions as they are walked: printed by Walk.lean. -/
import Derived.Test.YtcahlnoianbndaaR4GW
import Derived.Test.YtcahlnoianbndaaR4B3
set_option linter.unusedVariables false
set_option linter.unusedSimpArgs false
set_option maxRecDepth 100000
set_option linter.unusedVariables false
set_option linter.unusedSimpArgs false
namespace Go.Ab
open Go.Proofs
def g_note_Goes (v0 : (Int × Int × Int × Int)) (v1 : (List Int)) (v2 : (Int × Int × Int × Int × Int × Int × Int)) : Option Bool :=
  bif v2.1 == (6 : Int) then
   ob (g_lay_May (v0.1,v0.2.1,v0.2.2.1,v0.2.2.2)) fun x7 =>
   bif x7 then
    ob (g_lay_Size (v0.1,v0.2.1,v0.2.2.1,v0.2.2.2)) fun x8 =>
    bif (↑v1.length : Int) == x8 then
     ob (g_frame_Over (v2.1,v2.2.1,v2.2.2.1,v2.2.2.2.1,v2.2.2.2.2.1,v2.2.2.2.2.2.1,v2.2.2.2.2.2.2)) fun x9 =>
     bif !x9 then
      bif decide ((0 : Int) ≤ v2.2.1) then
       some (decide (v2.2.1 ≤ (2 : Int)))
      else
       some (false)
     else
      some (false)
    else
     some (false)
   else
    some (false)
  else
   bif v2.1 == (7 : Int) then
    ob (g_lay_May (v0.1,v0.2.1,v0.2.2.1,v0.2.2.2)) fun x10 =>
    bif x10 then
     ob (g_lay_Size (v0.1,v0.2.1,v0.2.2.1,v0.2.2.2)) fun x11 =>
     bif (↑v1.length : Int) == x11 then
      ob (g_frame_Over (v2.1,v2.2.1,v2.2.2.1,v2.2.2.2.1,v2.2.2.2.2.1,v2.2.2.2.2.2.1,v2.2.2.2.2.2.2)) fun x12 =>
      bif !x12 then
       bif decide ((0 : Int) ≤ v2.2.1) then
        some (decide (v2.2.1 ≤ (2 : Int)))
       else
        some (false)
      else
       some (false)
     else
      some (false)
    else
     some (false)
   else
    some (false)
theorem h_note_Goes (k : Nat) (v0_0 : Int) (v0_1 : Int) (v0_2 : Int) (v0_3 : Int) (v1 : (List Int)) (v2_0 : Int) (v2_1 : Int) (v2_2 : Int) (v2_3 : Int) (v2_4 : Int) (v2_5 : Int) (v2_6 : Int) : xC (k + 15) none 59 [(.agg [(.lit (.int .i64 v0_0)),(.lit (.int .i64 v0_1)),(.lit (.int .i64 v0_2)),(.lit (.int .i64 v0_3))]),(.ro (List.map (intR .u64) v1)),(.agg [(.lit (.int .i64 v2_0)),(.lit (.int .i64 v2_1)),(.lit (.int .i64 v2_2)),(.lit (.int .u64 v2_3)),(.lit (.int .u64 v2_4)),(.lit (.int .u64 v2_5)),(.lit (.int .i64 v2_6))])] = ob (g_note_Goes (v0_0,v0_1,v0_2,v0_3) v1 (v2_0,v2_1,v2_2,v2_3,v2_4,v2_5,v2_6)) fun r => some ((.lit (.bool r)),[]) := by
  rw [xC_eq]
  unfold g_note_Goes
  simp (maxSteps := 2000000) -implicitDefEqProofs only [xe59,xb59,xm59_0,xm59_1,xm59_2,xm59_3,xm59_4,xk59_0_ret,xe60,xb60,xC_eq (g := 60),xe82,xb82,xe84,xb84,↓syP,syA,rtN,pureL,V.pure,nsh,stBk,V.kill,killL,spl,V.shift,shiftL,V.scal,scalL,intR,boolR,threeV,Nat.reduceAdd,Nat.reduceSub,Nat.reduceMul,Nat.reduceLT,Nat.reduceLeDiff,Nat.reduceEqDiff,Nat.reduceBEq,Nat.reduceBNe,Int.reduceBEq,Int.reduceBNe,Int.reduceLT,Int.reduceLE,Int.reduceAdd,Int.reduceSub,Int.reduceNeg,syQ,confV,frameV,listV,subV,arC_nil,arC_cons,xF,xcallV,xcallC,xcallL,xcallY,xevY,xY_ready,xrange,xG_fn,xR,xA,xcl21,xclk21,xcl22,xclk22,h_lay_May,h_lay_Size,h_frame_Over]
  all_goals simp -implicitDefEqProofs only [List.map_nil]
def g_word_Pack (v0 : Int) (v1 : Int) : Option Int :=
  some (orI IntKind.u64 (shlI IntKind.u64 v0 (16 : Int)) (andI IntKind.u64 v1 (65535 : Int)))
theorem h_word_Pack (k : Nat) (v0 : Int) (v1 : Int) : xC (k + 1) none 94 [(.lit (.int .u64 v0)),(.lit (.int .u64 v1))] = ob (g_word_Pack v0 v1) fun r => some ((.lit (.int .u64 r)),[]) := by
  rw [xC_eq]
  unfold g_word_Pack
  simp (maxSteps := 2000000) -implicitDefEqProofs only [xe94,xb94,↓syP,syA,rtN,pureL,V.pure,nsh,stBk,V.kill,killL,spl,V.shift,shiftL,V.scal,scalL,intR,boolR,threeV,Nat.reduceAdd,Nat.reduceSub,Nat.reduceMul,Nat.reduceLT,Nat.reduceLeDiff,Nat.reduceEqDiff,Nat.reduceBEq,Nat.reduceBNe,Int.reduceBEq,Int.reduceBNe,Int.reduceLT,Int.reduceLE,Int.reduceAdd,Int.reduceSub,Int.reduceNeg,syQ,confV,frameV,listV,subV,arC_nil,arC_cons,xF,xcallV,xcallC,xcallL,xcallY,xevY,xY_ready,xrange,xG_fn,xR,xA,xcl21,xclk21,xcl22,xclk22]
  all_goals simp -implicitDefEqProofs only [List.map_nil]
def g_word_Lowest_L0 (k : Nat) (v0 : Int)  : Nat → Int → Option Int
  | 0,_ => none
  | n + 1,s21 =>
    bif decide (s21 < (16 : Int)) then
     bif decide ((0 : Int) ≤ s21) then
      bif andI IntKind.u64 (shrI IntKind.u64 v0 s21) (1 : Int) == (1 : Int) then
       some (s21)
      else
       g_word_Lowest_L0 k v0  n (IntKind.i64.wrap (s21 + (1 : Int)))
     else
      none
    else
     some ((-1 : Int))
theorem g_word_Lowest_L0_eq (k : Nat) (v0 : Int) : ∀ (n : Nat) (s21 : Int) ⦃j20 : V⦄,rt none (bq (itX (xX (xS (k + (9 : Nat))) (95 : Nat) (0 : Nat) (k + (9 : Nat)) false) xl95_0 ((3 : Nat)) (runK (xX (xS (k + (9 : Nat))) (95 : Nat) (0 : Nat) (k + (9 : Nat)) false) (bodyK (xS (k + (9 : Nat))).P Try.f95) xk95_0) n ⟨[V.yld (2 : Nat),V.ptr (1 : Nat) (0 : Nat) (0 : Nat) (0 : Nat),uu,j20,V.lit (Value.int IntKind.i64 s21),V.junk,V.junk,V.junk,V.junk,V.junk,V.junk,V.junk,V.junk,V.junk,V.junk,V.junk,V.junk,V.junk,V.junk],[B.box [V.lit (Value.int IntKind.i64 (0 : Int))],B.box [V.lit (Value.int IntKind.u64 v0)],(B.loop ⟨LoopState.ready,none,(65 : Nat),[V.lit (Value.int IntKind.u64 v0),uu,V.ptr (0 : Nat) (0 : Nat) (0 : Nat) (0 : Nat),uu,V.lit (Value.int IntKind.u64 v0),V.fn (Fn.func (95 : FuncId)) [] [V.ptr (1 : Nat) (0 : Nat) (0 : Nat) (0 : Nat)],uu,uu],[(6 : Tmp)],xl65_0,xl65_1⟩)]⟩) (rfK (runK (xX (xS (k + (10 : Nat))) (65 : Nat) (0 : Nat) (k + (10 : Nat)) false) (bodyK (xS (k + (10 : Nat))).P Try.f65) xk65_0) [V.lit (Value.int IntKind.u64 v0),uu,V.ptr (0 : Nat) (0 : Nat) (0 : Nat) (0 : Nat),uu,V.lit (Value.int IntKind.u64 v0),V.fn (Fn.func (95 : FuncId)) [] [V.ptr (1 : Nat) (0 : Nat) (0 : Nat) (0 : Nat)],uu,uu] ((2 : Nat)))) = ob (g_word_Lowest_L0 k v0  n s21) fun r => some ((.lit (.int .i64 r)),[]) := by
  intro n
  induction n with
  | zero => intros; rfl
  | succ n ih =>
    intro s21 j20
    rw [g_word_Lowest_L0]
    simp (maxSteps := 2000000) -implicitDefEqProofs only [xe65,xb65,xz65,xj65_0,xq65_1_0_1_0_1,xq65_1_0_1_0_0,xk65_0_ret,xq65_0_eq,xe87,xb87,xC_eq (g := 87),xe95,xb95,xz95,xj95_0,xm95_1,xk95_0_ret,xk95_1_ret,↓syP,syA,rtN,pureL,V.pure,nsh,stBk,V.kill,killL,spl,V.shift,shiftL,V.scal,scalL,intR,boolR,threeV,Nat.reduceAdd,Nat.reduceSub,Nat.reduceMul,Nat.reduceLT,Nat.reduceLeDiff,Nat.reduceEqDiff,Nat.reduceBEq,Nat.reduceBNe,Int.reduceBEq,Int.reduceBNe,Int.reduceLT,Int.reduceLE,Int.reduceAdd,Int.reduceSub,Int.reduceNeg,syQ,confV,frameV,listV,subV,arC_nil,arC_cons,xF,xcallV,xcallC,xcallL,xcallY,xevY,xY_ready,xrange,xG_fn,xR,xA,xcl21,xclk21,xcl22,xclk22,xr95_0,ih]
    all_goals simp -implicitDefEqProofs only [List.map_nil]
def g_word_Lowest (k : Nat) (v0 : Int) : Option Int :=
  g_word_Lowest_L0 k v0 (k + (9 : Nat)) ((0 : Int))
theorem h_word_Lowest (k : Nat) (v0 : Int) : xC (k + 11) none 65 [(.lit (.int .u64 v0))] = ob (g_word_Lowest k v0) fun r => some ((.lit (.int .i64 r)),[]) := by
  rw [xC_eq]
  unfold g_word_Lowest
  simp (maxSteps := 2000000) -implicitDefEqProofs only [xe65,xb65,xz65,xj65_0,xq65_1_0_1_0_1,xq65_1_0_1_0_0,xk65_0_ret,xq65_0_eq,xe87,xb87,xC_eq (g := 87),xe95,xb95,xz95,xj95_0,xm95_1,xk95_0_ret,xk95_1_ret,↓syP,syA,rtN,pureL,V.pure,nsh,stBk,V.kill,killL,spl,V.shift,shiftL,V.scal,scalL,intR,boolR,threeV,Nat.reduceAdd,Nat.reduceSub,Nat.reduceMul,Nat.reduceLT,Nat.reduceLeDiff,Nat.reduceEqDiff,Nat.reduceBEq,Nat.reduceBNe,Int.reduceBEq,Int.reduceBNe,Int.reduceLT,Int.reduceLE,Int.reduceAdd,Int.reduceSub,Int.reduceNeg,syQ,confV,frameV,listV,subV,arC_nil,arC_cons,xF,xcallV,xcallC,xcallL,xcallY,xevY,xY_ready,xrange,xG_fn,xR,xA,xcl21,xclk21,xcl22,xclk22,g_word_Lowest_L0_eq k v0]
  all_goals simp -implicitDefEqProofs only [List.map_nil]
def g_word_Bump (k : Nat) (v0 : Int) : Option (Int × Int) :=
  ob (g_word_Mask v0) fun x26 =>
  ob (g_word_Epoch v0) fun x27 =>
  ob (g_word_Pack (IntKind.u64.wrap (x27 + (1 : Int))) (andI IntKind.u64 x26 (IntKind.u64.wrap (x26 - (1 : Int))))) fun x28 =>
  ob (g_word_Lowest k x26) fun x29 =>
  some ((x28),(x29))
theorem h_word_Bump (k : Nat) (v0 : Int) : xC (k + 12) none 83 [(.lit (.int .u64 v0))] = ob (g_word_Bump k v0) fun r => some ((.tup [(.lit (.int .u64 r.1)),(.lit (.int .i64 r.2))]),[]) := by
  rw [xC_eq]
  unfold g_word_Bump
  simp (maxSteps := 2000000) -implicitDefEqProofs only [xe83,xb83,↓syP,syA,rtN,pureL,V.pure,nsh,stBk,V.kill,killL,spl,V.shift,shiftL,V.scal,scalL,intR,boolR,threeV,Nat.reduceAdd,Nat.reduceSub,Nat.reduceMul,Nat.reduceLT,Nat.reduceLeDiff,Nat.reduceEqDiff,Nat.reduceBEq,Nat.reduceBNe,Int.reduceBEq,Int.reduceBNe,Int.reduceLT,Int.reduceLE,Int.reduceAdd,Int.reduceSub,Int.reduceNeg,syQ,confV,frameV,listV,subV,arC_nil,arC_cons,xF,xcallV,xcallC,xcallL,xcallY,xevY,xY_ready,xrange,xG_fn,xR,xA,xcl21,xclk21,xcl22,xclk22,h_word_Epoch,h_word_Mask,h_word_Pack,h_word_Lowest]
  all_goals simp -implicitDefEqProofs only [List.map_nil]
def g_note_kinds_1 (k : Nat) (v0 : Int) : Option (Int × Int) :=
  ob (g_word_Bump k v0) fun x35 =>
  some ((x35.fst),(IntKind.u64.wrap (bif decide (x35.snd < (0 : Int)) then (0 : Int) else x35.snd)))
theorem h_note_kinds_1 (k : Nat) (v0 : Int) : xC (k + 13) none 82 [(.lit (.int .u64 v0))] = ob (g_note_kinds_1 k v0) fun r => some ((.tup [(.lit (.int .u64 r.1)),(.lit (.int .u64 r.2))]),[]) := by
  rw [xC_eq]
  unfold g_note_kinds_1
  simp (maxSteps := 2000000) -implicitDefEqProofs only [xe82,xb82,↓syP,syA,rtN,pureL,V.pure,nsh,stBk,V.kill,killL,spl,V.shift,shiftL,V.scal,scalL,intR,boolR,threeV,Nat.reduceAdd,Nat.reduceSub,Nat.reduceMul,Nat.reduceLT,Nat.reduceLeDiff,Nat.reduceEqDiff,Nat.reduceBEq,Nat.reduceBNe,Int.reduceBEq,Int.reduceBNe,Int.reduceLT,Int.reduceLE,Int.reduceAdd,Int.reduceSub,Int.reduceNeg,syQ,confV,frameV,listV,subV,arC_nil,arC_cons,xF,xcallV,xcallC,xcallL,xcallY,xevY,xY_ready,xrange,xG_fn,xR,xA,xcl21,xclk21,xcl22,xclk22,h_word_Bump]
  all_goals simp -implicitDefEqProofs only [List.map_nil]
def g_word_Wipe (v0 : Int) : Option Int :=
  ob (g_word_Epoch v0) fun x39 =>
  ob (g_word_Pack (IntKind.u64.wrap (x39 + (1 : Int))) (0 : Int)) fun x40 =>
  some (x40)
theorem h_word_Wipe (k : Nat) (v0 : Int) : xC (k + 2) none 85 [(.lit (.int .u64 v0))] = ob (g_word_Wipe v0) fun r => some ((.lit (.int .u64 r)),[]) := by
  rw [xC_eq]
  unfold g_word_Wipe
  simp (maxSteps := 2000000) -implicitDefEqProofs only [xe85,xb85,↓syP,syA,rtN,pureL,V.pure,nsh,stBk,V.kill,killL,spl,V.shift,shiftL,V.scal,scalL,intR,boolR,threeV,Nat.reduceAdd,Nat.reduceSub,Nat.reduceMul,Nat.reduceLT,Nat.reduceLeDiff,Nat.reduceEqDiff,Nat.reduceBEq,Nat.reduceBNe,Int.reduceBEq,Int.reduceBNe,Int.reduceLT,Int.reduceLE,Int.reduceAdd,Int.reduceSub,Int.reduceNeg,syQ,confV,frameV,listV,subV,arC_nil,arC_cons,xF,xcallV,xcallC,xcallL,xcallY,xevY,xY_ready,xrange,xG_fn,xR,xA,xcl21,xclk21,xcl22,xclk22,h_word_Epoch,h_word_Pack]
  all_goals simp -implicitDefEqProofs only [List.map_nil]
def g_note_kinds_2 (v0 : Int) : Option (Int × Int) :=
  ob (g_word_Wipe v0) fun x45 =>
  ob (g_word_Mask v0) fun x46 =>
  some ((x45),(x46))
theorem h_note_kinds_2 (k : Nat) (v0 : Int) : xC (k + 3) none 84 [(.lit (.int .u64 v0))] = ob (g_note_kinds_2 v0) fun r => some ((.tup [(.lit (.int .u64 r.1)),(.lit (.int .u64 r.2))]),[]) := by
  rw [xC_eq]
  unfold g_note_kinds_2
  simp (maxSteps := 2000000) -implicitDefEqProofs only [xe84,xb84,↓syP,syA,rtN,pureL,V.pure,nsh,stBk,V.kill,killL,spl,V.shift,shiftL,V.scal,scalL,intR,boolR,threeV,Nat.reduceAdd,Nat.reduceSub,Nat.reduceMul,Nat.reduceLT,Nat.reduceLeDiff,Nat.reduceEqDiff,Nat.reduceBEq,Nat.reduceBNe,Int.reduceBEq,Int.reduceBNe,Int.reduceLT,Int.reduceLE,Int.reduceAdd,Int.reduceSub,Int.reduceNeg,syQ,confV,frameV,listV,subV,arC_nil,arC_cons,xF,xcallV,xcallC,xcallL,xcallY,xevY,xY_ready,xrange,xG_fn,xR,xA,xcl21,xclk21,xcl22,xclk22,h_word_Mask,h_word_Wipe]
  all_goals simp -implicitDefEqProofs only [List.map_nil]
def g_note_wake_L0 (k : Nat) (v0 : (Int × Int × Int × Int)) (v1 : (List Int)) (v2 : (List Int))  : Nat → List Int → Int → Option (List Int)
  | 0,_,_ => none
  | n + 1,s53,s55 =>
    bif decide (s55 < (↑v2.length : Int)) then
     ob (idx v2 s55) fun x62 =>
     ob (g_lay_Park (v0.1,v0.2.1,v0.2.2.1,v0.2.2.2) x62) fun x63 =>
     ob (g_cell_Store s53 x63 (1 : Int)) fun x64 =>
     g_note_wake_L0 k v0 v1 v2  n (x64) (IntKind.i64.wrap (s55 + (1 : Int)))
    else
     some (s53)
theorem g_note_wake_L0_eq (k : Nat) (v0_0 : Int) (v0_1 : Int) (v0_2 : Int) (v0_3 : Int) (v1 : (List Int)) (v2 : (List Int)) : ∀ (n : Nat) (s53 : List Int) (s55 : Int) ⦃j54 : V⦄,rt none (itX (xX (xS (k + (12 : Nat))) (64 : Nat) (0 : Nat) (k + (12 : Nat)) false) xl64_0 ((2 : Nat)) (runK (xX (xS (k + (12 : Nat))) (64 : Nat) (0 : Nat) (k + (12 : Nat)) false) (bodyK (xS (k + (12 : Nat))).P Try.f64) xk64_0) n ⟨[V.agg [V.lit (Value.int IntKind.i64 v0_0),V.lit (Value.int IntKind.i64 v0_1),V.lit (Value.int IntKind.i64 v0_2),V.lit (Value.int IntKind.i64 v0_3)],V.ro (List.map (intR IntKind.u64) s53),V.ro (List.map (intR IntKind.i64) v2),V.ptr (0 : Nat) (0 : Nat) (0 : Nat) (0 : Nat),uu,uu,V.own (1 : Nat) (0 : Nat) (0 : Nat),uu,j54,V.ro (List.map (intR IntKind.i64) v2),V.lit (Value.int IntKind.i64 (↑v2.length : Int)),V.lit (Value.int IntKind.i64 s55),V.junk,V.junk,V.junk,V.junk,V.junk,V.junk,V.junk,V.junk,V.junk,uu],[B.box [V.lit (Value.int IntKind.i64 v0_0),V.lit (Value.int IntKind.i64 v0_1),V.lit (Value.int IntKind.i64 v0_2),V.lit (Value.int IntKind.i64 v0_3)],B.rows (0 : Nat) [] (0 : Nat) true]⟩) = ob (g_note_wake_L0 k (v0_0,v0_1,v0_2,v0_3) v1 v2  n s53 s55) fun r => some ((.ro (List.map (intR .u64) r)),[]) := by
  intro n
  induction n with
  | zero => intros; rfl
  | succ n ih =>
    intro s53 s55 j54
    rw [g_note_wake_L0]
    simp (maxSteps := 2000000) -implicitDefEqProofs only [xe64,xb64,xz64,xj64_0,xk64_0_ret,↓syP,syA,rtN,pureL,V.pure,nsh,stBk,V.kill,killL,spl,V.shift,shiftL,V.scal,scalL,intR,boolR,threeV,Nat.reduceAdd,Nat.reduceSub,Nat.reduceMul,Nat.reduceLT,Nat.reduceLeDiff,Nat.reduceEqDiff,Nat.reduceBEq,Nat.reduceBNe,Int.reduceBEq,Int.reduceBNe,Int.reduceLT,Int.reduceLE,Int.reduceAdd,Int.reduceSub,Int.reduceNeg,syQ,confV,frameV,listV,subV,arC_nil,arC_cons,xF,xcallV,xcallC,xcallL,xcallY,xevY,xY_ready,xrange,xG_fn,xR,xA,xcl21,xclk21,xcl22,xclk22,h_cell_Store,h_lay_Park,xr64_0,ih]
    all_goals simp -implicitDefEqProofs only [List.map_nil]
def g_note_wake (k : Nat) (v0 : (Int × Int × Int × Int)) (v1 : (List Int)) (v2 : (List Int)) : Option (List Int) :=
  g_note_wake_L0 k v0 v1 v2 (k + (12 : Nat)) (v1) ((0 : Int))
theorem h_note_wake (k : Nat) (v0_0 : Int) (v0_1 : Int) (v0_2 : Int) (v0_3 : Int) (v1 : (List Int)) (v2 : (List Int)) : xC (k + 13) none 64 [(.agg [(.lit (.int .i64 v0_0)),(.lit (.int .i64 v0_1)),(.lit (.int .i64 v0_2)),(.lit (.int .i64 v0_3))]),(.ro (List.map (intR .u64) v1)),(.ro (List.map (intR .i64) v2))] = ob (g_note_wake k (v0_0,v0_1,v0_2,v0_3) v1 v2) fun r => some ((.ro (List.map (intR .u64) r)),[]) := by
  rw [xC_eq]
  unfold g_note_wake
  simp (maxSteps := 2000000) -implicitDefEqProofs only [xe64,xb64,xz64,xj64_0,xk64_0_ret,↓syP,syA,rtN,pureL,V.pure,nsh,stBk,V.kill,killL,spl,V.shift,shiftL,V.scal,scalL,intR,boolR,threeV,Nat.reduceAdd,Nat.reduceSub,Nat.reduceMul,Nat.reduceLT,Nat.reduceLeDiff,Nat.reduceEqDiff,Nat.reduceBEq,Nat.reduceBNe,Int.reduceBEq,Int.reduceBNe,Int.reduceLT,Int.reduceLE,Int.reduceAdd,Int.reduceSub,Int.reduceNeg,syQ,confV,frameV,listV,subV,arC_nil,arC_cons,xF,xcallV,xcallC,xcallL,xcallY,xevY,xY_ready,xrange,xG_fn,xR,xA,xcl21,xclk21,xcl22,xclk22,g_note_wake_L0_eq k v0_0 v0_1 v0_2 v0_3 v1 v2]
  all_goals simp -implicitDefEqProofs only [List.map_nil]
def g_note_Step (k : Nat) (v0 : (Int × Int × Int × Int)) (v1 : (List Int)) (v2 : (Int × Int × Int × Int × Int × Int × Int)) : Option ((List Int) × (Int × Int × Int × Int × Int × Int × Int)) :=
  ob (g_clone (8 : Nat) v1) fun x87 =>
  ob (g_note_Goes (v0.1,v0.2.1,v0.2.2.1,v0.2.2.2) v1 (v2.1,v2.2.1,v2.2.2.1,v2.2.2.2.1,v2.2.2.2.2.1,v2.2.2.2.2.2.1,v2.2.2.2.2.2.2)) fun x88 =>
  bif !x88 then
   some ((x87),((v2.1),(v2.2.1),(v2.2.2.1),(v2.2.2.2.1),(v2.2.2.2.2.1),(v2.2.2.2.2.2.1),(v2.2.2.2.2.2.2)))
  else
   bif v2.2.1 == (0 : Int) then
    ob (g_cell_Load x87 (2 : Int)) fun x89 =>
    some ((x87),((v2.1),((1 : Int)),(v2.2.2.1),(v2.2.2.2.1),(x89),(v2.2.2.2.2.2.1),(v2.2.2.2.2.2.2)))
   else
    bif v2.2.1 == (1 : Int) then
     bif v2.1 == (6 : Int) then
      ob (g_note_kinds_1 (k + (2 : Nat)) v2.2.2.2.2.1) fun x90 =>
      ob (g_cell_Cas x87 (2 : Int) v2.2.2.2.2.1 x90.fst) fun x91 =>
      bif !x91.snd then
       some ((x91.fst),((v2.1),((0 : Int)),(v2.2.2.1),(v2.2.2.2.1),(v2.2.2.2.2.1),(v2.2.2.2.2.2.1),(v2.2.2.2.2.2.2)))
      else
       ob (g_word_Mask v2.2.2.2.2.1) fun x92 =>
       bif x92 == (0 : Int) then
        ob (g_frame_End (v2.1,(0 : Int),v2.2.2.1,v2.2.2.2.1,v2.2.2.2.2.1,v2.2.2.2.2.2.1,v2.2.2.2.2.2.2) (3 : Int) (0 : Int)) fun x93 =>
        some ((x91.fst),((x93.fst),(x93.snd.fst),(x93.snd.snd.fst),(x93.snd.snd.snd.fst),(x93.snd.snd.snd.snd.fst),(x93.snd.snd.snd.snd.snd.fst),(x93.snd.snd.snd.snd.snd.snd)))
       else
        some ((x91.fst),((v2.1),((2 : Int)),(v2.2.2.1),(v2.2.2.2.1),(v2.2.2.2.2.1),(x90.snd),(v2.2.2.2.2.2.2)))
     else
      bif v2.1 == (7 : Int) then
       ob (g_note_kinds_2 v2.2.2.2.2.1) fun x94 =>
       ob (g_cell_Cas x87 (2 : Int) v2.2.2.2.2.1 x94.fst) fun x95 =>
       bif !x95.snd then
        some ((x95.fst),((v2.1),((0 : Int)),(v2.2.2.1),(v2.2.2.2.1),(v2.2.2.2.2.1),(v2.2.2.2.2.2.1),(v2.2.2.2.2.2.2)))
       else
        ob (g_word_Mask v2.2.2.2.2.1) fun x96 =>
        bif x96 == (0 : Int) then
         ob (g_frame_End (v2.1,(0 : Int),v2.2.2.1,v2.2.2.2.1,v2.2.2.2.2.1,v2.2.2.2.2.2.1,v2.2.2.2.2.2.2) (3 : Int) (0 : Int)) fun x97 =>
         some ((x95.fst),((x97.fst),(x97.snd.fst),(x97.snd.snd.fst),(x97.snd.snd.snd.fst),(x97.snd.snd.snd.snd.fst),(x97.snd.snd.snd.snd.snd.fst),(x97.snd.snd.snd.snd.snd.snd)))
        else
         some ((x95.fst),((v2.1),((2 : Int)),(v2.2.2.1),(v2.2.2.2.1),(v2.2.2.2.2.1),(x94.snd),(v2.2.2.2.2.2.2)))
      else
       none
    else
     bif v2.1 == (6 : Int) then
      bif decide (v2.2.2.2.2.2.1 < (8 : Int)) then
       ob (g_note_wake (k + (2 : Nat)) (v0.1,v0.2.1,v0.2.2.1,v0.2.2.2) x87 [IntKind.i64.wrap v2.2.2.2.2.2.1]) fun x98 =>
       ob (g_frame_End (v2.1,v2.2.1,v2.2.2.1,v2.2.2.2.1,v2.2.2.2.2.1,v2.2.2.2.2.2.1,v2.2.2.2.2.2.2) (1 : Int) v2.2.2.2.2.2.1) fun x99 =>
       some ((x98),((x99.fst),(x99.snd.fst),(x99.snd.snd.fst),(x99.snd.snd.snd.fst),(x99.snd.snd.snd.snd.fst),(x99.snd.snd.snd.snd.snd.fst),(x99.snd.snd.snd.snd.snd.snd)))
      else
       ob (g_note_wake (k + (2 : Nat)) (v0.1,v0.2.1,v0.2.2.1,v0.2.2.2) x87 [(-1 : Int)]) fun x100 =>
       ob (g_frame_End (v2.1,v2.2.1,v2.2.2.1,v2.2.2.2.1,v2.2.2.2.2.1,v2.2.2.2.2.2.1,v2.2.2.2.2.2.2) (1 : Int) v2.2.2.2.2.2.1) fun x101 =>
       some ((x100),((x101.fst),(x101.snd.fst),(x101.snd.snd.fst),(x101.snd.snd.snd.fst),(x101.snd.snd.snd.snd.fst),(x101.snd.snd.snd.snd.snd.fst),(x101.snd.snd.snd.snd.snd.snd)))
     else
      ob (g_word_Lowest (k + (4 : Nat)) v2.2.2.2.2.2.1) fun x102 =>
      ob (g_note_wake (k + (2 : Nat)) (v0.1,v0.2.1,v0.2.2.1,v0.2.2.2) x87 [x102]) fun x103 =>
      ob (g_word_Mask v2.2.2.2.2.2.1) fun x104 =>
      bif andI IntKind.u64 x104 (IntKind.u64.wrap (x104 - (1 : Int))) == (0 : Int) then
       ob (g_word_Mask v2.2.2.2.2.1) fun x105 =>
       ob (g_frame_End (v2.1,v2.2.1,v2.2.2.1,v2.2.2.2.1,v2.2.2.2.2.1,x104,v2.2.2.2.2.2.2) (1 : Int) x105) fun x106 =>
       some ((x103),((x106.fst),(x106.snd.fst),(x106.snd.snd.fst),(x106.snd.snd.snd.fst),(x106.snd.snd.snd.snd.fst),(x106.snd.snd.snd.snd.snd.fst),(x106.snd.snd.snd.snd.snd.snd)))
      else
       bif x104 == (0 : Int) then
        ob (g_word_Mask v2.2.2.2.2.1) fun x107 =>
        ob (g_frame_End (v2.1,v2.2.1,v2.2.2.1,v2.2.2.2.1,v2.2.2.2.2.1,x104,v2.2.2.2.2.2.2) (1 : Int) x107) fun x108 =>
        some ((x103),((x108.fst),(x108.snd.fst),(x108.snd.snd.fst),(x108.snd.snd.snd.fst),(x108.snd.snd.snd.snd.fst),(x108.snd.snd.snd.snd.snd.fst),(x108.snd.snd.snd.snd.snd.snd)))
       else
        some ((x103),((v2.1),(v2.2.1),(v2.2.2.1),(v2.2.2.2.1),(v2.2.2.2.2.1),(andI IntKind.u64 x104 (IntKind.u64.wrap (x104 - (1 : Int)))),(v2.2.2.2.2.2.2)))
theorem h_note_Step (k : Nat) (v0_0 : Int) (v0_1 : Int) (v0_2 : Int) (v0_3 : Int) (v1 : (List Int)) (v2_0 : Int) (v2_1 : Int) (v2_2 : Int) (v2_3 : Int) (v2_4 : Int) (v2_5 : Int) (v2_6 : Int) : xC (k + 16) none 45 [(.agg [(.lit (.int .i64 v0_0)),(.lit (.int .i64 v0_1)),(.lit (.int .i64 v0_2)),(.lit (.int .i64 v0_3))]),(.ro (List.map (intR .u64) v1)),(.agg [(.lit (.int .i64 v2_0)),(.lit (.int .i64 v2_1)),(.lit (.int .i64 v2_2)),(.lit (.int .u64 v2_3)),(.lit (.int .u64 v2_4)),(.lit (.int .u64 v2_5)),(.lit (.int .i64 v2_6))])] = ob (g_note_Step k (v0_0,v0_1,v0_2,v0_3) v1 (v2_0,v2_1,v2_2,v2_3,v2_4,v2_5,v2_6)) fun r => some ((.tup [(.ro (List.map (intR .u64) r.1)),(.agg [(.lit (.int .i64 r.2.1)),(.lit (.int .i64 r.2.2.1)),(.lit (.int .i64 r.2.2.2.1)),(.lit (.int .u64 r.2.2.2.2.1)),(.lit (.int .u64 r.2.2.2.2.2.1)),(.lit (.int .u64 r.2.2.2.2.2.2.1)),(.lit (.int .i64 r.2.2.2.2.2.2.2))])]),[]) := by
  rw [xC_eq]
  unfold g_note_Step
  simp (maxSteps := 2000000) -implicitDefEqProofs only [xe45,xb45,xj45_0,xj45_1,xm45_2,xk45_0_ret,xk45_1_ret,xk45_2_ret,xe60,xb60,xC_eq (g := 60),xe82,xb82,xe84,xb84,↓syP,syA,rtN,pureL,V.pure,nsh,stBk,V.kill,killL,spl,V.shift,shiftL,V.scal,scalL,intR,boolR,threeV,Nat.reduceAdd,Nat.reduceSub,Nat.reduceMul,Nat.reduceLT,Nat.reduceLeDiff,Nat.reduceEqDiff,Nat.reduceBEq,Nat.reduceBNe,Int.reduceBEq,Int.reduceBNe,Int.reduceLT,Int.reduceLE,Int.reduceAdd,Int.reduceSub,Int.reduceNeg,syQ,confV,frameV,listV,subV,arC_nil,arC_cons,xF,xcallV,xcallC,xcallL,xcallY,xevY,xY_ready,xrange,xG_fn,xR,xA,xcl21,xclk21,xcl22,xclk22,h_cell_Load,h_cell_Cas,h_frame_End,h_word_Mask,h_note_Goes,h_word_Lowest,h_note_kinds_1,h_note_kinds_2,h_note_wake]
  all_goals simp -implicitDefEqProofs only [List.map_nil]
end Go.Ab
