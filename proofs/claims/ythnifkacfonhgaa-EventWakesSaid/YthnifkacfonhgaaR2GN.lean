/- Functions as they are walked: printed by Walk.lean. -/
import Derived.Test.YthnifkacfonhgaaR2GW
set_option linter.unusedVariables false
set_option linter.unusedSimpArgs false
set_option maxRecDepth 100000
set_option linter.unusedVariables false
set_option linter.unusedSimpArgs false
namespace Go.Ab
open Go.Proofs
def g_note_Goes (v0 : (Int × Int × Int × Int)) (v1 : (List Int)) (v2 : (Int × Int × Int × Int × Int × Int × Int)) : Option Bool :=
  bif v2.1 == (6 : Int) then
   ob (g_lay_May (v0.1,v0.2.1,v0.2.2.1,v0.2.2.2)) fun x7 =>
   bif x7 then
    ob (g_lay_Size (v0.1,v0.2.1,v0.2.2.1,v0.2.2.2)) fun x8 =>
    bif (↑v1.length : Int) == x8 then
     ob (g_frame_Over (v2.1,v2.2.1,v2.2.2.1,v2.2.2.2.1,v2.2.2.2.2.1,v2.2.2.2.2.2.1,v2.2.2.2.2.2.2)) fun x9 =>
     bif !x9 then
      bif decide ((0 : Int) ≤ v2.2.1) then
       some (decide (v2.2.1 ≤ (2 : Int)))
      else
       some (false)
     else
      some (false)
    else
     some (false)
   else
    some (false)
  else
   bif v2.1 == (7 : Int) then
    ob (g_lay_May (v0.1,v0.2.1,v0.2.2.1,v0.2.2.2)) fun x10 =>
    bif x10 then
     ob (g_lay_Size (v0.1,v0.2.1,v0.2.2.1,v0.2.2.2)) fun x11 =>
     bif (↑v1.length : Int) == x11 then
      ob (g_frame_Over (v2.1,v2.2.1,v2.2.2.1,v2.2.2.2.1,v2.2.2.2.2.1,v2.2.2.2.2.2.1,v2.2.2.2.2.2.2)) fun x12 =>
      bif !x12 then
       bif decide ((0 : Int) ≤ v2.2.1) then
        some (decide (v2.2.1 ≤ (2 : Int)))
       else
        some (false)
      else
       some (false)
     else
      some (false)
    else
     some (false)
   else
    some (false)
theorem h_note_Goes (k : Nat) (v0_0 : Int) (v0_1 : Int) (v0_2 : Int) (v0_3 : Int) (v1 : (List Int)) (v2_0 : Int) (v2_1 : Int) (v2_2 : Int) (v2_3 : Int) (v2_4 : Int) (v2_5 : Int) (v2_6 : Int) : xC (k + 15) none 38 [(.agg [(.lit (.int .i64 v0_0)),(.lit (.int .i64 v0_1)),(.lit (.int .i64 v0_2)),(.lit (.int .i64 v0_3))]),(.ro (List.map (intR .u64) v1)),(.agg [(.lit (.int .i64 v2_0)),(.lit (.int .i64 v2_1)),(.lit (.int .i64 v2_2)),(.lit (.int .u64 v2_3)),(.lit (.int .u64 v2_4)),(.lit (.int .u64 v2_5)),(.lit (.int .i64 v2_6))])] = ob (g_note_Goes (v0_0,v0_1,v0_2,v0_3) v1 (v2_0,v2_1,v2_2,v2_3,v2_4,v2_5,v2_6)) fun r => some ((.lit (.bool r)),[]) := by
  rw [xC_eq]
  unfold g_note_Goes
  simp (maxSteps := 2000000) -implicitDefEqProofs only [xe38,xb38,xm38_0,xm38_1,xm38_2,xm38_3,xm38_4,xk38_0_ret,xe77,xb77,xC_eq (g := 77),xe93,xb93,xe95,xb95,↓syP,syA,rtN,pureL,V.pure,nsh,stBk,V.kill,killL,spl,V.shift,shiftL,V.scal,scalL,intR,boolR,threeV,Nat.reduceAdd,Nat.reduceSub,Nat.reduceMul,Nat.reduceLT,Nat.reduceLeDiff,Nat.reduceEqDiff,Nat.reduceBEq,Nat.reduceBNe,Int.reduceBEq,Int.reduceBNe,Int.reduceLT,Int.reduceLE,Int.reduceAdd,Int.reduceSub,Int.reduceNeg,syQ,confV,frameV,listV,xF,xcallV,xcallC,xcallL,xcallY,xevY,xY_ready,xrange,xG_fn,xR,xA,xcl50,xclk50,xcl83,xclk83,awk14',awk15',h_lay_May,h_lay_Size,h_frame_Over]
  all_goals simp -implicitDefEqProofs only [List.map_nil]
def g_word_Pack (v0 : Int) (v1 : Int) : Option Int :=
  some (orI IntKind.u64 (shlI IntKind.u64 v0 (16 : Int)) (andI IntKind.u64 v1 (65535 : Int)))
theorem h_word_Pack (k : Nat) (v0 : Int) (v1 : Int) : xC (k + 1) none 76 [(.lit (.int .u64 v0)),(.lit (.int .u64 v1))] = ob (g_word_Pack v0 v1) fun r => some ((.lit (.int .u64 r)),[]) := by
  rw [xC_eq]
  unfold g_word_Pack
  simp (maxSteps := 2000000) -implicitDefEqProofs only [xe76,xb76,↓syP,syA,rtN,pureL,V.pure,nsh,stBk,V.kill,killL,spl,V.shift,shiftL,V.scal,scalL,intR,boolR,threeV,Nat.reduceAdd,Nat.reduceSub,Nat.reduceMul,Nat.reduceLT,Nat.reduceLeDiff,Nat.reduceEqDiff,Nat.reduceBEq,Nat.reduceBNe,Int.reduceBEq,Int.reduceBNe,Int.reduceLT,Int.reduceLE,Int.reduceAdd,Int.reduceSub,Int.reduceNeg,syQ,confV,frameV,listV,xF,xcallV,xcallC,xcallL,xcallY,xevY,xY_ready,xrange,xG_fn,xR,xA,xcl50,xclk50,xcl83,xclk83,awk14',awk15']
  all_goals simp -implicitDefEqProofs only [List.map_nil]
def g_word_Lowest_L0 (k : Nat) (v0 : Int)  : Nat → Int → Option Int
  | 0,_ => none
  | n + 1,s26 =>
    bif decide (s26 < (16 : Int)) then
     bif decide ((0 : Int) ≤ s26) then
      bif andI IntKind.u64 (shrI IntKind.u64 v0 s26) (1 : Int) == (1 : Int) then
       some (s26)
      else
       g_word_Lowest_L0 k v0  n (IntKind.i64.wrap (s26 + (1 : Int)))
     else
      none
    else
     some ((-1 : Int))
theorem g_word_Lowest_L0_eq (k : Nat) (v0 : Int) : ∀ (n : Nat) (s26 : Int) ⦃j25 : V⦄,rt none (bq (itX (xX (xS (k + (9 : Nat))) (98 : Nat) (0 : Nat) (k + (9 : Nat)) false) xl98_0 ((3 : Nat)) (runK (xX (xS (k + (9 : Nat))) (98 : Nat) (0 : Nat) (k + (9 : Nat)) false) (bodyK (xS (k + (9 : Nat))).P Try.f98) xk98_0) n ⟨[V.yld (2 : Nat),V.ptr (1 : Nat) (0 : Nat) (0 : Nat) (0 : Nat),uu,j25,V.lit (Value.int IntKind.i64 s26),V.junk,V.junk,V.junk,V.junk,V.junk,V.junk,V.junk,V.junk,V.junk,V.junk,V.junk,V.junk,V.junk,V.junk],[B.box [V.lit (Value.int IntKind.i64 (0 : Int))],B.box [V.lit (Value.int IntKind.u64 v0)],B.loop (Lp.mk LoopState.ready none (42 : Nat) [V.lit (Value.int IntKind.u64 v0),uu,V.ptr (0 : Nat) (0 : Nat) (0 : Nat) (0 : Nat),uu,V.lit (Value.int IntKind.u64 v0),V.fn (Fn.func (98 : FuncId)) [] [V.ptr (1 : Nat) (0 : Nat) (0 : Nat) (0 : Nat)],uu,uu] [(6 : Tmp)] xl42_0 xl42_1)]⟩) (rfK (runK (xX (xS (k + (10 : Nat))) (42 : Nat) (0 : Nat) (k + (10 : Nat)) false) (bodyK (xS (k + (10 : Nat))).P Try.f42) xk42_0) [V.lit (Value.int IntKind.u64 v0),uu,V.ptr (0 : Nat) (0 : Nat) (0 : Nat) (0 : Nat),uu,V.lit (Value.int IntKind.u64 v0),V.fn (Fn.func (98 : FuncId)) [] [V.ptr (1 : Nat) (0 : Nat) (0 : Nat) (0 : Nat)],uu,uu] ((2 : Nat)))) = ob (g_word_Lowest_L0 k v0  n s26) fun r => some ((.lit (.int .i64 r)),[]) := by
  intro n
  induction n with
  | zero => intros; rfl
  | succ n ih =>
    intro s26 j25
    rw [g_word_Lowest_L0]
    simp (maxSteps := 2000000) -implicitDefEqProofs only [xe42,xb42,xz42,xj42_0,xq42_1_0_1_0_1,xq42_1_0_1_0_0,xk42_0_ret,xq42_0_eq,xe81,xb81,xC_eq (g := 81),xe98,xb98,xz98,xj98_0,xm98_1,xk98_0_ret,xk98_1_ret,↓syP,syA,rtN,pureL,V.pure,nsh,stBk,V.kill,killL,spl,V.shift,shiftL,V.scal,scalL,intR,boolR,threeV,Nat.reduceAdd,Nat.reduceSub,Nat.reduceMul,Nat.reduceLT,Nat.reduceLeDiff,Nat.reduceEqDiff,Nat.reduceBEq,Nat.reduceBNe,Int.reduceBEq,Int.reduceBNe,Int.reduceLT,Int.reduceLE,Int.reduceAdd,Int.reduceSub,Int.reduceNeg,syQ,confV,frameV,listV,xF,xcallV,xcallC,xcallL,xcallY,xevY,xY_ready,xrange,xG_fn,xR,xA,xcl50,xclk50,xcl83,xclk83,awk14',awk15',xr98_0,ih]
    all_goals simp -implicitDefEqProofs only [List.map_nil]
def g_word_Lowest (k : Nat) (v0 : Int) : Option Int :=
  g_word_Lowest_L0 k v0 (k + (9 : Nat)) ((0 : Int))
theorem h_word_Lowest (k : Nat) (v0 : Int) : xC (k + 11) none 42 [(.lit (.int .u64 v0))] = ob (g_word_Lowest k v0) fun r => some ((.lit (.int .i64 r)),[]) := by
  rw [xC_eq]
  unfold g_word_Lowest
  simp (maxSteps := 2000000) -implicitDefEqProofs only [xe42,xb42,xz42,xj42_0,xq42_1_0_1_0_1,xq42_1_0_1_0_0,xk42_0_ret,xq42_0_eq,xe81,xb81,xC_eq (g := 81),xe98,xb98,xz98,xj98_0,xm98_1,xk98_0_ret,xk98_1_ret,↓syP,syA,rtN,pureL,V.pure,nsh,stBk,V.kill,killL,spl,V.shift,shiftL,V.scal,scalL,intR,boolR,threeV,Nat.reduceAdd,Nat.reduceSub,Nat.reduceMul,Nat.reduceLT,Nat.reduceLeDiff,Nat.reduceEqDiff,Nat.reduceBEq,Nat.reduceBNe,Int.reduceBEq,Int.reduceBNe,Int.reduceLT,Int.reduceLE,Int.reduceAdd,Int.reduceSub,Int.reduceNeg,syQ,confV,frameV,listV,xF,xcallV,xcallC,xcallL,xcallY,xevY,xY_ready,xrange,xG_fn,xR,xA,xcl50,xclk50,xcl83,xclk83,awk14',awk15',g_word_Lowest_L0_eq k v0]
  all_goals simp -implicitDefEqProofs only [List.map_nil]
def g_word_Bump (k : Nat) (v0 : Int) : Option (Int × Int) :=
  ob (g_word_Mask v0) fun x31 =>
  ob (g_word_Epoch v0) fun x32 =>
  ob (g_word_Pack (IntKind.u64.wrap (x32 + (1 : Int))) (andI IntKind.u64 x31 (IntKind.u64.wrap (x31 - (1 : Int))))) fun x33 =>
  ob (g_word_Lowest k x31) fun x34 =>
  some ((x33),(x34))
theorem h_word_Bump (k : Nat) (v0 : Int) : xC (k + 12) none 94 [(.lit (.int .u64 v0))] = ob (g_word_Bump k v0) fun r => some ((.tup [(.lit (.int .u64 r.1)),(.lit (.int .i64 r.2))]),[]) := by
  rw [xC_eq]
  unfold g_word_Bump
  simp (maxSteps := 2000000) -implicitDefEqProofs only [xe94,xb94,↓syP,syA,rtN,pureL,V.pure,nsh,stBk,V.kill,killL,spl,V.shift,shiftL,V.scal,scalL,intR,boolR,threeV,Nat.reduceAdd,Nat.reduceSub,Nat.reduceMul,Nat.reduceLT,Nat.reduceLeDiff,Nat.reduceEqDiff,Nat.reduceBEq,Nat.reduceBNe,Int.reduceBEq,Int.reduceBNe,Int.reduceLT,Int.reduceLE,Int.reduceAdd,Int.reduceSub,Int.reduceNeg,syQ,confV,frameV,listV,xF,xcallV,xcallC,xcallL,xcallY,xevY,xY_ready,xrange,xG_fn,xR,xA,xcl50,xclk50,xcl83,xclk83,awk14',awk15',h_word_Epoch,h_word_Mask,h_word_Pack,h_word_Lowest]
  all_goals simp -implicitDefEqProofs only [List.map_nil]
def g_note_kinds_1 (k : Nat) (v0 : Int) : Option (Int × Int) :=
  ob (g_word_Bump k v0) fun x40 =>
  some ((x40.fst),(IntKind.u64.wrap (bif decide (x40.snd < (0 : Int)) then (0 : Int) else x40.snd)))
theorem h_note_kinds_1 (k : Nat) (v0 : Int) : xC (k + 13) none 93 [(.lit (.int .u64 v0))] = ob (g_note_kinds_1 k v0) fun r => some ((.tup [(.lit (.int .u64 r.1)),(.lit (.int .u64 r.2))]),[]) := by
  rw [xC_eq]
  unfold g_note_kinds_1
  simp (maxSteps := 2000000) -implicitDefEqProofs only [xe93,xb93,↓syP,syA,rtN,pureL,V.pure,nsh,stBk,V.kill,killL,spl,V.shift,shiftL,V.scal,scalL,intR,boolR,threeV,Nat.reduceAdd,Nat.reduceSub,Nat.reduceMul,Nat.reduceLT,Nat.reduceLeDiff,Nat.reduceEqDiff,Nat.reduceBEq,Nat.reduceBNe,Int.reduceBEq,Int.reduceBNe,Int.reduceLT,Int.reduceLE,Int.reduceAdd,Int.reduceSub,Int.reduceNeg,syQ,confV,frameV,listV,xF,xcallV,xcallC,xcallL,xcallY,xevY,xY_ready,xrange,xG_fn,xR,xA,xcl50,xclk50,xcl83,xclk83,awk14',awk15',h_word_Bump]
  all_goals simp -implicitDefEqProofs only [List.map_nil]
def g_word_Wipe (v0 : Int) : Option Int :=
  ob (g_word_Epoch v0) fun x44 =>
  ob (g_word_Pack (IntKind.u64.wrap (x44 + (1 : Int))) (0 : Int)) fun x45 =>
  some (x45)
theorem h_word_Wipe (k : Nat) (v0 : Int) : xC (k + 2) none 96 [(.lit (.int .u64 v0))] = ob (g_word_Wipe v0) fun r => some ((.lit (.int .u64 r)),[]) := by
  rw [xC_eq]
  unfold g_word_Wipe
  simp (maxSteps := 2000000) -implicitDefEqProofs only [xe96,xb96,↓syP,syA,rtN,pureL,V.pure,nsh,stBk,V.kill,killL,spl,V.shift,shiftL,V.scal,scalL,intR,boolR,threeV,Nat.reduceAdd,Nat.reduceSub,Nat.reduceMul,Nat.reduceLT,Nat.reduceLeDiff,Nat.reduceEqDiff,Nat.reduceBEq,Nat.reduceBNe,Int.reduceBEq,Int.reduceBNe,Int.reduceLT,Int.reduceLE,Int.reduceAdd,Int.reduceSub,Int.reduceNeg,syQ,confV,frameV,listV,xF,xcallV,xcallC,xcallL,xcallY,xevY,xY_ready,xrange,xG_fn,xR,xA,xcl50,xclk50,xcl83,xclk83,awk14',awk15',h_word_Epoch,h_word_Pack]
  all_goals simp -implicitDefEqProofs only [List.map_nil]
def g_note_kinds_2 (v0 : Int) : Option (Int × Int) :=
  ob (g_word_Wipe v0) fun x50 =>
  ob (g_word_Mask v0) fun x51 =>
  some ((x50),(x51))
theorem h_note_kinds_2 (k : Nat) (v0 : Int) : xC (k + 3) none 95 [(.lit (.int .u64 v0))] = ob (g_note_kinds_2 v0) fun r => some ((.tup [(.lit (.int .u64 r.1)),(.lit (.int .u64 r.2))]),[]) := by
  rw [xC_eq]
  unfold g_note_kinds_2
  simp (maxSteps := 2000000) -implicitDefEqProofs only [xe95,xb95,↓syP,syA,rtN,pureL,V.pure,nsh,stBk,V.kill,killL,spl,V.shift,shiftL,V.scal,scalL,intR,boolR,threeV,Nat.reduceAdd,Nat.reduceSub,Nat.reduceMul,Nat.reduceLT,Nat.reduceLeDiff,Nat.reduceEqDiff,Nat.reduceBEq,Nat.reduceBNe,Int.reduceBEq,Int.reduceBNe,Int.reduceLT,Int.reduceLE,Int.reduceAdd,Int.reduceSub,Int.reduceNeg,syQ,confV,frameV,listV,xF,xcallV,xcallC,xcallL,xcallY,xevY,xY_ready,xrange,xG_fn,xR,xA,xcl50,xclk50,xcl83,xclk83,awk14',awk15',h_word_Mask,h_word_Wipe]
  all_goals simp -implicitDefEqProofs only [List.map_nil]
def g_note_wake_L0 (k : Nat) (v0 : (Int × Int × Int × Int)) (v1 : (List Int)) (v2 : (List Int))  : Nat → List Int → Int → Option (List Int)
  | 0,_,_ => none
  | n + 1,s58,s60 =>
    bif decide (s60 < (↑v2.length : Int)) then
     ob (idx v2 s60) fun x67 =>
     ob (g_lay_Park (v0.1,v0.2.1,v0.2.2.1,v0.2.2.2) x67) fun x68 =>
     ob (g_cell_Store s58 x68 (1 : Int)) fun x69 =>
     g_note_wake_L0 k v0 v1 v2  n (x69) (IntKind.i64.wrap (s60 + (1 : Int)))
    else
     some (s58)
theorem g_note_wake_L0_eq (k : Nat) (v0_0 : Int) (v0_1 : Int) (v0_2 : Int) (v0_3 : Int) (v1 : (List Int)) (v2 : (List Int)) : ∀ (n : Nat) (s58 : List Int) (s60 : Int) ⦃j59 : V⦄,rt none (itX (xX (xS (k + (12 : Nat))) (80 : Nat) (0 : Nat) (k + (12 : Nat)) false) xl80_0 ((2 : Nat)) (runK (xX (xS (k + (12 : Nat))) (80 : Nat) (0 : Nat) (k + (12 : Nat)) false) (bodyK (xS (k + (12 : Nat))).P Try.f80) xk80_0) n ⟨[V.agg [V.lit (Value.int IntKind.i64 v0_0),V.lit (Value.int IntKind.i64 v0_1),V.lit (Value.int IntKind.i64 v0_2),V.lit (Value.int IntKind.i64 v0_3)],V.ro (List.map (intR IntKind.u64) s58),V.ro (List.map (intR IntKind.i64) v2),V.ptr (0 : Nat) (0 : Nat) (0 : Nat) (0 : Nat),uu,uu,V.own (1 : Nat) (0 : Nat) (0 : Nat),uu,j59,V.ro (List.map (intR IntKind.i64) v2),V.lit (Value.int IntKind.i64 (↑v2.length : Int)),V.lit (Value.int IntKind.i64 s60),V.junk,V.junk,V.junk,V.junk,V.junk,V.junk,V.junk,V.junk,V.junk,uu],[B.box [V.lit (Value.int IntKind.i64 v0_0),V.lit (Value.int IntKind.i64 v0_1),V.lit (Value.int IntKind.i64 v0_2),V.lit (Value.int IntKind.i64 v0_3)],B.rows (0 : Nat) [] (0 : Nat) true]⟩) = ob (g_note_wake_L0 k (v0_0,v0_1,v0_2,v0_3) v1 v2  n s58 s60) fun r => some ((.ro (List.map (intR .u64) r)),[]) := by
  intro n
  induction n with
  | zero => intros; rfl
  | succ n ih =>
    intro s58 s60 j59
    rw [g_note_wake_L0]
    simp (maxSteps := 2000000) -implicitDefEqProofs only [xe80,xb80,xz80,xj80_0,xk80_0_ret,↓syP,syA,rtN,pureL,V.pure,nsh,stBk,V.kill,killL,spl,V.shift,shiftL,V.scal,scalL,intR,boolR,threeV,Nat.reduceAdd,Nat.reduceSub,Nat.reduceMul,Nat.reduceLT,Nat.reduceLeDiff,Nat.reduceEqDiff,Nat.reduceBEq,Nat.reduceBNe,Int.reduceBEq,Int.reduceBNe,Int.reduceLT,Int.reduceLE,Int.reduceAdd,Int.reduceSub,Int.reduceNeg,syQ,confV,frameV,listV,xF,xcallV,xcallC,xcallL,xcallY,xevY,xY_ready,xrange,xG_fn,xR,xA,xcl50,xclk50,xcl83,xclk83,awk14',awk15',h_lay_Park,h_cell_Store,xr80_0,ih]
    all_goals simp -implicitDefEqProofs only [List.map_nil]
def g_note_wake (k : Nat) (v0 : (Int × Int × Int × Int)) (v1 : (List Int)) (v2 : (List Int)) : Option (List Int) :=
  g_note_wake_L0 k v0 v1 v2 (k + (12 : Nat)) (v1) ((0 : Int))
theorem h_note_wake (k : Nat) (v0_0 : Int) (v0_1 : Int) (v0_2 : Int) (v0_3 : Int) (v1 : (List Int)) (v2 : (List Int)) : xC (k + 13) none 80 [(.agg [(.lit (.int .i64 v0_0)),(.lit (.int .i64 v0_1)),(.lit (.int .i64 v0_2)),(.lit (.int .i64 v0_3))]),(.ro (List.map (intR .u64) v1)),(.ro (List.map (intR .i64) v2))] = ob (g_note_wake k (v0_0,v0_1,v0_2,v0_3) v1 v2) fun r => some ((.ro (List.map (intR .u64) r)),[]) := by
  rw [xC_eq]
  unfold g_note_wake
  simp (maxSteps := 2000000) -implicitDefEqProofs only [xe80,xb80,xz80,xj80_0,xk80_0_ret,↓syP,syA,rtN,pureL,V.pure,nsh,stBk,V.kill,killL,spl,V.shift,shiftL,V.scal,scalL,intR,boolR,threeV,Nat.reduceAdd,Nat.reduceSub,Nat.reduceMul,Nat.reduceLT,Nat.reduceLeDiff,Nat.reduceEqDiff,Nat.reduceBEq,Nat.reduceBNe,Int.reduceBEq,Int.reduceBNe,Int.reduceLT,Int.reduceLE,Int.reduceAdd,Int.reduceSub,Int.reduceNeg,syQ,confV,frameV,listV,xF,xcallV,xcallC,xcallL,xcallY,xevY,xY_ready,xrange,xG_fn,xR,xA,xcl50,xclk50,xcl83,xclk83,awk14',awk15',g_note_wake_L0_eq k v0_0 v0_1 v0_2 v0_3 v1 v2]
  all_goals simp -implicitDefEqProofs only [List.map_nil]
def g_note_Step (k : Nat) (v0 : (Int × Int × Int × Int)) (v1 : (List Int)) (v2 : (Int × Int × Int × Int × Int × Int × Int)) : Option ((List Int) × (Int × Int × Int × Int × Int × Int × Int)) :=
  ob (g_clone (8 : Nat) v1) fun x92 =>
  ob (g_note_Goes (v0.1,v0.2.1,v0.2.2.1,v0.2.2.2) v1 (v2.1,v2.2.1,v2.2.2.1,v2.2.2.2.1,v2.2.2.2.2.1,v2.2.2.2.2.2.1,v2.2.2.2.2.2.2)) fun x93 =>
  bif !x93 then
   some ((x92),((v2.1),(v2.2.1),(v2.2.2.1),(v2.2.2.2.1),(v2.2.2.2.2.1),(v2.2.2.2.2.2.1),(v2.2.2.2.2.2.2)))
  else
   bif v2.2.1 == (0 : Int) then
    ob (g_cell_Load x92 (2 : Int)) fun x94 =>
    some ((x92),((v2.1),((1 : Int)),(v2.2.2.1),(v2.2.2.2.1),(x94),(v2.2.2.2.2.2.1),(v2.2.2.2.2.2.2)))
   else
    bif v2.2.1 == (1 : Int) then
     bif v2.1 == (6 : Int) then
      ob (g_note_kinds_1 (k + (2 : Nat)) v2.2.2.2.2.1) fun x95 =>
      ob (g_cell_Cas x92 (2 : Int) v2.2.2.2.2.1 x95.fst) fun x96 =>
      bif !x96.snd then
       some ((x96.fst),((v2.1),((0 : Int)),(v2.2.2.1),(v2.2.2.2.1),(v2.2.2.2.2.1),(v2.2.2.2.2.2.1),(v2.2.2.2.2.2.2)))
      else
       ob (g_word_Mask v2.2.2.2.2.1) fun x97 =>
       bif x97 == (0 : Int) then
        ob (g_frame_End (v2.1,(0 : Int),v2.2.2.1,v2.2.2.2.1,v2.2.2.2.2.1,v2.2.2.2.2.2.1,v2.2.2.2.2.2.2) (3 : Int) (0 : Int)) fun x98 =>
        some ((x96.fst),((x98.fst),(x98.snd.fst),(x98.snd.snd.fst),(x98.snd.snd.snd.fst),(x98.snd.snd.snd.snd.fst),(x98.snd.snd.snd.snd.snd.fst),(x98.snd.snd.snd.snd.snd.snd)))
       else
        some ((x96.fst),((v2.1),((2 : Int)),(v2.2.2.1),(v2.2.2.2.1),(v2.2.2.2.2.1),(x95.snd),(v2.2.2.2.2.2.2)))
     else
      bif v2.1 == (7 : Int) then
       ob (g_note_kinds_2 v2.2.2.2.2.1) fun x99 =>
       ob (g_cell_Cas x92 (2 : Int) v2.2.2.2.2.1 x99.fst) fun x100 =>
       bif !x100.snd then
        some ((x100.fst),((v2.1),((0 : Int)),(v2.2.2.1),(v2.2.2.2.1),(v2.2.2.2.2.1),(v2.2.2.2.2.2.1),(v2.2.2.2.2.2.2)))
       else
        ob (g_word_Mask v2.2.2.2.2.1) fun x101 =>
        bif x101 == (0 : Int) then
         ob (g_frame_End (v2.1,(0 : Int),v2.2.2.1,v2.2.2.2.1,v2.2.2.2.2.1,v2.2.2.2.2.2.1,v2.2.2.2.2.2.2) (3 : Int) (0 : Int)) fun x102 =>
         some ((x100.fst),((x102.fst),(x102.snd.fst),(x102.snd.snd.fst),(x102.snd.snd.snd.fst),(x102.snd.snd.snd.snd.fst),(x102.snd.snd.snd.snd.snd.fst),(x102.snd.snd.snd.snd.snd.snd)))
        else
         some ((x100.fst),((v2.1),((2 : Int)),(v2.2.2.1),(v2.2.2.2.1),(v2.2.2.2.2.1),(x99.snd),(v2.2.2.2.2.2.2)))
      else
       none
    else
     bif v2.1 == (6 : Int) then
      bif decide (v2.2.2.2.2.2.1 < (8 : Int)) then
       ob (g_note_wake (k + (2 : Nat)) (v0.1,v0.2.1,v0.2.2.1,v0.2.2.2) x92 [IntKind.i64.wrap v2.2.2.2.2.2.1]) fun x103 =>
       ob (g_frame_End (v2.1,v2.2.1,v2.2.2.1,v2.2.2.2.1,v2.2.2.2.2.1,v2.2.2.2.2.2.1,v2.2.2.2.2.2.2) (1 : Int) v2.2.2.2.2.2.1) fun x104 =>
       some ((x103),((x104.fst),(x104.snd.fst),(x104.snd.snd.fst),(x104.snd.snd.snd.fst),(x104.snd.snd.snd.snd.fst),(x104.snd.snd.snd.snd.snd.fst),(x104.snd.snd.snd.snd.snd.snd)))
      else
       ob (g_note_wake (k + (2 : Nat)) (v0.1,v0.2.1,v0.2.2.1,v0.2.2.2) x92 [(-1 : Int)]) fun x105 =>
       ob (g_frame_End (v2.1,v2.2.1,v2.2.2.1,v2.2.2.2.1,v2.2.2.2.2.1,v2.2.2.2.2.2.1,v2.2.2.2.2.2.2) (1 : Int) v2.2.2.2.2.2.1) fun x106 =>
       some ((x105),((x106.fst),(x106.snd.fst),(x106.snd.snd.fst),(x106.snd.snd.snd.fst),(x106.snd.snd.snd.snd.fst),(x106.snd.snd.snd.snd.snd.fst),(x106.snd.snd.snd.snd.snd.snd)))
     else
      ob (g_word_Lowest (k + (4 : Nat)) v2.2.2.2.2.2.1) fun x107 =>
      ob (g_note_wake (k + (2 : Nat)) (v0.1,v0.2.1,v0.2.2.1,v0.2.2.2) x92 [x107]) fun x108 =>
      ob (g_word_Mask v2.2.2.2.2.2.1) fun x109 =>
      bif andI IntKind.u64 x109 (IntKind.u64.wrap (x109 - (1 : Int))) == (0 : Int) then
       ob (g_word_Mask v2.2.2.2.2.1) fun x110 =>
       ob (g_frame_End (v2.1,v2.2.1,v2.2.2.1,v2.2.2.2.1,v2.2.2.2.2.1,x109,v2.2.2.2.2.2.2) (1 : Int) x110) fun x111 =>
       some ((x108),((x111.fst),(x111.snd.fst),(x111.snd.snd.fst),(x111.snd.snd.snd.fst),(x111.snd.snd.snd.snd.fst),(x111.snd.snd.snd.snd.snd.fst),(x111.snd.snd.snd.snd.snd.snd)))
      else
       bif x109 == (0 : Int) then
        ob (g_word_Mask v2.2.2.2.2.1) fun x112 =>
        ob (g_frame_End (v2.1,v2.2.1,v2.2.2.1,v2.2.2.2.1,v2.2.2.2.2.1,x109,v2.2.2.2.2.2.2) (1 : Int) x112) fun x113 =>
        some ((x108),((x113.fst),(x113.snd.fst),(x113.snd.snd.fst),(x113.snd.snd.snd.fst),(x113.snd.snd.snd.snd.fst),(x113.snd.snd.snd.snd.snd.fst),(x113.snd.snd.snd.snd.snd.snd)))
       else
        some ((x108),((v2.1),(v2.2.1),(v2.2.2.1),(v2.2.2.2.1),(v2.2.2.2.2.1),(andI IntKind.u64 x109 (IntKind.u64.wrap (x109 - (1 : Int)))),(v2.2.2.2.2.2.2)))
theorem h_note_Step (k : Nat) (v0_0 : Int) (v0_1 : Int) (v0_2 : Int) (v0_3 : Int) (v1 : (List Int)) (v2_0 : Int) (v2_1 : Int) (v2_2 : Int) (v2_3 : Int) (v2_4 : Int) (v2_5 : Int) (v2_6 : Int) : xC (k + 16) none 37 [(.agg [(.lit (.int .i64 v0_0)),(.lit (.int .i64 v0_1)),(.lit (.int .i64 v0_2)),(.lit (.int .i64 v0_3))]),(.ro (List.map (intR .u64) v1)),(.agg [(.lit (.int .i64 v2_0)),(.lit (.int .i64 v2_1)),(.lit (.int .i64 v2_2)),(.lit (.int .u64 v2_3)),(.lit (.int .u64 v2_4)),(.lit (.int .u64 v2_5)),(.lit (.int .i64 v2_6))])] = ob (g_note_Step k (v0_0,v0_1,v0_2,v0_3) v1 (v2_0,v2_1,v2_2,v2_3,v2_4,v2_5,v2_6)) fun r => some ((.tup [(.ro (List.map (intR .u64) r.1)),(.agg [(.lit (.int .i64 r.2.1)),(.lit (.int .i64 r.2.2.1)),(.lit (.int .i64 r.2.2.2.1)),(.lit (.int .u64 r.2.2.2.2.1)),(.lit (.int .u64 r.2.2.2.2.2.1)),(.lit (.int .u64 r.2.2.2.2.2.2.1)),(.lit (.int .i64 r.2.2.2.2.2.2.2))])]),[]) := by
  rw [xC_eq]
  unfold g_note_Step
  simp (maxSteps := 2000000) -implicitDefEqProofs only [xe37,xb37,xj37_0,xj37_1,xm37_2,xk37_0_ret,xk37_1_ret,xk37_2_ret,xe77,xb77,xC_eq (g := 77),xe93,xb93,xe95,xb95,↓syP,syA,rtN,pureL,V.pure,nsh,stBk,V.kill,killL,spl,V.shift,shiftL,V.scal,scalL,intR,boolR,threeV,Nat.reduceAdd,Nat.reduceSub,Nat.reduceMul,Nat.reduceLT,Nat.reduceLeDiff,Nat.reduceEqDiff,Nat.reduceBEq,Nat.reduceBNe,Int.reduceBEq,Int.reduceBNe,Int.reduceLT,Int.reduceLE,Int.reduceAdd,Int.reduceSub,Int.reduceNeg,syQ,confV,frameV,listV,xF,xcallV,xcallC,xcallL,xcallY,xevY,xY_ready,xrange,xG_fn,xR,xA,xcl50,xclk50,xcl83,xclk83,awk14',awk15',h_cell_Load,h_word_Mask,h_frame_End,h_cell_Cas,h_note_Goes,h_word_Lowest,h_note_kinds_1,h_note_kinds_2,h_note_wake]
  all_goals simp -implicitDefEqProofs only [List.map_nil]
def g_note_Owes (v0 : (Int × Int × Int × Int × Int × Int × Int)) (v1 : Int) : Option Bool :=
  ob (g_frame_Over (v0.1,v0.2.1,v0.2.2.1,v0.2.2.2.1,v0.2.2.2.2.1,v0.2.2.2.2.2.1,v0.2.2.2.2.2.2)) fun x137 =>
  bif x137 then
   some (false)
  else
   bif v0.2.1 != (2 : Int) then
    some (false)
   else
    bif decide (v1 < (0 : Int)) then
     some (false)
    else
     bif decide ((16 : Int) ≤ v1) then
      some (false)
     else
      bif v0.1 == (6 : Int) then
       bif v0.2.2.2.2.2.1 == IntKind.u64.wrap v1 then
        some (true)
       else
        bif v0.1 == (7 : Int) then
         bif decide ((0 : Int) ≤ v1) then
          some (andI IntKind.u64 (shrI IntKind.u64 v0.2.2.2.2.2.1 v1) (1 : Int) == (1 : Int))
         else
          none
        else
         some (false)
      else
       bif v0.1 == (7 : Int) then
        bif decide ((0 : Int) ≤ v1) then
         some (andI IntKind.u64 (shrI IntKind.u64 v0.2.2.2.2.2.1 v1) (1 : Int) == (1 : Int))
        else
         none
       else
        some (false)
theorem h_note_Owes (k : Nat) (v0_0 : Int) (v0_1 : Int) (v0_2 : Int) (v0_3 : Int) (v0_4 : Int) (v0_5 : Int) (v0_6 : Int) (v1 : Int) : xC (k + 2) none 39 [(.agg [(.lit (.int .i64 v0_0)),(.lit (.int .i64 v0_1)),(.lit (.int .i64 v0_2)),(.lit (.int .u64 v0_3)),(.lit (.int .u64 v0_4)),(.lit (.int .u64 v0_5)),(.lit (.int .i64 v0_6))]),(.lit (.int .i64 v1))] = ob (g_note_Owes (v0_0,v0_1,v0_2,v0_3,v0_4,v0_5,v0_6) v1) fun r => some ((.lit (.bool r)),[]) := by
  rw [xC_eq]
  unfold g_note_Owes
  simp (maxSteps := 2000000) -implicitDefEqProofs only [xe39,xb39,xm39_0,xm39_1,xm39_2,xm39_3,xm39_4,xm39_5,xm39_6,xm39_7,xm39_8,xm39_9,xm39_10,xm39_11,xk39_0_ret,xk39_1_ret,↓syP,syA,rtN,pureL,V.pure,nsh,stBk,V.kill,killL,spl,V.shift,shiftL,V.scal,scalL,intR,boolR,threeV,Nat.reduceAdd,Nat.reduceSub,Nat.reduceMul,Nat.reduceLT,Nat.reduceLeDiff,Nat.reduceEqDiff,Nat.reduceBEq,Nat.reduceBNe,Int.reduceBEq,Int.reduceBNe,Int.reduceLT,Int.reduceLE,Int.reduceAdd,Int.reduceSub,Int.reduceNeg,syQ,confV,frameV,listV,xF,xcallV,xcallC,xcallL,xcallY,xevY,xY_ready,xrange,xG_fn,xR,xA,xcl50,xclk50,xcl83,xclk83,awk14',awk15',h_frame_Over]
  all_goals simp -implicitDefEqProofs only [List.map_nil]
end Go.Ab
