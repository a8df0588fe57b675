/- Functions as they are walked: printed by Walk.lean. -/
import Derived.Test.YtcmdnjaenhbdpaaGreatR5GW
set_option linter.unusedVariables false
set_option linter.unusedSimpArgs false
set_option maxRecDepth 100000
set_option linter.unusedVariables false
set_option linter.unusedSimpArgs false
namespace Go.Ab
open Go.Proofs
def g_note_Goes (v0 : (Int × Int × Int × Int)) (v1 : (List Int)) (v2 : (Int × Int × Int × Int × Int × Int × Int)) : Option Bool :=
 bif v2.1 == 6 then
 ob (g_lay_May v0) fun x7 =>
 bif x7 then
 ob (g_lay_Size v0) fun x8 =>
 bif (↑v1.length : Int) == x8 then
 ob (g_frame_Over v2) fun x9 =>
 bif !x9 then
 bif decide (0 ≤ v2.2.1) then
 some (decide (v2.2.1 ≤ 2))
 else
 some false
 else
 some false
 else
 some false
 else
 some false
 else
 bif v2.1 == 7 then
 ob (g_lay_May v0) fun x10 =>
 bif x10 then
 ob (g_lay_Size v0) fun x11 =>
 bif (↑v1.length : Int) == x11 then
 ob (g_frame_Over v2) fun x12 =>
 bif !x12 then
 bif decide (0 ≤ v2.2.1) then
 some (decide (v2.2.1 ≤ 2))
 else
 some false
 else
 some false
 else
 some false
 else
 some false
 else
 some false
theorem h_note_Goes (k : Nat) (v0_0 v0_1 v0_2 v0_3 : Int) (v1 : List Int) (v2_0 v2_1 v2_2 v2_3 v2_4 v2_5 v2_6 : Int) : xC (k + 15) none 100 [.agg [.lit (.int .i64 v0_0),.lit (.int .i64 v0_1),.lit (.int .i64 v0_2),.lit (.int .i64 v0_3)],.ro (List.map (intR .u64) v1),.agg [.lit (.int .i64 v2_0),.lit (.int .i64 v2_1),.lit (.int .i64 v2_2),.lit (.int .u64 v2_3),.lit (.int .u64 v2_4),.lit (.int .u64 v2_5),.lit (.int .i64 v2_6)]] = ob (g_note_Goes (v0_0,v0_1,v0_2,v0_3) v1 (v2_0,v2_1,v2_2,v2_3,v2_4,v2_5,v2_6)) fun r => some ((.lit (.bool r)),[]) := by
  rw [xC_eq]
  unfold g_note_Goes
  simp (maxSteps := 2000000) -implicitDefEqProofs only [xe100,xb100,xm100_0,xm100_1,xm100_2,xm100_3,xm100_4,xk100_0_ret,xe101,xb101,xC_eq (g := 101),xe131,xb131,xe133,xb133,↓syP,syA,syD,Nat.reduceAdd,Nat.reduceSub,Nat.reduceMul,Nat.reduceLT,Nat.reduceLeDiff,Nat.reduceEqDiff,Nat.reduceBEq,Nat.reduceBNe,Int.reduceBEq,Int.reduceBNe,Int.reduceLT,Int.reduceLE,Int.reduceAdd,Int.reduceSub,Int.reduceNeg,syE,xQ,h_lay_May,h_lay_Size,h_frame_Over]
  all_goals simp -implicitDefEqProofs only [List.map_nil]
def g_word_Pack (v0 : Int) (v1 : Int) : Option Int :=
 some (orI IntKind.u64 (shlI IntKind.u64 v0 16) (andI IntKind.u64 v1 65535))
theorem h_word_Pack (k : Nat) (v0 v1 : Int) : xC (k + 1) none 144 [.lit (.int .u64 v0),.lit (.int .u64 v1)] = ob (g_word_Pack v0 v1) fun r => some ((.lit (.int .u64 r)),[]) := by
  rw [xC_eq]
  unfold g_word_Pack
  simp (maxSteps := 2000000) -implicitDefEqProofs only [xe144,xb144,↓syP,syA,syD,Nat.reduceAdd,Nat.reduceSub,Nat.reduceMul,Nat.reduceLT,Nat.reduceLeDiff,Nat.reduceEqDiff,Nat.reduceBEq,Nat.reduceBNe,Int.reduceBEq,Int.reduceBNe,Int.reduceLT,Int.reduceLE,Int.reduceAdd,Int.reduceSub,Int.reduceNeg,syE,xQ]
  all_goals simp -implicitDefEqProofs only [List.map_nil]
def g_word_Lowest_L0 (k : Nat) (v0 : Int)  : Nat → Int → Option Int
 | 0,_ => none
 | n + 1,s21 =>
 bif decide (s21 < (16 : Int)) then
 bif decide ((0 : Int) ≤ s21) then
 bif andI IntKind.u64 (shrI IntKind.u64 v0 s21) (1 : Int) == (1 : Int) then
 some (s21)
 else
 g_word_Lowest_L0 k v0  n (IntKind.i64.wrap (s21 + (1 : Int)))
 else
 none
 else
 some ((-1 : Int))
theorem g_word_Lowest_L0_eq (k : Nat) (v0 : Int) : ∀ (n : Nat) (s21 : Int) ⦃j20 : V⦄,rt none (bq (itX (xX (xS (k + (9 : Nat))) (145 : Nat) (0 : Nat) (k + (9 : Nat)) false) xl145_0 ((3 : Nat)) (runK (xX (xS (k + (9 : Nat))) (145 : Nat) (0 : Nat) (k + (9 : Nat)) false) (bodyK (xS (k + (9 : Nat))).P Tryz.f145) xk145_0) n ⟨[V.yld (2 : Nat),V.ptr (1 : Nat) (0 : Nat) (0 : Nat) (0 : Nat),uu,j20,V.lit (Value.int IntKind.i64 s21),V.junk,V.junk,V.junk,V.junk,V.junk,V.junk,V.junk,V.junk,V.junk,V.junk,V.junk,V.junk,V.junk,V.junk],[B.box [V.lit (Value.int IntKind.i64 (0 : Int))],B.box [V.lit (Value.int IntKind.u64 v0)],(B.loop ⟨LoopState.ready,none,(106 : Nat),[V.lit (Value.int IntKind.u64 v0),uu,V.ptr (0 : Nat) (0 : Nat) (0 : Nat) (0 : Nat),uu,V.lit (Value.int IntKind.u64 v0),V.fn (Fn.func (145 : FuncId)) [] [V.ptr (1 : Nat) (0 : Nat) (0 : Nat) (0 : Nat)],uu,uu],[(6 : Tmp)],xl106_0,xl106_1⟩)]⟩) (rfK (runK (xX (xS (k + (10 : Nat))) (106 : Nat) (0 : Nat) (k + (10 : Nat)) false) (bodyK (xS (k + (10 : Nat))).P Tryz.f106) xk106_0) [V.lit (Value.int IntKind.u64 v0),uu,V.ptr (0 : Nat) (0 : Nat) (0 : Nat) (0 : Nat),uu,V.lit (Value.int IntKind.u64 v0),V.fn (Fn.func (145 : FuncId)) [] [V.ptr (1 : Nat) (0 : Nat) (0 : Nat) (0 : Nat)],uu,uu] ((2 : Nat)))) = ob (g_word_Lowest_L0 k v0  n s21) fun r => some ((.lit (.int .i64 r)),[]) := by
  intro n
  induction n with
  | zero => intros; rfl
  | succ n ih =>
    intro s21 j20
    rw [g_word_Lowest_L0]
    simp (maxSteps := 2000000) -implicitDefEqProofs only [xe106,xb106,xz106,xj106_0,xq106_1_0_1_0_1,xq106_1_0_1_0_0,xk106_0_ret,xq106_0_eq,xe136,xb136,xC_eq (g := 136),xe145,xb145,xz145,xj145_0,xm145_1,xk145_0_ret,xk145_1_ret,↓syP,syA,syD,Nat.reduceAdd,Nat.reduceSub,Nat.reduceMul,Nat.reduceLT,Nat.reduceLeDiff,Nat.reduceEqDiff,Nat.reduceBEq,Nat.reduceBNe,Int.reduceBEq,Int.reduceBNe,Int.reduceLT,Int.reduceLE,Int.reduceAdd,Int.reduceSub,Int.reduceNeg,syE,xQ,xr145_0,ih]
    all_goals simp -implicitDefEqProofs only [List.map_nil]
def g_word_Lowest (k : Nat) (v0 : Int) : Option Int :=
 g_word_Lowest_L0 k v0 (k + 9) 0
theorem h_word_Lowest (k : Nat) (v0 : Int) : xC (k + 11) none 106 [.lit (.int .u64 v0)] = ob (g_word_Lowest k v0) fun r => some ((.lit (.int .i64 r)),[]) := by
  rw [xC_eq]
  unfold g_word_Lowest
  simp (maxSteps := 2000000) -implicitDefEqProofs only [xe106,xb106,xz106,xj106_0,xq106_1_0_1_0_1,xq106_1_0_1_0_0,xk106_0_ret,xq106_0_eq,xe136,xb136,xC_eq (g := 136),xe145,xb145,xz145,xj145_0,xm145_1,xk145_0_ret,xk145_1_ret,↓syP,syA,syD,Nat.reduceAdd,Nat.reduceSub,Nat.reduceMul,Nat.reduceLT,Nat.reduceLeDiff,Nat.reduceEqDiff,Nat.reduceBEq,Nat.reduceBNe,Int.reduceBEq,Int.reduceBNe,Int.reduceLT,Int.reduceLE,Int.reduceAdd,Int.reduceSub,Int.reduceNeg,syE,xQ,g_word_Lowest_L0_eq k v0]
  all_goals simp -implicitDefEqProofs only [List.map_nil]
def g_word_Bump (k : Nat) (v0 : Int) : Option (Int × Int) :=
 ob (g_word_Mask v0) fun x26 =>
 ob (g_word_Epoch v0) fun x27 =>
 ob (g_word_Pack (IntKind.u64.wrap (x27 + 1)) (andI IntKind.u64 x26 (IntKind.u64.wrap (x26 - 1)))) fun x28 =>
 ob (g_word_Lowest k x26) fun x29 =>
 some (x28,x29)
theorem h_word_Bump (k : Nat) (v0 : Int) : xC (k + 12) none 132 [.lit (.int .u64 v0)] = ob (g_word_Bump k v0) fun r => some ((.tup [.lit (.int .u64 r.1),.lit (.int .i64 r.2)]),[]) := by
  rw [xC_eq]
  unfold g_word_Bump
  simp (maxSteps := 2000000) -implicitDefEqProofs only [xe132,xb132,↓syP,syA,syD,Nat.reduceAdd,Nat.reduceSub,Nat.reduceMul,Nat.reduceLT,Nat.reduceLeDiff,Nat.reduceEqDiff,Nat.reduceBEq,Nat.reduceBNe,Int.reduceBEq,Int.reduceBNe,Int.reduceLT,Int.reduceLE,Int.reduceAdd,Int.reduceSub,Int.reduceNeg,syE,xQ,h_word_Epoch,h_word_Mask,h_word_Pack,h_word_Lowest]
  all_goals simp -implicitDefEqProofs only [List.map_nil]
def g_note_kinds_1 (k : Nat) (v0 : Int) : Option (Int × Int) :=
 ob (g_word_Bump k v0) fun x35 =>
 some (x35.1,(IntKind.u64.wrap (bif decide (x35.2 < 0) then 0 else x35.2)))
theorem h_note_kinds_1 (k : Nat) (v0 : Int) : xC (k + 13) none 131 [.lit (.int .u64 v0)] = ob (g_note_kinds_1 k v0) fun r => some ((.tup [.lit (.int .u64 r.1),.lit (.int .u64 r.2)]),[]) := by
  rw [xC_eq]
  unfold g_note_kinds_1
  simp (maxSteps := 2000000) -implicitDefEqProofs only [xe131,xb131,↓syP,syA,syD,Nat.reduceAdd,Nat.reduceSub,Nat.reduceMul,Nat.reduceLT,Nat.reduceLeDiff,Nat.reduceEqDiff,Nat.reduceBEq,Nat.reduceBNe,Int.reduceBEq,Int.reduceBNe,Int.reduceLT,Int.reduceLE,Int.reduceAdd,Int.reduceSub,Int.reduceNeg,syE,xQ,h_word_Bump]
  all_goals simp -implicitDefEqProofs only [List.map_nil]
def g_word_Wipe (v0 : Int) : Option Int :=
 ob (g_word_Epoch v0) fun x39 =>
 ob (g_word_Pack (IntKind.u64.wrap (x39 + 1)) 0) fun x40 =>
 some x40
theorem h_word_Wipe (k : Nat) (v0 : Int) : xC (k + 2) none 134 [.lit (.int .u64 v0)] = ob (g_word_Wipe v0) fun r => some ((.lit (.int .u64 r)),[]) := by
  rw [xC_eq]
  unfold g_word_Wipe
  simp (maxSteps := 2000000) -implicitDefEqProofs only [xe134,xb134,↓syP,syA,syD,Nat.reduceAdd,Nat.reduceSub,Nat.reduceMul,Nat.reduceLT,Nat.reduceLeDiff,Nat.reduceEqDiff,Nat.reduceBEq,Nat.reduceBNe,Int.reduceBEq,Int.reduceBNe,Int.reduceLT,Int.reduceLE,Int.reduceAdd,Int.reduceSub,Int.reduceNeg,syE,xQ,h_word_Epoch,h_word_Pack]
  all_goals simp -implicitDefEqProofs only [List.map_nil]
def g_note_kinds_2 (v0 : Int) : Option (Int × Int) :=
 ob (g_word_Wipe v0) fun x45 =>
 ob (g_word_Mask v0) fun x46 =>
 some (x45,x46)
theorem h_note_kinds_2 (k : Nat) (v0 : Int) : xC (k + 3) none 133 [.lit (.int .u64 v0)] = ob (g_note_kinds_2 v0) fun r => some ((.tup [.lit (.int .u64 r.1),.lit (.int .u64 r.2)]),[]) := by
  rw [xC_eq]
  unfold g_note_kinds_2
  simp (maxSteps := 2000000) -implicitDefEqProofs only [xe133,xb133,↓syP,syA,syD,Nat.reduceAdd,Nat.reduceSub,Nat.reduceMul,Nat.reduceLT,Nat.reduceLeDiff,Nat.reduceEqDiff,Nat.reduceBEq,Nat.reduceBNe,Int.reduceBEq,Int.reduceBNe,Int.reduceLT,Int.reduceLE,Int.reduceAdd,Int.reduceSub,Int.reduceNeg,syE,xQ,h_word_Mask,h_word_Wipe]
  all_goals simp -implicitDefEqProofs only [List.map_nil]
def g_note_wake_L0 (k : Nat) (v0 : (Int × Int × Int × Int)) (v1 : (List Int)) (v2 : (List Int))  : Nat → List Int → Int → Option (List Int)
 | 0,_,_ => none
 | n + 1,s53,s55 =>
 bif decide (s55 < (↑v2.length : Int)) then
 ob (idx v2 s55) fun x62 =>
 ob (g_lay_Park (v0.1,v0.2.1,v0.2.2.1,v0.2.2.2) x62) fun x63 =>
 ob (g_cell_Store s53 x63 (1 : Int)) fun x64 =>
 g_note_wake_L0 k v0 v1 v2  n (x64) (IntKind.i64.wrap (s55 + (1 : Int)))
 else
 some (s53)
theorem g_note_wake_L0_eq (k : Nat) (v0_0 v0_1 v0_2 v0_3 : Int) (v1 v2 : List Int) : ∀ (n : Nat) (s53 : List Int) (s55 : Int) ⦃j54 : V⦄,rt none (itX (xX (xS (k + (12 : Nat))) (105 : Nat) (0 : Nat) (k + (12 : Nat)) false) xl105_0 ((2 : Nat)) (runK (xX (xS (k + (12 : Nat))) (105 : Nat) (0 : Nat) (k + (12 : Nat)) false) (bodyK (xS (k + (12 : Nat))).P Tryz.f105) xk105_0) n ⟨[V.agg [V.lit (Value.int IntKind.i64 v0_0),V.lit (Value.int IntKind.i64 v0_1),V.lit (Value.int IntKind.i64 v0_2),V.lit (Value.int IntKind.i64 v0_3)],V.ro (List.map (intR IntKind.u64) s53),V.ro (List.map (intR IntKind.i64) v2),V.ptr (0 : Nat) (0 : Nat) (0 : Nat) (0 : Nat),uu,uu,V.own (1 : Nat) (0 : Nat) (0 : Nat),uu,j54,V.ro (List.map (intR IntKind.i64) v2),V.lit (Value.int IntKind.i64 (↑v2.length : Int)),V.lit (Value.int IntKind.i64 s55),V.junk,V.junk,V.junk,V.junk,V.junk,V.junk,V.junk,V.junk,V.junk,uu],[B.box [V.lit (Value.int IntKind.i64 v0_0),V.lit (Value.int IntKind.i64 v0_1),V.lit (Value.int IntKind.i64 v0_2),V.lit (Value.int IntKind.i64 v0_3)],B.rows (0 : Nat) [] (0 : Nat) true]⟩) = ob (g_note_wake_L0 k (v0_0,v0_1,v0_2,v0_3) v1 v2  n s53 s55) fun r => some ((.ro (List.map (intR .u64) r)),[]) := by
  intro n
  induction n with
  | zero => intros; rfl
  | succ n ih =>
    intro s53 s55 j54
    rw [g_note_wake_L0]
    simp (maxSteps := 2000000) -implicitDefEqProofs only [xe105,xb105,xz105,xj105_0,xk105_0_ret,↓syP,syA,syD,Nat.reduceAdd,Nat.reduceSub,Nat.reduceMul,Nat.reduceLT,Nat.reduceLeDiff,Nat.reduceEqDiff,Nat.reduceBEq,Nat.reduceBNe,Int.reduceBEq,Int.reduceBNe,Int.reduceLT,Int.reduceLE,Int.reduceAdd,Int.reduceSub,Int.reduceNeg,syE,xQ,h_cell_Store,h_lay_Park,xr105_0,ih]
    all_goals simp -implicitDefEqProofs only [List.map_nil]
def g_note_wake (k : Nat) (v0 : (Int × Int × Int × Int)) (v1 : (List Int)) (v2 : (List Int)) : Option (List Int) :=
 g_note_wake_L0 k v0 v1 v2 (k + 12) v1 0
theorem h_note_wake (k : Nat) (v0_0 v0_1 v0_2 v0_3 : Int) (v1 v2 : List Int) : xC (k + 13) none 105 [.agg [.lit (.int .i64 v0_0),.lit (.int .i64 v0_1),.lit (.int .i64 v0_2),.lit (.int .i64 v0_3)],.ro (List.map (intR .u64) v1),.ro (List.map (intR .i64) v2)] = ob (g_note_wake k (v0_0,v0_1,v0_2,v0_3) v1 v2) fun r => some ((.ro (List.map (intR .u64) r)),[]) := by
  rw [xC_eq]
  unfold g_note_wake
  simp (maxSteps := 2000000) -implicitDefEqProofs only [xe105,xb105,xz105,xj105_0,xk105_0_ret,↓syP,syA,syD,Nat.reduceAdd,Nat.reduceSub,Nat.reduceMul,Nat.reduceLT,Nat.reduceLeDiff,Nat.reduceEqDiff,Nat.reduceBEq,Nat.reduceBNe,Int.reduceBEq,Int.reduceBNe,Int.reduceLT,Int.reduceLE,Int.reduceAdd,Int.reduceSub,Int.reduceNeg,syE,xQ,g_note_wake_L0_eq k v0_0 v0_1 v0_2 v0_3 v1 v2]
  all_goals simp -implicitDefEqProofs only [List.map_nil]
def g_note_Step (k : Nat) (v0 : (Int × Int × Int × Int)) (v1 : (List Int)) (v2 : (Int × Int × Int × Int × Int × Int × Int)) : Option ((List Int) × (Int × Int × Int × Int × Int × Int × Int)) :=
 ob (g_clone 8 v1) fun x87 =>
 ob (g_note_Goes v0 v1 v2) fun x88 =>
 bif !x88 then
 some (x87,v2)
 else
 bif v2.2.1 == 0 then
 ob (g_cell_Load x87 2) fun x89 =>
 some (x87,(v2.1,1,v2.2.2.1,v2.2.2.2.1,x89,v2.2.2.2.2.2))
 else
 bif v2.2.1 == 1 then
 bif v2.1 == 6 then
 ob (g_note_kinds_1 (k + 2) v2.2.2.2.2.1) fun x90 =>
 ob (g_cell_Cas x87 2 v2.2.2.2.2.1 x90.1) fun x91 =>
 bif !x91.2 then
 some (x91.1,(v2.1,0,v2.2.2))
 else
 ob (g_word_Mask v2.2.2.2.2.1) fun x92 =>
 bif x92 == 0 then
 ob (g_frame_End (v2.1,0,v2.2.2) 3 0) fun x93 =>
 some (x91.1,x93)
 else
 some (x91.1,(v2.1,2,v2.2.2.1,v2.2.2.2.1,v2.2.2.2.2.1,x90.2,v2.2.2.2.2.2.2))
 else
 bif v2.1 == 7 then
 ob (g_note_kinds_2 v2.2.2.2.2.1) fun x94 =>
 ob (g_cell_Cas x87 2 v2.2.2.2.2.1 x94.1) fun x95 =>
 bif !x95.2 then
 some (x95.1,(v2.1,0,v2.2.2))
 else
 ob (g_word_Mask v2.2.2.2.2.1) fun x96 =>
 bif x96 == 0 then
 ob (g_frame_End (v2.1,0,v2.2.2) 3 0) fun x97 =>
 some (x95.1,x97)
 else
 some (x95.1,(v2.1,2,v2.2.2.1,v2.2.2.2.1,v2.2.2.2.2.1,x94.2,v2.2.2.2.2.2.2))
 else
 none
 else
 bif v2.1 == 6 then
 bif decide (v2.2.2.2.2.2.1 < 8) then
 ob (g_note_wake (k + 2) v0 x87 [IntKind.i64.wrap v2.2.2.2.2.2.1]) fun x98 =>
 ob (g_frame_End v2 1 v2.2.2.2.2.2.1) fun x99 =>
 some (x98,x99)
 else
 ob (g_note_wake (k + 2) v0 x87 [(-1)]) fun x100 =>
 ob (g_frame_End v2 1 v2.2.2.2.2.2.1) fun x101 =>
 some (x100,x101)
 else
 ob (g_word_Lowest (k + 4) v2.2.2.2.2.2.1) fun x102 =>
 ob (g_note_wake (k + 2) v0 x87 [x102]) fun x103 =>
 ob (g_word_Mask v2.2.2.2.2.2.1) fun x104 =>
 bif andI IntKind.u64 x104 (IntKind.u64.wrap (x104 - 1)) == 0 then
 ob (g_word_Mask v2.2.2.2.2.1) fun x105 =>
 ob (g_frame_End (v2.1,v2.2.1,v2.2.2.1,v2.2.2.2.1,v2.2.2.2.2.1,x104,v2.2.2.2.2.2.2) 1 x105) fun x106 =>
 some (x103,x106)
 else
 bif x104 == 0 then
 ob (g_word_Mask v2.2.2.2.2.1) fun x107 =>
 ob (g_frame_End (v2.1,v2.2.1,v2.2.2.1,v2.2.2.2.1,v2.2.2.2.2.1,x104,v2.2.2.2.2.2.2) 1 x107) fun x108 =>
 some (x103,x108)
 else
 some (x103,(v2.1,v2.2.1,v2.2.2.1,v2.2.2.2.1,v2.2.2.2.2.1,(andI IntKind.u64 x104 (IntKind.u64.wrap (x104 - 1))),v2.2.2.2.2.2.2))
theorem h_note_Step (k : Nat) (v0_0 v0_1 v0_2 v0_3 : Int) (v1 : List Int) (v2_0 v2_1 v2_2 v2_3 v2_4 v2_5 v2_6 : Int) : xC (k + 16) none 83 [.agg [.lit (.int .i64 v0_0),.lit (.int .i64 v0_1),.lit (.int .i64 v0_2),.lit (.int .i64 v0_3)],.ro (List.map (intR .u64) v1),.agg [.lit (.int .i64 v2_0),.lit (.int .i64 v2_1),.lit (.int .i64 v2_2),.lit (.int .u64 v2_3),.lit (.int .u64 v2_4),.lit (.int .u64 v2_5),.lit (.int .i64 v2_6)]] = ob (g_note_Step k (v0_0,v0_1,v0_2,v0_3) v1 (v2_0,v2_1,v2_2,v2_3,v2_4,v2_5,v2_6)) fun r => some ((.tup [.ro (List.map (intR .u64) r.1),.agg [.lit (.int .i64 r.2.1),.lit (.int .i64 r.2.2.1),.lit (.int .i64 r.2.2.2.1),.lit (.int .u64 r.2.2.2.2.1),.lit (.int .u64 r.2.2.2.2.2.1),.lit (.int .u64 r.2.2.2.2.2.2.1),.lit (.int .i64 r.2.2.2.2.2.2.2)]]),[]) := by
  rw [xC_eq]
  unfold g_note_Step
  simp (maxSteps := 2000000) -implicitDefEqProofs only [xe83,xb83,xj83_0,xj83_1,xm83_2,xk83_0_ret,xk83_1_ret,xk83_2_ret,xe101,xb101,xC_eq (g := 101),xe131,xb131,xe133,xb133,↓syP,syA,syD,Nat.reduceAdd,Nat.reduceSub,Nat.reduceMul,Nat.reduceLT,Nat.reduceLeDiff,Nat.reduceEqDiff,Nat.reduceBEq,Nat.reduceBNe,Int.reduceBEq,Int.reduceBNe,Int.reduceLT,Int.reduceLE,Int.reduceAdd,Int.reduceSub,Int.reduceNeg,syE,xQ,h_cell_Load,h_cell_Cas,h_frame_End,h_word_Mask,h_note_Goes,h_word_Lowest,h_note_kinds_1,h_note_kinds_2,h_note_wake]
  all_goals simp -implicitDefEqProofs only [List.map_nil]
end Go.Ab
