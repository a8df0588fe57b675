/- Functions as they are walked: printed by Walk.lean. -/
import Derived.Test.YtcmdnjaenhbdpaaGreatR5GN
import Derived.Test.YtcmdnjaenhbdpaaGreatR5B4
set_option linter.unusedVariables false
set_option linter.unusedSimpArgs false
set_option maxRecDepth 100000
set_option linter.unusedVariables false
set_option linter.unusedSimpArgs false
namespace Go.Ab
open Go.Proofs
def g_event_Step (k : Nat) (v0 : (Int × Int × Int × Int)) (v1 : (List Int)) (v2 : (Int × Int × Int × Int × Int × Int × Int)) : Option ((List Int) × (Int × Int × Int × Int × Int × Int × Int)) :=
 bif v2.1 == 5 then
 ob (g_wait_Step v0 v1 v2) fun x6 =>
 some x6
 else
 bif v2.1 == 6 then
 bif v2.1 == 6 then
 ob (g_note_Step k v0 v1 v2) fun x7 =>
 some x7
 else
 ob (g_clone 8 v1) fun x8 =>
 some (x8,v2)
 else
 bif v2.1 == 7 then
 ob (g_note_Step k v0 v1 v2) fun x9 =>
 some x9
 else
 ob (g_clone 8 v1) fun x10 =>
 some (x10,v2)
theorem h_event_Step (k : Nat) (v0_0 v0_1 v0_2 v0_3 : Int) (v1 : List Int) (v2_0 v2_1 v2_2 v2_3 v2_4 v2_5 v2_6 : Int) : xC (k + 17) none 69 [.agg [.lit (.int .i64 v0_0),.lit (.int .i64 v0_1),.lit (.int .i64 v0_2),.lit (.int .i64 v0_3)],.ro (List.map (intR .u64) v1),.agg [.lit (.int .i64 v2_0),.lit (.int .i64 v2_1),.lit (.int .i64 v2_2),.lit (.int .u64 v2_3),.lit (.int .u64 v2_4),.lit (.int .u64 v2_5),.lit (.int .i64 v2_6)]] = ob (g_event_Step k (v0_0,v0_1,v0_2,v0_3) v1 (v2_0,v2_1,v2_2,v2_3,v2_4,v2_5,v2_6)) fun r => some ((.tup [.ro (List.map (intR .u64) r.1),.agg [.lit (.int .i64 r.2.1),.lit (.int .i64 r.2.2.1),.lit (.int .i64 r.2.2.2.1),.lit (.int .u64 r.2.2.2.2.1),.lit (.int .u64 r.2.2.2.2.2.1),.lit (.int .u64 r.2.2.2.2.2.2.1),.lit (.int .i64 r.2.2.2.2.2.2.2)]]),[]) := by
  rw [xC_eq]
  unfold g_event_Step
  simp (maxSteps := 2000000) -implicitDefEqProofs only [xe69,xb69,xj69_0,xk69_0_ret,↓syP,syA,syD,Nat.reduceAdd,Nat.reduceSub,Nat.reduceMul,Nat.reduceLT,Nat.reduceLeDiff,Nat.reduceEqDiff,Nat.reduceBEq,Nat.reduceBNe,Int.reduceBEq,Int.reduceBNe,Int.reduceLT,Int.reduceLE,Int.reduceAdd,Int.reduceSub,Int.reduceNeg,syE,xQ,h_wait_Step,h_note_Step]
  all_goals simp -implicitDefEqProofs only [List.map_nil]
def g_enq_fits (v0 : (Int × Int × Int × Int)) (v1 : (List Int)) : Option Bool :=
 ob (g_lay_May v0) fun x18 =>
 bif x18 then
 ob (g_lay_Size v0) fun x19 =>
 some ((↑v1.length : Int) == x19)
 else
 some false
theorem h_enq_fits (k : Nat) (v0_0 v0_1 v0_2 v0_3 : Int) (v1 : List Int) : xC (k + 4) none 139 [.agg [.lit (.int .i64 v0_0),.lit (.int .i64 v0_1),.lit (.int .i64 v0_2),.lit (.int .i64 v0_3)],.ro (List.map (intR .u64) v1)] = ob (g_enq_fits (v0_0,v0_1,v0_2,v0_3) v1) fun r => some ((.lit (.bool r)),[]) := by
  rw [xC_eq]
  unfold g_enq_fits
  simp (maxSteps := 2000000) -implicitDefEqProofs only [xe139,xb139,xm139_0,xk139_0_ret,↓syP,syA,syD,Nat.reduceAdd,Nat.reduceSub,Nat.reduceMul,Nat.reduceLT,Nat.reduceLeDiff,Nat.reduceEqDiff,Nat.reduceBEq,Nat.reduceBNe,Int.reduceBEq,Int.reduceBNe,Int.reduceLT,Int.reduceLE,Int.reduceAdd,Int.reduceSub,Int.reduceNeg,syE,xQ,h_lay_May,h_lay_Size]
  all_goals simp -implicitDefEqProofs only [List.map_nil]
def g_enq_Goes (v0 : (Int × Int × Int × Int)) (v1 : (List Int)) (v2 : (Int × Int × Int × Int × Int × Int × Int)) (v3 : Int) : Option Bool :=
 ob (g_enq_fits v0 v1) fun x24 =>
 bif x24 then
 ob (g_frame_Over v2) fun x25 =>
 bif !x25 then
 bif v2.1 == v3 then
 bif decide (0 ≤ v2.2.1) then
 some (decide (v2.2.1 < 5))
 else
 some false
 else
 some false
 else
 some false
 else
 some false
theorem h_enq_Goes (k : Nat) (v0_0 v0_1 v0_2 v0_3 : Int) (v1 : List Int) (v2_0 v2_1 v2_2 v2_3 v2_4 v2_5 v2_6 v3 : Int) : xC (k + 5) none 118 [.agg [.lit (.int .i64 v0_0),.lit (.int .i64 v0_1),.lit (.int .i64 v0_2),.lit (.int .i64 v0_3)],.ro (List.map (intR .u64) v1),.agg [.lit (.int .i64 v2_0),.lit (.int .i64 v2_1),.lit (.int .i64 v2_2),.lit (.int .u64 v2_3),.lit (.int .u64 v2_4),.lit (.int .u64 v2_5),.lit (.int .i64 v2_6)],.lit (.int .i64 v3)] = ob (g_enq_Goes (v0_0,v0_1,v0_2,v0_3) v1 (v2_0,v2_1,v2_2,v2_3,v2_4,v2_5,v2_6) v3) fun r => some ((.lit (.bool r)),[]) := by
  rw [xC_eq]
  unfold g_enq_Goes
  simp (maxSteps := 2000000) -implicitDefEqProofs only [xe118,xb118,xm118_0,xm118_1,xm118_2,xm118_3,xk118_0_ret,↓syP,syA,syD,Nat.reduceAdd,Nat.reduceSub,Nat.reduceMul,Nat.reduceLT,Nat.reduceLeDiff,Nat.reduceEqDiff,Nat.reduceBEq,Nat.reduceBNe,Int.reduceBEq,Int.reduceBNe,Int.reduceLT,Int.reduceLE,Int.reduceAdd,Int.reduceSub,Int.reduceNeg,syE,xQ,h_frame_Over,h_enq_fits]
  all_goals simp -implicitDefEqProofs only [List.map_nil]
def g_lay_Seq (v0 : (Int × Int × Int × Int)) (v1 : Int) : Option Int :=
 ob (g_lay_May v0) fun x30 =>
 bif !x30 then
 some ((-1))
 else
 ob (g_lay_in 0 0 (IntKind.i64.wrap (v0.1 - 1))) fun x31 =>
 bif !x31 then
 some ((-1))
 else
 bif IntKind.u64.wrap v0.2.2.1 != 0 then
 some (IntKind.i64.wrap (6 + IntKind.i64.wrap (v1.tmod (IntKind.u64.wrap v0.2.2.1))))
 else
 none
theorem h_lay_Seq (k : Nat) (v0_0 v0_1 v0_2 v0_3 v1 : Int) : xC (k + 12) none 125 [.agg [.lit (.int .i64 v0_0),.lit (.int .i64 v0_1),.lit (.int .i64 v0_2),.lit (.int .i64 v0_3)],.lit (.int .u64 v1)] = ob (g_lay_Seq (v0_0,v0_1,v0_2,v0_3) v1) fun r => some ((.lit (.int .i64 r)),[]) := by
  rw [xC_eq]
  unfold g_lay_Seq
  simp (maxSteps := 2000000) -implicitDefEqProofs only [xe75,xb75,xm75_0,xk75_0_ret,xe125,xb125,xe141,xb141,↓syP,syA,syD,Nat.reduceAdd,Nat.reduceSub,Nat.reduceMul,Nat.reduceLT,Nat.reduceLeDiff,Nat.reduceEqDiff,Nat.reduceBEq,Nat.reduceBNe,Int.reduceBEq,Int.reduceBNe,Int.reduceLT,Int.reduceLE,Int.reduceAdd,Int.reduceSub,Int.reduceNeg,syE,xQ,h_lay_in,h_lay_May]
  all_goals simp -implicitDefEqProofs only [List.map_nil]
def g_lay_Val (v0 : (Int × Int × Int × Int)) (v1 : Int) : Option Int :=
 ob (g_lay_May v0) fun x36 =>
 bif !x36 then
 some ((-1))
 else
 ob (g_lay_in 0 0 (IntKind.i64.wrap (v0.1 - 1))) fun x37 =>
 bif !x37 then
 some ((-1))
 else
 bif IntKind.u64.wrap v0.2.2.1 != 0 then
 some (IntKind.i64.wrap (IntKind.i64.wrap (6 + v0.2.2.1) + IntKind.i64.wrap (v1.tmod (IntKind.u64.wrap v0.2.2.1))))
 else
 none
theorem h_lay_Val (k : Nat) (v0_0 v0_1 v0_2 v0_3 v1 : Int) : xC (k + 12) none 127 [.agg [.lit (.int .i64 v0_0),.lit (.int .i64 v0_1),.lit (.int .i64 v0_2),.lit (.int .i64 v0_3)],.lit (.int .u64 v1)] = ob (g_lay_Val (v0_0,v0_1,v0_2,v0_3) v1) fun r => some ((.lit (.int .i64 r)),[]) := by
  rw [xC_eq]
  unfold g_lay_Val
  simp (maxSteps := 2000000) -implicitDefEqProofs only [xe75,xb75,xm75_0,xk75_0_ret,xe127,xb127,xe142,xb142,↓syP,syA,syD,Nat.reduceAdd,Nat.reduceSub,Nat.reduceMul,Nat.reduceLT,Nat.reduceLeDiff,Nat.reduceEqDiff,Nat.reduceBEq,Nat.reduceBNe,Int.reduceBEq,Int.reduceBNe,Int.reduceLT,Int.reduceLE,Int.reduceAdd,Int.reduceSub,Int.reduceNeg,syE,xQ,h_lay_in,h_lay_May]
  all_goals simp -implicitDefEqProofs only [List.map_nil]
def g_deq_full (v0 : (Int × Int × Int × Int)) (v1 : Int) : Option Int :=
 bif IntKind.u64.wrap v0.2.2.1 != 0 then
 some (IntKind.u64.wrap (IntKind.u64.wrap (IntKind.u64.wrap (v1.tdiv (IntKind.u64.wrap v0.2.2.1)) * 2) + 1))
 else
 none
theorem h_deq_full (k : Nat) (v0_0 v0_1 v0_2 v0_3 v1 : Int) : xC (k + 1) none 126 [.agg [.lit (.int .i64 v0_0),.lit (.int .i64 v0_1),.lit (.int .i64 v0_2),.lit (.int .i64 v0_3)],.lit (.int .u64 v1)] = ob (g_deq_full (v0_0,v0_1,v0_2,v0_3) v1) fun r => some ((.lit (.int .u64 r)),[]) := by
  rw [xC_eq]
  unfold g_deq_full
  simp (maxSteps := 2000000) -implicitDefEqProofs only [xe126,xb126,↓syP,syA,syD,Nat.reduceAdd,Nat.reduceSub,Nat.reduceMul,Nat.reduceLT,Nat.reduceLeDiff,Nat.reduceEqDiff,Nat.reduceBEq,Nat.reduceBNe,Int.reduceBEq,Int.reduceBNe,Int.reduceLT,Int.reduceLE,Int.reduceAdd,Int.reduceSub,Int.reduceNeg,syE,xQ]
  all_goals simp -implicitDefEqProofs only [List.map_nil]
def g_enq_Step (v0 : (Int × Int × Int × Int)) (v1 : (List Int)) (v2 : (Int × Int × Int × Int × Int × Int × Int)) : Option ((List Int) × (Int × Int × Int × Int × Int × Int × Int)) :=
 ob (g_clone 8 v1) fun x53 =>
 ob (g_enq_Goes v0 v1 v2 3) fun x54 =>
 bif !x54 then
 some (x53,v2)
 else
 bif decide (0 ≤ v2.2.1 ∧ v2.2.1.toNat < 5) then
 bif v2.2.1.toNat == 0 then
 ob (g_cell_Load x53 5) fun x55 =>
 some (x53,(v2.1,1,v2.2.2.1,v2.2.2.2.1,x55,v2.2.2.2.2.2))
 else
 bif v2.2.1.toNat == 1 then
 ob (g_lay_Seq v0 v2.2.2.2.2.1) fun x56 =>
 ob (g_cell_Load x53 x56) fun x57 =>
 bif IntKind.u64.wrap v0.2.2.1 != 0 then
 bif x57 == IntKind.u64.wrap (IntKind.u64.wrap (v2.2.2.2.2.1.tdiv (IntKind.u64.wrap v0.2.2.1)) * 2) then
 some (x53,(v2.1,2,v2.2.2.1,v2.2.2.2.1,v2.2.2.2.2.1,x57,v2.2.2.2.2.2.2))
 else
 bif IntKind.u64.wrap v0.2.2.1 != 0 then
 ob (g_word_Far x57 (IntKind.u64.wrap (IntKind.u64.wrap (v2.2.2.2.2.1.tdiv (IntKind.u64.wrap v0.2.2.1)) * 2))) fun x58 =>
 bif decide (x58 < 0) then
 ob (g_frame_End (v2.1,v2.2.1,v2.2.2.1,v2.2.2.2.1,v2.2.2.2.2.1,x57,v2.2.2.2.2.2.2) 2 v2.2.2.2.1) fun x59 =>
 some (x53,(x59.1,0,x59.2.2))
 else
 some (x53,(v2.1,0,v2.2.2.1,v2.2.2.2.1,v2.2.2.2.2.1,x57,v2.2.2.2.2.2.2))
 else
 none
 else
 none
 else
 bif v2.2.1.toNat == 2 then
 ob (g_cell_Cas x53 5 v2.2.2.2.2.1 (IntKind.u64.wrap (v2.2.2.2.2.1 + 1))) fun x60 =>
 bif x60.2 then
 some (x60.1,(v2.1,3,v2.2.2))
 else
 some (x60.1,(v2.1,0,v2.2.2))
 else
 bif v2.2.1.toNat == 3 then
 ob (g_lay_Val v0 v2.2.2.2.2.1) fun x61 =>
 ob (g_cell_Store x53 x61 v2.2.2.2.1) fun x62 =>
 some (x62,(v2.1,4,v2.2.2))
 else
 bif v2.2.1.toNat == 4 then
 ob (g_lay_Seq v0 v2.2.2.2.2.1) fun x63 =>
 bif IntKind.u64.wrap v0.2.2.1 != 0 then
 ob (g_cell_Store x53 x63 (IntKind.u64.wrap (IntKind.u64.wrap (IntKind.u64.wrap (v2.2.2.2.2.1.tdiv (IntKind.u64.wrap v0.2.2.1)) * 2) + 1))) fun x64 =>
 ob (g_frame_End v2 1 v2.2.2.2.1) fun x65 =>
 some (x64,(x65.1,0,x65.2.2))
 else
 none
 else
 none
 else
 none
theorem h_enq_Step (k : Nat) (v0_0 v0_1 v0_2 v0_3 : Int) (v1 : List Int) (v2_0 v2_1 v2_2 v2_3 v2_4 v2_5 v2_6 : Int) : xC (k + 24) none 87 [.agg [.lit (.int .i64 v0_0),.lit (.int .i64 v0_1),.lit (.int .i64 v0_2),.lit (.int .i64 v0_3)],.ro (List.map (intR .u64) v1),.agg [.lit (.int .i64 v2_0),.lit (.int .i64 v2_1),.lit (.int .i64 v2_2),.lit (.int .u64 v2_3),.lit (.int .u64 v2_4),.lit (.int .u64 v2_5),.lit (.int .i64 v2_6)]] = ob (g_enq_Step (v0_0,v0_1,v0_2,v0_3) v1 (v2_0,v2_1,v2_2,v2_3,v2_4,v2_5,v2_6)) fun r => some ((.tup [.ro (List.map (intR .u64) r.1),.agg [.lit (.int .i64 r.2.1),.lit (.int .i64 r.2.2.1),.lit (.int .i64 r.2.2.2.1),.lit (.int .u64 r.2.2.2.2.1),.lit (.int .u64 r.2.2.2.2.2.1),.lit (.int .u64 r.2.2.2.2.2.2.1),.lit (.int .i64 r.2.2.2.2.2.2.2)]]),[]) := by
  rw [xC_eq]
  unfold g_enq_Step
  simp (maxSteps := 2000000) -implicitDefEqProofs only [xe87,xb87,xe119,xb119,xe120,xb120,xe121,xb121,xe122,xb122,xe123,xb123,xe124,xb124,xe140,xb140,↓syP,syA,syD,Nat.reduceAdd,Nat.reduceSub,Nat.reduceMul,Nat.reduceLT,Nat.reduceLeDiff,Nat.reduceEqDiff,Nat.reduceBEq,Nat.reduceBNe,Int.reduceBEq,Int.reduceBNe,Int.reduceLT,Int.reduceLE,Int.reduceAdd,Int.reduceSub,Int.reduceNeg,syE,xQ,h_cell_Load,h_cell_Store,h_cell_Cas,h_frame_End,h_word_Far,h_enq_Goes,h_lay_Seq,h_lay_Val]
  all_goals simp -implicitDefEqProofs only [List.map_nil]
def g_deq_Step (v0 : (Int × Int × Int × Int)) (v1 : (List Int)) (v2 : (Int × Int × Int × Int × Int × Int × Int)) : Option ((List Int) × (Int × Int × Int × Int × Int × Int × Int)) :=
 ob (g_clone 8 v1) fun x94 =>
 ob (g_enq_Goes v0 v1 v2 4) fun x95 =>
 bif !x95 then
 some (x94,v2)
 else
 bif v2.2.1 == 0 then
 ob (g_cell_Load x94 4) fun x96 =>
 some (x94,(v2.1,1,v2.2.2.1,v2.2.2.2.1,x96,v2.2.2.2.2.2))
 else
 bif v2.2.1 == 1 then
 ob (g_lay_Seq v0 v2.2.2.2.2.1) fun x97 =>
 ob (g_cell_Load x94 x97) fun x98 =>
 ob (g_deq_full v0 v2.2.2.2.2.1) fun x99 =>
 ob (g_word_Far x98 x99) fun x100 =>
 bif x100 == 0 then
 some (x94,(v2.1,2,v2.2.2.1,v2.2.2.2.1,v2.2.2.2.2.1,x98,v2.2.2.2.2.2.2))
 else
 bif decide (x100 < 0) then
 ob (g_frame_End (v2.1,0,v2.2.2.1,v2.2.2.2.1,v2.2.2.2.2.1,x98,v2.2.2.2.2.2.2) 3 0) fun x101 =>
 some (x94,x101)
 else
 some (x94,(v2.1,0,v2.2.2.1,v2.2.2.2.1,v2.2.2.2.2.1,x98,v2.2.2.2.2.2.2))
 else
 bif v2.2.1 == 2 then
 ob (g_cell_Cas x94 4 v2.2.2.2.2.1 (IntKind.u64.wrap (v2.2.2.2.2.1 + 1))) fun x102 =>
 bif x102.2 then
 some (x102.1,(v2.1,3,v2.2.2))
 else
 some (x102.1,(v2.1,0,v2.2.2))
 else
 bif v2.2.1 == 3 then
 ob (g_lay_Val v0 v2.2.2.2.2.1) fun x103 =>
 ob (g_cell_Load x94 x103) fun x104 =>
 some (x94,(v2.1,4,v2.2.2.1,x104,v2.2.2.2.2))
 else
 ob (g_lay_Seq v0 v2.2.2.2.2.1) fun x105 =>
 ob (g_deq_full v0 v2.2.2.2.2.1) fun x106 =>
 ob (g_cell_Store x94 x105 (IntKind.u64.wrap (x106 + 1))) fun x107 =>
 ob (g_frame_End v2 1 v2.2.2.2.1) fun x108 =>
 some (x107,x108)
theorem h_deq_Step (k : Nat) (v0_0 v0_1 v0_2 v0_3 : Int) (v1 : List Int) (v2_0 v2_1 v2_2 v2_3 v2_4 v2_5 v2_6 : Int) : xC (k + 13) none 88 [.agg [.lit (.int .i64 v0_0),.lit (.int .i64 v0_1),.lit (.int .i64 v0_2),.lit (.int .i64 v0_3)],.ro (List.map (intR .u64) v1),.agg [.lit (.int .i64 v2_0),.lit (.int .i64 v2_1),.lit (.int .i64 v2_2),.lit (.int .u64 v2_3),.lit (.int .u64 v2_4),.lit (.int .u64 v2_5),.lit (.int .i64 v2_6)]] = ob (g_deq_Step (v0_0,v0_1,v0_2,v0_3) v1 (v2_0,v2_1,v2_2,v2_3,v2_4,v2_5,v2_6)) fun r => some ((.tup [.ro (List.map (intR .u64) r.1),.agg [.lit (.int .i64 r.2.1),.lit (.int .i64 r.2.2.1),.lit (.int .i64 r.2.2.2.1),.lit (.int .u64 r.2.2.2.2.1),.lit (.int .u64 r.2.2.2.2.2.1),.lit (.int .u64 r.2.2.2.2.2.2.1),.lit (.int .i64 r.2.2.2.2.2.2.2)]]),[]) := by
  rw [xC_eq]
  unfold g_deq_Step
  simp (maxSteps := 2000000) -implicitDefEqProofs only [xe88,xb88,xj88_0,xk88_0_ret,↓syP,syA,syD,Nat.reduceAdd,Nat.reduceSub,Nat.reduceMul,Nat.reduceLT,Nat.reduceLeDiff,Nat.reduceEqDiff,Nat.reduceBEq,Nat.reduceBNe,Int.reduceBEq,Int.reduceBNe,Int.reduceLT,Int.reduceLE,Int.reduceAdd,Int.reduceSub,Int.reduceNeg,syE,xQ,h_cell_Load,h_cell_Store,h_cell_Cas,h_frame_End,h_word_Far,h_enq_Goes,h_lay_Seq,h_lay_Val,h_deq_full]
  all_goals simp -implicitDefEqProofs only [List.map_nil]
def g_inject_Step (v0 : (Int × Int × Int × Int)) (v1 : (List Int)) (v2 : (Int × Int × Int × Int × Int × Int × Int)) : Option ((List Int) × (Int × Int × Int × Int × Int × Int × Int)) :=
 bif v2.1 == 3 then
 ob (g_enq_Step v0 v1 v2) fun x127 =>
 some x127
 else
 bif v2.1 == 4 then
 ob (g_deq_Step v0 v1 v2) fun x128 =>
 some x128
 else
 ob (g_clone 8 v1) fun x129 =>
 some (x129,v2)
theorem h_inject_Step (k : Nat) (v0_0 v0_1 v0_2 v0_3 : Int) (v1 : List Int) (v2_0 v2_1 v2_2 v2_3 v2_4 v2_5 v2_6 : Int) : xC (k + 26) none 71 [.agg [.lit (.int .i64 v0_0),.lit (.int .i64 v0_1),.lit (.int .i64 v0_2),.lit (.int .i64 v0_3)],.ro (List.map (intR .u64) v1),.agg [.lit (.int .i64 v2_0),.lit (.int .i64 v2_1),.lit (.int .i64 v2_2),.lit (.int .u64 v2_3),.lit (.int .u64 v2_4),.lit (.int .u64 v2_5),.lit (.int .i64 v2_6)]] = ob (g_inject_Step (v0_0,v0_1,v0_2,v0_3) v1 (v2_0,v2_1,v2_2,v2_3,v2_4,v2_5,v2_6)) fun r => some ((.tup [.ro (List.map (intR .u64) r.1),.agg [.lit (.int .i64 r.2.1),.lit (.int .i64 r.2.2.1),.lit (.int .i64 r.2.2.2.1),.lit (.int .u64 r.2.2.2.2.1),.lit (.int .u64 r.2.2.2.2.2.1),.lit (.int .u64 r.2.2.2.2.2.2.1),.lit (.int .i64 r.2.2.2.2.2.2.2)]]),[]) := by
  rw [xC_eq]
  unfold g_inject_Step
  simp (maxSteps := 2000000) -implicitDefEqProofs only [xe71,xb71,↓syP,syA,syD,Nat.reduceAdd,Nat.reduceSub,Nat.reduceMul,Nat.reduceLT,Nat.reduceLeDiff,Nat.reduceEqDiff,Nat.reduceBEq,Nat.reduceBNe,Int.reduceBEq,Int.reduceBNe,Int.reduceLT,Int.reduceLE,Int.reduceAdd,Int.reduceSub,Int.reduceNeg,syE,xQ,h_enq_Step,h_deq_Step]
  all_goals simp -implicitDefEqProofs only [List.map_nil]
end Go.Ab
