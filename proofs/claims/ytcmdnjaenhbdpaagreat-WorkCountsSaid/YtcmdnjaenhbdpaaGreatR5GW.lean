/- Functions as they are walked: printed by Walk.lean. -/
import Derived.Test.YtcmdnjaenhbdpaaGreatR5GF
import Derived.Test.YtcmdnjaenhbdpaaGreatR5B1
import Derived.Test.YtcmdnjaenhbdpaaGreatR5B2
import Derived.Test.YtcmdnjaenhbdpaaGreatR5B3
import Derived.Test.YtcmdnjaenhbdpaaGreatR5B5
import Derived.Test.YtcmdnjaenhbdpaaGreatR5BN
import Derived.Test.YtcmdnjaenhbdpaaGreatR5BV
set_option linter.unusedVariables false
set_option linter.unusedSimpArgs false
set_option maxRecDepth 100000
set_option linter.unusedVariables false
set_option linter.unusedSimpArgs false
namespace Go.Ab
open Go.Proofs
def g_lay_in (v0 : Int) (v1 : Int) (v2 : Int) : Option Bool :=
 bif decide (v1 ≤ v0) then
 some (decide (v0 ≤ v2))
 else
 some false
theorem h_lay_in (k : Nat) (v0 v1 v2 : Int) : xC (k + 1) none 58 [.lit (.int .i64 v0),.lit (.int .i64 v1),.lit (.int .i64 v2)] = ob (g_lay_in v0 v1 v2) fun r => some ((.lit (.bool r)),[]) := by
  rw [xC_eq]
  unfold g_lay_in
  simp (maxSteps := 2000000) -implicitDefEqProofs only [xe58,xb58,xm58_0,xk58_0_ret,↓syP,syA,syD,Nat.reduceAdd,Nat.reduceSub,Nat.reduceMul,Nat.reduceLT,Nat.reduceLeDiff,Nat.reduceEqDiff,Nat.reduceBEq,Nat.reduceBNe,Int.reduceBEq,Int.reduceBNe,Int.reduceLT,Int.reduceLE,Int.reduceAdd,Int.reduceSub,Int.reduceNeg,syE,xQ]
  all_goals simp -implicitDefEqProofs only [List.map_nil]
def g_lay_May (v0 : (Int × Int × Int × Int)) : Option Bool :=
 ob (g_lay_in v0.1 1 8) fun x5 =>
 bif x5 then
 ob (g_lay_in v0.2.1 1 16) fun x6 =>
 bif x6 then
 bif andI IntKind.i64 v0.2.1 (IntKind.i64.wrap (v0.2.1 - 1)) == 0 then
 ob (g_lay_in v0.2.2.1 1 16) fun x7 =>
 bif x7 then
 ob (g_lay_in v0.2.2.2 0 4) fun x8 =>
 some x8
 else
 some false
 else
 some false
 else
 some false
 else
 some false
theorem h_lay_May (k : Nat) (v0_0 v0_1 v0_2 v0_3 : Int) : xC (k + 2) none 37 [.agg [.lit (.int .i64 v0_0),.lit (.int .i64 v0_1),.lit (.int .i64 v0_2),.lit (.int .i64 v0_3)]] = ob (g_lay_May (v0_0,v0_1,v0_2,v0_3)) fun r => some ((.lit (.bool r)),[]) := by
  rw [xC_eq]
  unfold g_lay_May
  simp (maxSteps := 2000000) -implicitDefEqProofs only [xe37,xb37,xm37_0,xm37_1,xm37_2,xm37_3,xk37_0_ret,↓syP,syA,syD,Nat.reduceAdd,Nat.reduceSub,Nat.reduceMul,Nat.reduceLT,Nat.reduceLeDiff,Nat.reduceEqDiff,Nat.reduceBEq,Nat.reduceBNe,Int.reduceBEq,Int.reduceBNe,Int.reduceLT,Int.reduceLE,Int.reduceAdd,Int.reduceSub,Int.reduceNeg,syE,xQ,h_lay_in]
  all_goals simp -implicitDefEqProofs only [List.map_nil]
def g_lay_base (v0 : (Int × Int × Int × Int)) (v1 : Int) : Option Int :=
 some (IntKind.i64.wrap (IntKind.i64.wrap (6 + IntKind.i64.wrap (2 * v0.2.2.1)) + IntKind.i64.wrap (v1 * IntKind.i64.wrap (3 + v0.2.1))))
theorem h_lay_base (k : Nat) (v0_0 v0_1 v0_2 v0_3 v1 : Int) : xC (k + 1) none 59 [.agg [.lit (.int .i64 v0_0),.lit (.int .i64 v0_1),.lit (.int .i64 v0_2),.lit (.int .i64 v0_3)],.lit (.int .i64 v1)] = ob (g_lay_base (v0_0,v0_1,v0_2,v0_3) v1) fun r => some ((.lit (.int .i64 r)),[]) := by
  rw [xC_eq]
  unfold g_lay_base
  simp (maxSteps := 2000000) -implicitDefEqProofs only [xe59,xb59,↓syP,syA,syD,Nat.reduceAdd,Nat.reduceSub,Nat.reduceMul,Nat.reduceLT,Nat.reduceLeDiff,Nat.reduceEqDiff,Nat.reduceBEq,Nat.reduceBNe,Int.reduceBEq,Int.reduceBNe,Int.reduceLT,Int.reduceLE,Int.reduceAdd,Int.reduceSub,Int.reduceNeg,syE,xQ]
  all_goals simp -implicitDefEqProofs only [List.map_nil]
def g_lay_Size (v0 : (Int × Int × Int × Int)) : Option Int :=
 ob (g_lay_May v0) fun x16 =>
 bif !x16 then
 some 0
 else
 ob (g_lay_base v0 v0.1) fun x17 =>
 some x17
theorem h_lay_Size (k : Nat) (v0_0 v0_1 v0_2 v0_3 : Int) : xC (k + 3) none 38 [.agg [.lit (.int .i64 v0_0),.lit (.int .i64 v0_1),.lit (.int .i64 v0_2),.lit (.int .i64 v0_3)]] = ob (g_lay_Size (v0_0,v0_1,v0_2,v0_3)) fun r => some ((.lit (.int .i64 r)),[]) := by
  rw [xC_eq]
  unfold g_lay_Size
  simp (maxSteps := 2000000) -implicitDefEqProofs only [xe38,xb38,↓syP,syA,syD,Nat.reduceAdd,Nat.reduceSub,Nat.reduceMul,Nat.reduceLT,Nat.reduceLeDiff,Nat.reduceEqDiff,Nat.reduceBEq,Nat.reduceBNe,Int.reduceBEq,Int.reduceBNe,Int.reduceLT,Int.reduceLE,Int.reduceAdd,Int.reduceSub,Int.reduceNeg,syE,xQ,h_lay_May,h_lay_base]
  all_goals simp -implicitDefEqProofs only [List.map_nil]
def g_cell_is (v0 : (List Int)) (v1 : Int) : Option Bool :=
 bif decide (0 ≤ v1) then
 some (decide (v1 < (↑v0.length : Int)))
 else
 some false
theorem h_cell_is (k : Nat) (v0 : List Int) (v1 : Int) : xC (k + 1) none 42 [.ro (List.map (intR .u64) v0),.lit (.int .i64 v1)] = ob (g_cell_is v0 v1) fun r => some ((.lit (.bool r)),[]) := by
  rw [xC_eq]
  unfold g_cell_is
  simp (maxSteps := 2000000) -implicitDefEqProofs only [xe42,xb42,xm42_0,xk42_0_ret,↓syP,syA,syD,Nat.reduceAdd,Nat.reduceSub,Nat.reduceMul,Nat.reduceLT,Nat.reduceLeDiff,Nat.reduceEqDiff,Nat.reduceBEq,Nat.reduceBNe,Int.reduceBEq,Int.reduceBNe,Int.reduceLT,Int.reduceLE,Int.reduceAdd,Int.reduceSub,Int.reduceNeg,syE,xQ]
  all_goals simp -implicitDefEqProofs only [List.map_nil]
def g_cell_Load (v0 : (List Int)) (v1 : Int) : Option Int :=
 ob (g_cell_is v0 v1) fun x22 =>
 bif !x22 then
 some 0
 else
 ob (idx v0 v1) fun x23 =>
 some x23
theorem h_cell_Load (k : Nat) (v0 : List Int) (v1 : Int) : xC (k + 2) none 13 [.ro (List.map (intR .u64) v0),.lit (.int .i64 v1)] = ob (g_cell_Load v0 v1) fun r => some ((.lit (.int .u64 r)),[]) := by
  rw [xC_eq]
  unfold g_cell_Load
  simp (maxSteps := 2000000) -implicitDefEqProofs only [xe13,xb13,↓syP,syA,syD,Nat.reduceAdd,Nat.reduceSub,Nat.reduceMul,Nat.reduceLT,Nat.reduceLeDiff,Nat.reduceEqDiff,Nat.reduceBEq,Nat.reduceBNe,Int.reduceBEq,Int.reduceBNe,Int.reduceLT,Int.reduceLE,Int.reduceAdd,Int.reduceSub,Int.reduceNeg,syE,xQ,h_cell_is]
  all_goals simp -implicitDefEqProofs only [List.map_nil]
def g_cell_Store (v0 : (List Int)) (v1 : Int) (v2 : Int) : Option (List Int) :=
 ob (g_clone 8 v0) fun x31 =>
 ob (g_cell_is v0 v1) fun x32 =>
 bif !x32 then
 some x31
 else
 ob (idx v0 v1) fun x33 =>
 bif decide (0 ≤ v1 ∧ v1.toNat < x31.length) then
 ob (x31[v1.toNat]?) fun x34 =>
 ob (idx v0 v1) fun x35 =>
 some (x31.set v1.toNat v2)
 else
 none
theorem h_cell_Store (k : Nat) (v0 : List Int) (v1 v2 : Int) : xC (k + 11) none 112 [.ro (List.map (intR .u64) v0),.lit (.int .i64 v1),.lit (.int .u64 v2)] = ob (g_cell_Store v0 v1 v2) fun r => some ((.ro (List.map (intR .u64) r)),[]) := by
  rw [xC_eq]
  unfold g_cell_Store
  simp (maxSteps := 2000000) -implicitDefEqProofs only [xe89,xb89,xe112,xb112,xe137,xb137,↓syP,syA,syD,Nat.reduceAdd,Nat.reduceSub,Nat.reduceMul,Nat.reduceLT,Nat.reduceLeDiff,Nat.reduceEqDiff,Nat.reduceBEq,Nat.reduceBNe,Int.reduceBEq,Int.reduceBNe,Int.reduceLT,Int.reduceLE,Int.reduceAdd,Int.reduceSub,Int.reduceNeg,syE,xQ,h_cell_is]
  all_goals simp -implicitDefEqProofs only [List.map_nil]
def g_frame_Over (v0 : (Int × Int × Int × Int × Int × Int × Int)) : Option Bool :=
 some (v0.2.2.2.2.2.2 != 0)
theorem h_frame_Over (k : Nat) (v0_0 v0_1 v0_2 v0_3 v0_4 v0_5 v0_6 : Int) : xC (k + 1) none 68 [.agg [.lit (.int .i64 v0_0),.lit (.int .i64 v0_1),.lit (.int .i64 v0_2),.lit (.int .u64 v0_3),.lit (.int .u64 v0_4),.lit (.int .u64 v0_5),.lit (.int .i64 v0_6)]] = ob (g_frame_Over (v0_0,v0_1,v0_2,v0_3,v0_4,v0_5,v0_6)) fun r => some ((.lit (.bool r)),[]) := by
  rw [xC_eq]
  unfold g_frame_Over
  simp (maxSteps := 2000000) -implicitDefEqProofs only [xe68,xb68,↓syP,syA,syD,Nat.reduceAdd,Nat.reduceSub,Nat.reduceMul,Nat.reduceLT,Nat.reduceLeDiff,Nat.reduceEqDiff,Nat.reduceBEq,Nat.reduceBNe,Int.reduceBEq,Int.reduceBNe,Int.reduceLT,Int.reduceLE,Int.reduceAdd,Int.reduceSub,Int.reduceNeg,syE,xQ]
  all_goals simp -implicitDefEqProofs only [List.map_nil]
def g_cell_Add (v0 : (List Int)) (v1 : Int) (v2 : Int) : Option ((List Int) × Int) :=
 ob (g_clone 8 v0) fun x46 =>
 ob (g_cell_is v0 v1) fun x47 =>
 bif !x47 then
 some (x46,0)
 else
 ob (idx v0 v1) fun x48 =>
 bif decide (0 ≤ v1 ∧ v1.toNat < x46.length) then
 ob (x46[v1.toNat]?) fun x49 =>
 ob (idx v0 v1) fun x50 =>
 some ((x46.set v1.toNat (IntKind.u64.wrap (x48 + v2))),x50)
 else
 none
theorem h_cell_Add (k : Nat) (v0 : List Int) (v1 v2 : Int) : xC (k + 11) none 73 [.ro (List.map (intR .u64) v0),.lit (.int .i64 v1),.lit (.int .u64 v2)] = ob (g_cell_Add v0 v1 v2) fun r => some ((.tup [.ro (List.map (intR .u64) r.1),.lit (.int .u64 r.2)]),[]) := by
  rw [xC_eq]
  unfold g_cell_Add
  simp (maxSteps := 2000000) -implicitDefEqProofs only [xe73,xb73,xe89,xb89,xe90,xb90,↓syP,syA,syD,Nat.reduceAdd,Nat.reduceSub,Nat.reduceMul,Nat.reduceLT,Nat.reduceLeDiff,Nat.reduceEqDiff,Nat.reduceBEq,Nat.reduceBNe,Int.reduceBEq,Int.reduceBNe,Int.reduceLT,Int.reduceLE,Int.reduceAdd,Int.reduceSub,Int.reduceNeg,syE,xQ,h_cell_is]
  all_goals simp -implicitDefEqProofs only [List.map_nil]
def g_frame_Begin (v0 : Int) (v1 : Int) (v2 : Int) : Option (Int × Int × Int × Int × Int × Int × Int) :=
 some (v0,0,v1,v2,0,0,0)
theorem h_frame_Begin (k : Nat) (v0 v1 v2 : Int) : xC (k + 1) none 44 [.lit (.int .i64 v0),.lit (.int .i64 v1),.lit (.int .u64 v2)] = ob (g_frame_Begin v0 v1 v2) fun r => some ((.agg [.lit (.int .i64 r.1),.lit (.int .i64 r.2.1),.lit (.int .i64 r.2.2.1),.lit (.int .u64 r.2.2.2.1),.lit (.int .u64 r.2.2.2.2.1),.lit (.int .u64 r.2.2.2.2.2.1),.lit (.int .i64 r.2.2.2.2.2.2)]),[]) := by
  rw [xC_eq]
  unfold g_frame_Begin
  simp (maxSteps := 2000000) -implicitDefEqProofs only [xe44,xb44,↓syP,syA,syD,Nat.reduceAdd,Nat.reduceSub,Nat.reduceMul,Nat.reduceLT,Nat.reduceLeDiff,Nat.reduceEqDiff,Nat.reduceBEq,Nat.reduceBNe,Int.reduceBEq,Int.reduceBNe,Int.reduceLT,Int.reduceLE,Int.reduceAdd,Int.reduceSub,Int.reduceNeg,syE,xQ]
  all_goals simp -implicitDefEqProofs only [List.map_nil]
def g_cell_Cas (v0 : (List Int)) (v1 : Int) (v2 : Int) (v3 : Int) : Option ((List Int) × Bool) :=
 ob (g_clone 8 v0) fun x63 =>
 ob (g_cell_is v0 v1) fun x64 =>
 bif !x64 then
 some (x63,false)
 else
 ob (idx v0 v1) fun x65 =>
 bif x65 != v2 then
 bif decide (0 ≤ v1 ∧ v1.toNat < x63.length) then
 ob (x63[v1.toNat]?) fun x66 =>
 ob (idx v0 v1) fun x67 =>
 some ((x63.set v1.toNat x65),false)
 else
 none
 else
 bif decide (0 ≤ v1 ∧ v1.toNat < x63.length) then
 ob (x63[v1.toNat]?) fun x68 =>
 ob (idx v0 v1) fun x69 =>
 some ((x63.set v1.toNat v3),true)
 else
 none
theorem h_cell_Cas (k : Nat) (v0 : List Int) (v1 v2 v3 : Int) : xC (k + 11) none 102 [.ro (List.map (intR .u64) v0),.lit (.int .i64 v1),.lit (.int .u64 v2),.lit (.int .u64 v3)] = ob (g_cell_Cas v0 v1 v2 v3) fun r => some ((.tup [.ro (List.map (intR .u64) r.1),.lit (.bool r.2)]),[]) := by
  rw [xC_eq]
  unfold g_cell_Cas
  simp (maxSteps := 2000000) -implicitDefEqProofs only [xe89,xb89,xe102,xb102,xe135,xb135,↓syP,syA,syD,Nat.reduceAdd,Nat.reduceSub,Nat.reduceMul,Nat.reduceLT,Nat.reduceLeDiff,Nat.reduceEqDiff,Nat.reduceBEq,Nat.reduceBNe,Int.reduceBEq,Int.reduceBNe,Int.reduceLT,Int.reduceLE,Int.reduceAdd,Int.reduceSub,Int.reduceNeg,syE,xQ,h_cell_is]
  all_goals simp -implicitDefEqProofs only [List.map_nil]
def g_frame_End (v0 : (Int × Int × Int × Int × Int × Int × Int)) (v1 : Int) (v2 : Int) : Option (Int × Int × Int × Int × Int × Int × Int) :=
 some (v0.1,0,v0.2.2.1,v2,0,0,v1)
theorem h_frame_End (k : Nat) (v0_0 v0_1 v0_2 v0_3 v0_4 v0_5 v0_6 v1 v2 : Int) : xC (k + 1) none 104 [.agg [.lit (.int .i64 v0_0),.lit (.int .i64 v0_1),.lit (.int .i64 v0_2),.lit (.int .u64 v0_3),.lit (.int .u64 v0_4),.lit (.int .u64 v0_5),.lit (.int .i64 v0_6)],.lit (.int .i64 v1),.lit (.int .u64 v2)] = ob (g_frame_End (v0_0,v0_1,v0_2,v0_3,v0_4,v0_5,v0_6) v1 v2) fun r => some ((.agg [.lit (.int .i64 r.1),.lit (.int .i64 r.2.1),.lit (.int .i64 r.2.2.1),.lit (.int .u64 r.2.2.2.1),.lit (.int .u64 r.2.2.2.2.1),.lit (.int .u64 r.2.2.2.2.2.1),.lit (.int .i64 r.2.2.2.2.2.2)]),[]) := by
  rw [xC_eq]
  unfold g_frame_End
  simp (maxSteps := 2000000) -implicitDefEqProofs only [xe104,xb104,↓syP,syA,syD,Nat.reduceAdd,Nat.reduceSub,Nat.reduceMul,Nat.reduceLT,Nat.reduceLeDiff,Nat.reduceEqDiff,Nat.reduceBEq,Nat.reduceBNe,Int.reduceBEq,Int.reduceBNe,Int.reduceLT,Int.reduceLE,Int.reduceAdd,Int.reduceSub,Int.reduceNeg,syE,xQ]
  all_goals simp -implicitDefEqProofs only [List.map_nil]
def g_word_Set (v0 : Int) (v1 : Int) : Option Int :=
 bif decide (v1 < 0) then
 some v0
 else
 bif decide (16 ≤ v1) then
 some v0
 else
 bif decide (0 ≤ v1) then
 some (orI IntKind.u64 v0 (shlI IntKind.u64 1 v1))
 else
 none
theorem h_word_Set (k : Nat) (v0 v1 : Int) : xC (k + 1) none 129 [.lit (.int .u64 v0),.lit (.int .i64 v1)] = ob (g_word_Set v0 v1) fun r => some ((.lit (.int .u64 r)),[]) := by
  rw [xC_eq]
  unfold g_word_Set
  simp (maxSteps := 2000000) -implicitDefEqProofs only [xe129,xb129,xm129_0,xk129_0_ret,↓syP,syA,syD,Nat.reduceAdd,Nat.reduceSub,Nat.reduceMul,Nat.reduceLT,Nat.reduceLeDiff,Nat.reduceEqDiff,Nat.reduceBEq,Nat.reduceBNe,Int.reduceBEq,Int.reduceBNe,Int.reduceLT,Int.reduceLE,Int.reduceAdd,Int.reduceSub,Int.reduceNeg,syE,xQ]
  all_goals simp -implicitDefEqProofs only [List.map_nil]
def g_word_Epoch (v0 : Int) : Option Int :=
 some (shrI IntKind.u64 v0 16)
theorem h_word_Epoch (k : Nat) (v0 : Int) : xC (k + 1) none 128 [.lit (.int .u64 v0)] = ob (g_word_Epoch v0) fun r => some ((.lit (.int .u64 r)),[]) := by
  rw [xC_eq]
  unfold g_word_Epoch
  simp (maxSteps := 2000000) -implicitDefEqProofs only [xe128,xb128,↓syP,syA,syD,Nat.reduceAdd,Nat.reduceSub,Nat.reduceMul,Nat.reduceLT,Nat.reduceLeDiff,Nat.reduceEqDiff,Nat.reduceBEq,Nat.reduceBNe,Int.reduceBEq,Int.reduceBNe,Int.reduceLT,Int.reduceLE,Int.reduceAdd,Int.reduceSub,Int.reduceNeg,syE,xQ]
  all_goals simp -implicitDefEqProofs only [List.map_nil]
def g_lay_Park (v0 : (Int × Int × Int × Int)) (v1 : Int) : Option Int :=
 ob (g_lay_May v0) fun x80 =>
 bif !x80 then
 some ((-1))
 else
 ob (g_lay_in v1 0 (IntKind.i64.wrap (v0.1 - 1))) fun x81 =>
 bif !x81 then
 some ((-1))
 else
 ob (g_lay_base v0 v1) fun x82 =>
 some (IntKind.i64.wrap (x82 + 2))
theorem h_lay_Park (k : Nat) (v0_0 v0_1 v0_2 v0_3 v1 : Int) : xC (k + 12) none 130 [.agg [.lit (.int .i64 v0_0),.lit (.int .i64 v0_1),.lit (.int .i64 v0_2),.lit (.int .i64 v0_3)],.lit (.int .i64 v1)] = ob (g_lay_Park (v0_0,v0_1,v0_2,v0_3) v1) fun r => some ((.lit (.int .i64 r)),[]) := by
  rw [xC_eq]
  unfold g_lay_Park
  simp (maxSteps := 2000000) -implicitDefEqProofs only [xe75,xb75,xm75_0,xk75_0_ret,xe130,xb130,xe143,xb143,↓syP,syA,syD,Nat.reduceAdd,Nat.reduceSub,Nat.reduceMul,Nat.reduceLT,Nat.reduceLeDiff,Nat.reduceEqDiff,Nat.reduceBEq,Nat.reduceBNe,Int.reduceBEq,Int.reduceBNe,Int.reduceLT,Int.reduceLE,Int.reduceAdd,Int.reduceSub,Int.reduceNeg,syE,xQ,h_lay_in,h_lay_May,h_lay_base]
  all_goals simp -implicitDefEqProofs only [List.map_nil]
def g_word_Mask (v0 : Int) : Option Int :=
 some (andI IntKind.u64 v0 65535)
theorem h_word_Mask (k : Nat) (v0 : Int) : xC (k + 1) none 103 [.lit (.int .u64 v0)] = ob (g_word_Mask v0) fun r => some ((.lit (.int .u64 r)),[]) := by
  rw [xC_eq]
  unfold g_word_Mask
  simp (maxSteps := 2000000) -implicitDefEqProofs only [xe103,xb103,↓syP,syA,syD,Nat.reduceAdd,Nat.reduceSub,Nat.reduceMul,Nat.reduceLT,Nat.reduceLeDiff,Nat.reduceEqDiff,Nat.reduceBEq,Nat.reduceBNe,Int.reduceBEq,Int.reduceBNe,Int.reduceLT,Int.reduceLE,Int.reduceAdd,Int.reduceSub,Int.reduceNeg,syE,xQ]
  all_goals simp -implicitDefEqProofs only [List.map_nil]
def g_push_Goes (v0 : (Int × Int × Int × Int)) (v1 : (List Int)) (v2 : (Int × Int × Int × Int × Int × Int × Int)) (v3 : Int) (v4 : Int) : Option Bool :=
 ob (g_lay_May v0) fun x89 =>
 bif x89 then
 ob (g_lay_Size v0) fun x90 =>
 bif (↑v1.length : Int) == x90 then
 ob (g_frame_Over v2) fun x91 =>
 bif !x91 then
 bif decide (0 ≤ v2.2.2.1) then
 bif decide (v2.2.2.1 < v0.1) then
 bif v2.1 == v3 then
 bif decide (0 ≤ v2.2.1) then
 some (decide (v2.2.1 < v4))
 else
 some false
 else
 some false
 else
 some false
 else
 some false
 else
 some false
 else
 some false
 else
 some false
theorem h_push_Goes (k : Nat) (v0_0 v0_1 v0_2 v0_3 : Int) (v1 : List Int) (v2_0 v2_1 v2_2 v2_3 v2_4 v2_5 v2_6 v3 v4 : Int) : xC (k + 4) none 99 [.agg [.lit (.int .i64 v0_0),.lit (.int .i64 v0_1),.lit (.int .i64 v0_2),.lit (.int .i64 v0_3)],.ro (List.map (intR .u64) v1),.agg [.lit (.int .i64 v2_0),.lit (.int .i64 v2_1),.lit (.int .i64 v2_2),.lit (.int .u64 v2_3),.lit (.int .u64 v2_4),.lit (.int .u64 v2_5),.lit (.int .i64 v2_6)],.lit (.int .i64 v3),.lit (.int .i64 v4)] = ob (g_push_Goes (v0_0,v0_1,v0_2,v0_3) v1 (v2_0,v2_1,v2_2,v2_3,v2_4,v2_5,v2_6) v3 v4) fun r => some ((.lit (.bool r)),[]) := by
  rw [xC_eq]
  unfold g_push_Goes
  simp (maxSteps := 2000000) -implicitDefEqProofs only [xe99,xb99,xm99_0,xm99_1,xm99_2,xm99_3,xm99_4,xm99_5,xm99_6,xk99_0_ret,↓syP,syA,syD,Nat.reduceAdd,Nat.reduceSub,Nat.reduceMul,Nat.reduceLT,Nat.reduceLeDiff,Nat.reduceEqDiff,Nat.reduceBEq,Nat.reduceBNe,Int.reduceBEq,Int.reduceBNe,Int.reduceLT,Int.reduceLE,Int.reduceAdd,Int.reduceSub,Int.reduceNeg,syE,xQ,h_lay_May,h_lay_Size,h_frame_Over]
  all_goals simp -implicitDefEqProofs only [List.map_nil]
def g_wait_Step (v0 : (Int × Int × Int × Int)) (v1 : (List Int)) (v2 : (Int × Int × Int × Int × Int × Int × Int)) : Option ((List Int) × (Int × Int × Int × Int × Int × Int × Int)) :=
 ob (g_clone 8 v1) fun x109 =>
 ob (g_push_Goes v0 v1 v2 5 5) fun x110 =>
 bif x110 then
 bif decide (0 ≤ v2.2.1 ∧ v2.2.1.toNat < 5) then
 bif v2.2.1.toNat == 0 then
 ob (g_cell_Load x109 2) fun x111 =>
 some (x109,(v2.1,1,v2.2.2.1,v2.2.2.2.1,x111,v2.2.2.2.2.2))
 else
 bif v2.2.1.toNat == 1 then
 ob (g_cell_Load x109 2) fun x112 =>
 ob (g_word_Epoch x112) fun x113 =>
 ob (g_word_Epoch v2.2.2.2.2.1) fun x114 =>
 bif x113 != x114 then
 ob (g_frame_End (v2.1,2,v2.2.2.1,v2.2.2.2.1,v2.2.2.2.2.1,x112,v2.2.2.2.2.2.2) 4 0) fun x115 =>
 some (x109,x115)
 else
 some (x109,(v2.1,2,v2.2.2.1,v2.2.2.2.1,v2.2.2.2.2.1,x112,v2.2.2.2.2.2.2))
 else
 bif v2.2.1.toNat == 2 then
 ob (g_word_Set v2.2.2.2.2.2.1 v2.2.2.1) fun x116 =>
 ob (g_cell_Cas x109 2 v2.2.2.2.2.2.1 x116) fun x117 =>
 bif x117.2 then
 some (x117.1,(v2.1,3,v2.2.2))
 else
 some (x117.1,(v2.1,1,v2.2.2))
 else
 bif v2.2.1.toNat == 3 then
 ob (g_lay_Park v0 v2.2.2.1) fun x118 =>
 ob (g_cell_Load x109 x118) fun x119 =>
 bif x119 != 0 then
 some (x109,(v2.1,4,v2.2.2.1,v2.2.2.2.1,v2.2.2.2.2.1,x119,v2.2.2.2.2.2.2))
 else
 some (x109,(v2.1,v2.2.1,v2.2.2.1,v2.2.2.2.1,v2.2.2.2.2.1,x119,v2.2.2.2.2.2.2))
 else
 bif v2.2.1.toNat == 4 then
 ob (g_lay_Park v0 v2.2.2.1) fun x120 =>
 ob (g_cell_Store x109 x120 0) fun x121 =>
 ob (g_frame_End v2 1 0) fun x122 =>
 some (x121,x122)
 else
 none
 else
 none
 else
 some (x109,v2)
theorem h_wait_Step (k : Nat) (v0_0 v0_1 v0_2 v0_3 : Int) (v1 : List Int) (v2_0 v2_1 v2_2 v2_3 v2_4 v2_5 v2_6 : Int) : xC (k + 14) none 82 [.agg [.lit (.int .i64 v0_0),.lit (.int .i64 v0_1),.lit (.int .i64 v0_2),.lit (.int .i64 v0_3)],.ro (List.map (intR .u64) v1),.agg [.lit (.int .i64 v2_0),.lit (.int .i64 v2_1),.lit (.int .i64 v2_2),.lit (.int .u64 v2_3),.lit (.int .u64 v2_4),.lit (.int .u64 v2_5),.lit (.int .i64 v2_6)]] = ob (g_wait_Step (v0_0,v0_1,v0_2,v0_3) v1 (v2_0,v2_1,v2_2,v2_3,v2_4,v2_5,v2_6)) fun r => some ((.tup [.ro (List.map (intR .u64) r.1),.agg [.lit (.int .i64 r.2.1),.lit (.int .i64 r.2.2.1),.lit (.int .i64 r.2.2.2.1),.lit (.int .u64 r.2.2.2.2.1),.lit (.int .u64 r.2.2.2.2.2.1),.lit (.int .u64 r.2.2.2.2.2.2.1),.lit (.int .i64 r.2.2.2.2.2.2.2)]]),[]) := by
  rw [xC_eq]
  unfold g_wait_Step
  simp (maxSteps := 2000000) -implicitDefEqProofs only [xe82,xb82,xj82_0,xk82_0_ret,xe94,xb94,xe95,xb95,xe96,xb96,xe97,xb97,xe98,xb98,↓syP,syA,syD,Nat.reduceAdd,Nat.reduceSub,Nat.reduceMul,Nat.reduceLT,Nat.reduceLeDiff,Nat.reduceEqDiff,Nat.reduceBEq,Nat.reduceBNe,Int.reduceBEq,Int.reduceBNe,Int.reduceLT,Int.reduceLE,Int.reduceAdd,Int.reduceSub,Int.reduceNeg,syE,xQ,h_cell_Load,h_cell_Store,h_cell_Cas,h_frame_End,h_word_Set,h_word_Epoch,h_lay_Park,h_push_Goes]
  all_goals simp -implicitDefEqProofs only [List.map_nil]
def g_lay_Top (v0 : (Int × Int × Int × Int)) (v1 : Int) : Option Int :=
 ob (g_lay_May v0) fun x152 =>
 bif !x152 then
 some ((-1))
 else
 ob (g_lay_in v1 0 (IntKind.i64.wrap (v0.1 - 1))) fun x153 =>
 bif !x153 then
 some ((-1))
 else
 ob (g_lay_base v0 v1) fun x154 =>
 some x154
theorem h_lay_Top (k : Nat) (v0_0 v0_1 v0_2 v0_3 v1 : Int) : xC (k + 12) none 52 [.agg [.lit (.int .i64 v0_0),.lit (.int .i64 v0_1),.lit (.int .i64 v0_2),.lit (.int .i64 v0_3)],.lit (.int .i64 v1)] = ob (g_lay_Top (v0_0,v0_1,v0_2,v0_3) v1) fun r => some ((.lit (.int .i64 r)),[]) := by
  rw [xC_eq]
  unfold g_lay_Top
  simp (maxSteps := 2000000) -implicitDefEqProofs only [xe52,xb52,xe75,xb75,xm75_0,xk75_0_ret,xe76,xb76,↓syP,syA,syD,Nat.reduceAdd,Nat.reduceSub,Nat.reduceMul,Nat.reduceLT,Nat.reduceLeDiff,Nat.reduceEqDiff,Nat.reduceBEq,Nat.reduceBNe,Int.reduceBEq,Int.reduceBNe,Int.reduceLT,Int.reduceLE,Int.reduceAdd,Int.reduceSub,Int.reduceNeg,syE,xQ,h_lay_in,h_lay_May,h_lay_base]
  all_goals simp -implicitDefEqProofs only [List.map_nil]
def g_lay_Bottom (v0 : (Int × Int × Int × Int)) (v1 : Int) : Option Int :=
 ob (g_lay_May v0) fun x161 =>
 bif !x161 then
 some ((-1))
 else
 ob (g_lay_in v1 0 (IntKind.i64.wrap (v0.1 - 1))) fun x162 =>
 bif !x162 then
 some ((-1))
 else
 ob (g_lay_base v0 v1) fun x163 =>
 some (IntKind.i64.wrap (x163 + 1))
theorem h_lay_Bottom (k : Nat) (v0_0 v0_1 v0_2 v0_3 v1 : Int) : xC (k + 12) none 54 [.agg [.lit (.int .i64 v0_0),.lit (.int .i64 v0_1),.lit (.int .i64 v0_2),.lit (.int .i64 v0_3)],.lit (.int .i64 v1)] = ob (g_lay_Bottom (v0_0,v0_1,v0_2,v0_3) v1) fun r => some ((.lit (.int .i64 r)),[]) := by
  rw [xC_eq]
  unfold g_lay_Bottom
  simp (maxSteps := 2000000) -implicitDefEqProofs only [xe54,xb54,xe75,xb75,xm75_0,xk75_0_ret,xe77,xb77,↓syP,syA,syD,Nat.reduceAdd,Nat.reduceSub,Nat.reduceMul,Nat.reduceLT,Nat.reduceLeDiff,Nat.reduceEqDiff,Nat.reduceBEq,Nat.reduceBNe,Int.reduceBEq,Int.reduceBNe,Int.reduceLT,Int.reduceLE,Int.reduceAdd,Int.reduceSub,Int.reduceNeg,syE,xQ,h_lay_in,h_lay_May,h_lay_base]
  all_goals simp -implicitDefEqProofs only [List.map_nil]
def g_lay_Slot (v0 : (Int × Int × Int × Int)) (v1 : Int) (v2 : Int) : Option Int :=
 ob (g_lay_May v0) fun x170 =>
 bif !x170 then
 some ((-1))
 else
 ob (g_lay_in v1 0 (IntKind.i64.wrap (v0.1 - 1))) fun x171 =>
 bif !x171 then
 some ((-1))
 else
 ob (g_lay_base v0 v1) fun x172 =>
 some (IntKind.i64.wrap (IntKind.i64.wrap (x172 + 3) + IntKind.i64.wrap (andI IntKind.u64 v2 (IntKind.u64.wrap (IntKind.i64.wrap (v0.2.1 - 1))))))
theorem h_lay_Slot (k : Nat) (v0_0 v0_1 v0_2 v0_3 v1 v2 : Int) : xC (k + 12) none 113 [.agg [.lit (.int .i64 v0_0),.lit (.int .i64 v0_1),.lit (.int .i64 v0_2),.lit (.int .i64 v0_3)],.lit (.int .i64 v1),.lit (.int .u64 v2)] = ob (g_lay_Slot (v0_0,v0_1,v0_2,v0_3) v1 v2) fun r => some ((.lit (.int .i64 r)),[]) := by
  rw [xC_eq]
  unfold g_lay_Slot
  simp (maxSteps := 2000000) -implicitDefEqProofs only [xe75,xb75,xm75_0,xk75_0_ret,xe113,xb113,xe138,xb138,↓syP,syA,syD,Nat.reduceAdd,Nat.reduceSub,Nat.reduceMul,Nat.reduceLT,Nat.reduceLeDiff,Nat.reduceEqDiff,Nat.reduceBEq,Nat.reduceBNe,Int.reduceBEq,Int.reduceBNe,Int.reduceLT,Int.reduceLE,Int.reduceAdd,Int.reduceSub,Int.reduceNeg,syE,xQ,h_lay_in,h_lay_May,h_lay_base]
  all_goals simp -implicitDefEqProofs only [List.map_nil]
def g_word_Far (v0 : Int) (v1 : Int) : Option Int :=
 some (IntKind.i64.wrap (IntKind.u64.wrap (v0 - v1)))
theorem h_word_Far (k : Nat) (v0 v1 : Int) : xC (k + 1) none 53 [.lit (.int .u64 v0),.lit (.int .u64 v1)] = ob (g_word_Far v0 v1) fun r => some ((.lit (.int .i64 r)),[]) := by
  rw [xC_eq]
  unfold g_word_Far
  simp (maxSteps := 2000000) -implicitDefEqProofs only [xe53,xb53,↓syP,syA,syD,Nat.reduceAdd,Nat.reduceSub,Nat.reduceMul,Nat.reduceLT,Nat.reduceLeDiff,Nat.reduceEqDiff,Nat.reduceBEq,Nat.reduceBNe,Int.reduceBEq,Int.reduceBNe,Int.reduceLT,Int.reduceLE,Int.reduceAdd,Int.reduceSub,Int.reduceNeg,syE,xQ]
  all_goals simp -implicitDefEqProofs only [List.map_nil]
def g_draw_below (v0 : Int) (v1 : Int) : Option Bool :=
 bif decide (0 ≤ v0) then
 some (decide (v0 < v1))
 else
 some false
theorem h_draw_below (k : Nat) (v0 v1 : Int) : xC (k + 1) none 74 [.lit (.int .i64 v0),.lit (.int .i64 v1)] = ob (g_draw_below v0 v1) fun r => some ((.lit (.bool r)),[]) := by
  rw [xC_eq]
  unfold g_draw_below
  simp (maxSteps := 2000000) -implicitDefEqProofs only [xe74,xb74,xm74_0,xk74_0_ret,↓syP,syA,syD,Nat.reduceAdd,Nat.reduceSub,Nat.reduceMul,Nat.reduceLT,Nat.reduceLeDiff,Nat.reduceEqDiff,Nat.reduceBEq,Nat.reduceBNe,Int.reduceBEq,Int.reduceBNe,Int.reduceLT,Int.reduceLE,Int.reduceAdd,Int.reduceSub,Int.reduceNeg,syE,xQ]
  all_goals simp -implicitDefEqProofs only [List.map_nil]
def g_draw_Victim (v0 : Int) (v1 : Int) (v2 : Int) : Option Int :=
 bif decide (v2 < 2) then
 some ((-1))
 else
 ob (g_draw_below v1 v2) fun x177 =>
 bif !x177 then
 some ((-1))
 else
 bif IntKind.u64.wrap (IntKind.u64.wrap v2 - 1) != 0 then
 bif IntKind.u64.wrap v2 != 0 then
 some (IntKind.i64.wrap ((IntKind.u64.wrap (IntKind.u64.wrap (IntKind.u64.wrap v1 + 1) + v0.tmod (IntKind.u64.wrap (IntKind.u64.wrap v2 - 1)))).tmod (IntKind.u64.wrap v2)))
 else
 none
 else
 none
theorem h_draw_Victim (k : Nat) (v0 v1 v2 : Int) : xC (k + 2) none 51 [.lit (.int .u64 v0),.lit (.int .i64 v1),.lit (.int .i64 v2)] = ob (g_draw_Victim v0 v1 v2) fun r => some ((.lit (.int .i64 r)),[]) := by
  rw [xC_eq]
  unfold g_draw_Victim
  simp (maxSteps := 2000000) -implicitDefEqProofs only [xe51,xb51,xm51_0,xk51_0_ret,↓syP,syA,syD,Nat.reduceAdd,Nat.reduceSub,Nat.reduceMul,Nat.reduceLT,Nat.reduceLeDiff,Nat.reduceEqDiff,Nat.reduceBEq,Nat.reduceBNe,Int.reduceBEq,Int.reduceBNe,Int.reduceLT,Int.reduceLE,Int.reduceAdd,Int.reduceSub,Int.reduceNeg,syE,xQ,h_draw_below]
  all_goals simp -implicitDefEqProofs only [List.map_nil]
end Go.Ab
