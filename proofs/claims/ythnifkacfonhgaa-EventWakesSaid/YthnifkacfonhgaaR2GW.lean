/- Functions as they are walked: printed by Walk.lean. -/
import Derived.Test.YthnifkacfonhgaaR2Run
import Derived.Test.YthnifkacfonhgaaR2Facts
import Derived.Test.YthnifkacfonhgaaR2Man
import Derived.Test.YthnifkacfonhgaaR2Awk
import Derived.Test.YthnifkacfonhgaaR2B1
import Derived.Test.YthnifkacfonhgaaR2B2
import Derived.Test.YthnifkacfonhgaaR2B3
set_option linter.unusedVariables false
set_option linter.unusedSimpArgs false
set_option maxRecDepth 100000
set_option linter.unusedVariables false
set_option linter.unusedSimpArgs false
namespace Go.Ab
open Go.Proofs
def g_lay_in (v0 : Int) (v1 : Int) (v2 : Int) : Option Bool :=
  bif decide (v1 ≤ v0) then
   some (decide (v0 ≤ v2))
  else
   some (false)
theorem h_lay_in (k : Nat) (v0 : Int) (v1 : Int) (v2 : Int) : xC (k + 1) none 92 [(.lit (.int .i64 v0)),(.lit (.int .i64 v1)),(.lit (.int .i64 v2))] = ob (g_lay_in v0 v1 v2) fun r => some ((.lit (.bool r)),[]) := by
  rw [xC_eq]
  unfold g_lay_in
  simp (maxSteps := 2000000) -implicitDefEqProofs only [xe92,xb92,xm92_0,xk92_0_ret,↓syP,syA,rtN,pureL,V.pure,nsh,stBk,V.kill,killL,spl,V.shift,shiftL,V.scal,scalL,intR,boolR,threeV,Nat.reduceAdd,Nat.reduceSub,Nat.reduceMul,Nat.reduceLT,Nat.reduceLeDiff,Nat.reduceEqDiff,Nat.reduceBEq,Nat.reduceBNe,Int.reduceBEq,Int.reduceBNe,Int.reduceLT,Int.reduceLE,Int.reduceAdd,Int.reduceSub,Int.reduceNeg,syQ,confV,frameV,listV,xF,xcallV,xcallC,xcallL,xcallY,xevY,xY_ready,xrange,xG_fn,xR,xA,xcl50,xclk50,xcl83,xclk83,awk14',awk15']
  all_goals simp -implicitDefEqProofs only [List.map_nil]
def g_lay_May (v0 : (Int × Int × Int × Int)) : Option Bool :=
  ob (g_lay_in v0.1 (1 : Int) (8 : Int)) fun x5 =>
  bif x5 then
   ob (g_lay_in v0.2.1 (1 : Int) (16 : Int)) fun x6 =>
   bif x6 then
    bif andI IntKind.i64 v0.2.1 (IntKind.i64.wrap (v0.2.1 - (1 : Int))) == (0 : Int) then
     ob (g_lay_in v0.2.2.1 (1 : Int) (16 : Int)) fun x7 =>
     bif x7 then
      ob (g_lay_in v0.2.2.2 (0 : Int) (4 : Int)) fun x8 =>
      some (x8)
     else
      some (false)
    else
     some (false)
   else
    some (false)
  else
   some (false)
theorem h_lay_May (k : Nat) (v0_0 : Int) (v0_1 : Int) (v0_2 : Int) (v0_3 : Int) : xC (k + 2) none 68 [(.agg [(.lit (.int .i64 v0_0)),(.lit (.int .i64 v0_1)),(.lit (.int .i64 v0_2)),(.lit (.int .i64 v0_3))])] = ob (g_lay_May (v0_0,v0_1,v0_2,v0_3)) fun r => some ((.lit (.bool r)),[]) := by
  rw [xC_eq]
  unfold g_lay_May
  simp (maxSteps := 2000000) -implicitDefEqProofs only [xe68,xb68,xm68_0,xm68_1,xm68_2,xm68_3,xk68_0_ret,↓syP,syA,rtN,pureL,V.pure,nsh,stBk,V.kill,killL,spl,V.shift,shiftL,V.scal,scalL,intR,boolR,threeV,Nat.reduceAdd,Nat.reduceSub,Nat.reduceMul,Nat.reduceLT,Nat.reduceLeDiff,Nat.reduceEqDiff,Nat.reduceBEq,Nat.reduceBNe,Int.reduceBEq,Int.reduceBNe,Int.reduceLT,Int.reduceLE,Int.reduceAdd,Int.reduceSub,Int.reduceNeg,syQ,confV,frameV,listV,xF,xcallV,xcallC,xcallL,xcallY,xevY,xY_ready,xrange,xG_fn,xR,xA,xcl50,xclk50,xcl83,xclk83,awk14',awk15',h_lay_in]
  all_goals simp -implicitDefEqProofs only [List.map_nil]
def g_lay_base (v0 : (Int × Int × Int × Int)) (v1 : Int) : Option Int :=
  some (IntKind.i64.wrap (IntKind.i64.wrap ((6 : Int) + IntKind.i64.wrap ((2 : Int) * v0.2.2.1)) + IntKind.i64.wrap (v1 * IntKind.i64.wrap ((3 : Int) + v0.2.1))))
theorem h_lay_base (k : Nat) (v0_0 : Int) (v0_1 : Int) (v0_2 : Int) (v0_3 : Int) (v1 : Int) : xC (k + 1) none 72 [(.agg [(.lit (.int .i64 v0_0)),(.lit (.int .i64 v0_1)),(.lit (.int .i64 v0_2)),(.lit (.int .i64 v0_3))]),(.lit (.int .i64 v1))] = ob (g_lay_base (v0_0,v0_1,v0_2,v0_3) v1) fun r => some ((.lit (.int .i64 r)),[]) := by
  rw [xC_eq]
  unfold g_lay_base
  simp (maxSteps := 2000000) -implicitDefEqProofs only [xe72,xb72,↓syP,syA,rtN,pureL,V.pure,nsh,stBk,V.kill,killL,spl,V.shift,shiftL,V.scal,scalL,intR,boolR,threeV,Nat.reduceAdd,Nat.reduceSub,Nat.reduceMul,Nat.reduceLT,Nat.reduceLeDiff,Nat.reduceEqDiff,Nat.reduceBEq,Nat.reduceBNe,Int.reduceBEq,Int.reduceBNe,Int.reduceLT,Int.reduceLE,Int.reduceAdd,Int.reduceSub,Int.reduceNeg,syQ,confV,frameV,listV,xF,xcallV,xcallC,xcallL,xcallY,xevY,xY_ready,xrange,xG_fn,xR,xA,xcl50,xclk50,xcl83,xclk83,awk14',awk15']
  all_goals simp -implicitDefEqProofs only [List.map_nil]
def g_lay_Size (v0 : (Int × Int × Int × Int)) : Option Int :=
  ob (g_lay_May (v0.1,v0.2.1,v0.2.2.1,v0.2.2.2)) fun x17 =>
  bif !x17 then
   some ((0 : Int))
  else
   ob (g_lay_base (v0.1,v0.2.1,v0.2.2.1,v0.2.2.2) v0.1) fun x18 =>
   some (x18)
theorem h_lay_Size (k : Nat) (v0_0 : Int) (v0_1 : Int) (v0_2 : Int) (v0_3 : Int) : xC (k + 3) none 69 [(.agg [(.lit (.int .i64 v0_0)),(.lit (.int .i64 v0_1)),(.lit (.int .i64 v0_2)),(.lit (.int .i64 v0_3))])] = ob (g_lay_Size (v0_0,v0_1,v0_2,v0_3)) fun r => some ((.lit (.int .i64 r)),[]) := by
  rw [xC_eq]
  unfold g_lay_Size
  simp (maxSteps := 2000000) -implicitDefEqProofs only [xe69,xb69,↓syP,syA,rtN,pureL,V.pure,nsh,stBk,V.kill,killL,spl,V.shift,shiftL,V.scal,scalL,intR,boolR,threeV,Nat.reduceAdd,Nat.reduceSub,Nat.reduceMul,Nat.reduceLT,Nat.reduceLeDiff,Nat.reduceEqDiff,Nat.reduceBEq,Nat.reduceBNe,Int.reduceBEq,Int.reduceBNe,Int.reduceLT,Int.reduceLE,Int.reduceAdd,Int.reduceSub,Int.reduceNeg,syQ,confV,frameV,listV,xF,xcallV,xcallC,xcallL,xcallY,xevY,xY_ready,xrange,xG_fn,xR,xA,xcl50,xclk50,xcl83,xclk83,awk14',awk15',h_lay_May,h_lay_base]
  all_goals simp -implicitDefEqProofs only [List.map_nil]
def g_frame_Over (v0 : (Int × Int × Int × Int × Int × Int × Int)) : Option Bool :=
  some (v0.2.2.2.2.2.2 != (0 : Int))
theorem h_frame_Over (k : Nat) (v0_0 : Int) (v0_1 : Int) (v0_2 : Int) (v0_3 : Int) (v0_4 : Int) (v0_5 : Int) (v0_6 : Int) : xC (k + 1) none 43 [(.agg [(.lit (.int .i64 v0_0)),(.lit (.int .i64 v0_1)),(.lit (.int .i64 v0_2)),(.lit (.int .u64 v0_3)),(.lit (.int .u64 v0_4)),(.lit (.int .u64 v0_5)),(.lit (.int .i64 v0_6))])] = ob (g_frame_Over (v0_0,v0_1,v0_2,v0_3,v0_4,v0_5,v0_6)) fun r => some ((.lit (.bool r)),[]) := by
  rw [xC_eq]
  unfold g_frame_Over
  simp (maxSteps := 2000000) -implicitDefEqProofs only [xe43,xb43,↓syP,syA,rtN,pureL,V.pure,nsh,stBk,V.kill,killL,spl,V.shift,shiftL,V.scal,scalL,intR,boolR,threeV,Nat.reduceAdd,Nat.reduceSub,Nat.reduceMul,Nat.reduceLT,Nat.reduceLeDiff,Nat.reduceEqDiff,Nat.reduceBEq,Nat.reduceBNe,Int.reduceBEq,Int.reduceBNe,Int.reduceLT,Int.reduceLE,Int.reduceAdd,Int.reduceSub,Int.reduceNeg,syQ,confV,frameV,listV,xF,xcallV,xcallC,xcallL,xcallY,xevY,xY_ready,xrange,xG_fn,xR,xA,xcl50,xclk50,xcl83,xclk83,awk14',awk15']
  all_goals simp -implicitDefEqProofs only [List.map_nil]
def g_push_Goes (v0 : (Int × Int × Int × Int)) (v1 : (List Int)) (v2 : (Int × Int × Int × Int × Int × Int × Int)) (v3 : Int) (v4 : Int) : Option Bool :=
  ob (g_lay_May (v0.1,v0.2.1,v0.2.2.1,v0.2.2.2)) fun x26 =>
  bif x26 then
   ob (g_lay_Size (v0.1,v0.2.1,v0.2.2.1,v0.2.2.2)) fun x27 =>
   bif (↑v1.length : Int) == x27 then
    ob (g_frame_Over (v2.1,v2.2.1,v2.2.2.1,v2.2.2.2.1,v2.2.2.2.2.1,v2.2.2.2.2.2.1,v2.2.2.2.2.2.2)) fun x28 =>
    bif !x28 then
     bif decide ((0 : Int) ≤ v2.2.2.1) then
      bif decide (v2.2.2.1 < v0.1) then
       bif v2.1 == v3 then
        bif decide ((0 : Int) ≤ v2.2.1) then
         some (decide (v2.2.1 < v4))
        else
         some (false)
       else
        some (false)
      else
       some (false)
     else
      some (false)
    else
     some (false)
   else
    some (false)
  else
   some (false)
theorem h_push_Goes (k : Nat) (v0_0 : Int) (v0_1 : Int) (v0_2 : Int) (v0_3 : Int) (v1 : (List Int)) (v2_0 : Int) (v2_1 : Int) (v2_2 : Int) (v2_3 : Int) (v2_4 : Int) (v2_5 : Int) (v2_6 : Int) (v3 : Int) (v4 : Int) : xC (k + 4) none 28 [(.agg [(.lit (.int .i64 v0_0)),(.lit (.int .i64 v0_1)),(.lit (.int .i64 v0_2)),(.lit (.int .i64 v0_3))]),(.ro (List.map (intR .u64) v1)),(.agg [(.lit (.int .i64 v2_0)),(.lit (.int .i64 v2_1)),(.lit (.int .i64 v2_2)),(.lit (.int .u64 v2_3)),(.lit (.int .u64 v2_4)),(.lit (.int .u64 v2_5)),(.lit (.int .i64 v2_6))]),(.lit (.int .i64 v3)),(.lit (.int .i64 v4))] = ob (g_push_Goes (v0_0,v0_1,v0_2,v0_3) v1 (v2_0,v2_1,v2_2,v2_3,v2_4,v2_5,v2_6) v3 v4) fun r => some ((.lit (.bool r)),[]) := by
  rw [xC_eq]
  unfold g_push_Goes
  simp (maxSteps := 2000000) -implicitDefEqProofs only [xe28,xb28,xm28_0,xm28_1,xm28_2,xm28_3,xm28_4,xm28_5,xm28_6,xk28_0_ret,↓syP,syA,rtN,pureL,V.pure,nsh,stBk,V.kill,killL,spl,V.shift,shiftL,V.scal,scalL,intR,boolR,threeV,Nat.reduceAdd,Nat.reduceSub,Nat.reduceMul,Nat.reduceLT,Nat.reduceLeDiff,Nat.reduceEqDiff,Nat.reduceBEq,Nat.reduceBNe,Int.reduceBEq,Int.reduceBNe,Int.reduceLT,Int.reduceLE,Int.reduceAdd,Int.reduceSub,Int.reduceNeg,syQ,confV,frameV,listV,xF,xcallV,xcallC,xcallL,xcallY,xevY,xY_ready,xrange,xG_fn,xR,xA,xcl50,xclk50,xcl83,xclk83,awk14',awk15',h_lay_May,h_lay_Size,h_frame_Over]
  all_goals simp -implicitDefEqProofs only [List.map_nil]
def g_lay_Park (v0 : (Int × Int × Int × Int)) (v1 : Int) : Option Int :=
  ob (g_lay_May (v0.1,v0.2.1,v0.2.2.1,v0.2.2.2)) fun x35 =>
  bif !x35 then
   some ((-1 : Int))
  else
   ob (g_lay_in v1 (0 : Int) (IntKind.i64.wrap (v0.1 - (1 : Int)))) fun x36 =>
   bif !x36 then
    some ((-1 : Int))
   else
    ob (g_lay_base (v0.1,v0.2.1,v0.2.2.1,v0.2.2.2) v1) fun x37 =>
    some (IntKind.i64.wrap (x37 + (2 : Int)))
theorem h_lay_Park (k : Nat) (v0_0 : Int) (v0_1 : Int) (v0_2 : Int) (v0_3 : Int) (v1 : Int) : xC (k + 12) none 30 [(.agg [(.lit (.int .i64 v0_0)),(.lit (.int .i64 v0_1)),(.lit (.int .i64 v0_2)),(.lit (.int .i64 v0_3))]),(.lit (.int .i64 v1))] = ob (g_lay_Park (v0_0,v0_1,v0_2,v0_3) v1) fun r => some ((.lit (.int .i64 r)),[]) := by
  rw [xC_eq]
  unfold g_lay_Park
  simp (maxSteps := 2000000) -implicitDefEqProofs only [xe30,xb30,xe70,xb70,xm70_0,xk70_0_ret,xe71,xb71,↓syP,syA,rtN,pureL,V.pure,nsh,stBk,V.kill,killL,spl,V.shift,shiftL,V.scal,scalL,intR,boolR,threeV,Nat.reduceAdd,Nat.reduceSub,Nat.reduceMul,Nat.reduceLT,Nat.reduceLeDiff,Nat.reduceEqDiff,Nat.reduceBEq,Nat.reduceBNe,Int.reduceBEq,Int.reduceBNe,Int.reduceLT,Int.reduceLE,Int.reduceAdd,Int.reduceSub,Int.reduceNeg,syQ,confV,frameV,listV,xF,xcallV,xcallC,xcallL,xcallY,xevY,xY_ready,xrange,xG_fn,xR,xA,xcl50,xclk50,xcl83,xclk83,awk14',awk15',h_lay_in,h_lay_May,h_lay_base]
  all_goals simp -implicitDefEqProofs only [List.map_nil]
def g_cell_is (v0 : (List Int)) (v1 : Int) : Option Bool :=
  bif decide ((0 : Int) ≤ v1) then
   some (decide (v1 < (↑v0.length : Int)))
  else
   some (false)
theorem h_cell_is (k : Nat) (v0 : (List Int)) (v1 : Int) : xC (k + 1) none 75 [(.ro (List.map (intR .u64) v0)),(.lit (.int .i64 v1))] = ob (g_cell_is v0 v1) fun r => some ((.lit (.bool r)),[]) := by
  rw [xC_eq]
  unfold g_cell_is
  simp (maxSteps := 2000000) -implicitDefEqProofs only [xe75,xb75,xm75_0,xk75_0_ret,↓syP,syA,rtN,pureL,V.pure,nsh,stBk,V.kill,killL,spl,V.shift,shiftL,V.scal,scalL,intR,boolR,threeV,Nat.reduceAdd,Nat.reduceSub,Nat.reduceMul,Nat.reduceLT,Nat.reduceLeDiff,Nat.reduceEqDiff,Nat.reduceBEq,Nat.reduceBNe,Int.reduceBEq,Int.reduceBNe,Int.reduceLT,Int.reduceLE,Int.reduceAdd,Int.reduceSub,Int.reduceNeg,syQ,confV,frameV,listV,xF,xcallV,xcallC,xcallL,xcallY,xevY,xY_ready,xrange,xG_fn,xR,xA,xcl50,xclk50,xcl83,xclk83,awk14',awk15']
  all_goals simp -implicitDefEqProofs only [List.map_nil]
def g_cell_Store (v0 : (List Int)) (v1 : Int) (v2 : Int) : Option (List Int) :=
  ob (g_clone (8 : Nat) v0) fun x47 =>
  ob (g_cell_is v0 v1) fun x48 =>
  bif !x48 then
   some (x47)
  else
   ob (idx v0 v1) fun x49 =>
   bif decide ((0 : Int) ≤ v1 ∧ v1.toNat < x47.length) then
    ob (x47[v1.toNat]?) fun x50 =>
    ob (idx v0 v1) fun x51 =>
    some (x47.set v1.toNat v2)
   else
    none
theorem h_cell_Store (k : Nat) (v0 : (List Int)) (v1 : Int) (v2 : Int) : xC (k + 11) none 32 [(.ro (List.map (intR .u64) v0)),(.lit (.int .i64 v1)),(.lit (.int .u64 v2))] = ob (g_cell_Store v0 v1 v2) fun r => some ((.ro (List.map (intR .u64) r)),[]) := by
  rw [xC_eq]
  unfold g_cell_Store
  simp (maxSteps := 2000000) -implicitDefEqProofs only [xe32,xb32,xe73,xb73,xe74,xb74,↓syP,syA,rtN,pureL,V.pure,nsh,stBk,V.kill,killL,spl,V.shift,shiftL,V.scal,scalL,intR,boolR,threeV,Nat.reduceAdd,Nat.reduceSub,Nat.reduceMul,Nat.reduceLT,Nat.reduceLeDiff,Nat.reduceEqDiff,Nat.reduceBEq,Nat.reduceBNe,Int.reduceBEq,Int.reduceBNe,Int.reduceLT,Int.reduceLE,Int.reduceAdd,Int.reduceSub,Int.reduceNeg,syQ,confV,frameV,listV,xF,xcallV,xcallC,xcallL,xcallY,xevY,xY_ready,xrange,xG_fn,xR,xA,xcl50,xclk50,xcl83,xclk83,awk14',awk15',h_cell_is]
  all_goals simp -implicitDefEqProofs only [List.map_nil]
def g_cell_Load (v0 : (List Int)) (v1 : Int) : Option Int :=
  ob (g_cell_is v0 v1) fun x59 =>
  bif !x59 then
   some ((0 : Int))
  else
   ob (idx v0 v1) fun x60 =>
   some (x60)
theorem h_cell_Load (k : Nat) (v0 : (List Int)) (v1 : Int) : xC (k + 2) none 34 [(.ro (List.map (intR .u64) v0)),(.lit (.int .i64 v1))] = ob (g_cell_Load v0 v1) fun r => some ((.lit (.int .u64 r)),[]) := by
  rw [xC_eq]
  unfold g_cell_Load
  simp (maxSteps := 2000000) -implicitDefEqProofs only [xe34,xb34,↓syP,syA,rtN,pureL,V.pure,nsh,stBk,V.kill,killL,spl,V.shift,shiftL,V.scal,scalL,intR,boolR,threeV,Nat.reduceAdd,Nat.reduceSub,Nat.reduceMul,Nat.reduceLT,Nat.reduceLeDiff,Nat.reduceEqDiff,Nat.reduceBEq,Nat.reduceBNe,Int.reduceBEq,Int.reduceBNe,Int.reduceLT,Int.reduceLE,Int.reduceAdd,Int.reduceSub,Int.reduceNeg,syQ,confV,frameV,listV,xF,xcallV,xcallC,xcallL,xcallY,xevY,xY_ready,xrange,xG_fn,xR,xA,xcl50,xclk50,xcl83,xclk83,awk14',awk15',h_cell_is]
  all_goals simp -implicitDefEqProofs only [List.map_nil]
def g_word_Set (v0 : Int) (v1 : Int) : Option Int :=
  bif decide (v1 < (0 : Int)) then
   some (v0)
  else
   bif decide ((16 : Int) ≤ v1) then
    some (v0)
   else
    bif decide ((0 : Int) ≤ v1) then
     some (orI IntKind.u64 v0 (shlI IntKind.u64 (1 : Int) v1))
    else
     none
theorem h_word_Set (k : Nat) (v0 : Int) (v1 : Int) : xC (k + 1) none 29 [(.lit (.int .u64 v0)),(.lit (.int .i64 v1))] = ob (g_word_Set v0 v1) fun r => some ((.lit (.int .u64 r)),[]) := by
  rw [xC_eq]
  unfold g_word_Set
  simp (maxSteps := 2000000) -implicitDefEqProofs only [xe29,xb29,xm29_0,xk29_0_ret,↓syP,syA,rtN,pureL,V.pure,nsh,stBk,V.kill,killL,spl,V.shift,shiftL,V.scal,scalL,intR,boolR,threeV,Nat.reduceAdd,Nat.reduceSub,Nat.reduceMul,Nat.reduceLT,Nat.reduceLeDiff,Nat.reduceEqDiff,Nat.reduceBEq,Nat.reduceBNe,Int.reduceBEq,Int.reduceBNe,Int.reduceLT,Int.reduceLE,Int.reduceAdd,Int.reduceSub,Int.reduceNeg,syQ,confV,frameV,listV,xF,xcallV,xcallC,xcallL,xcallY,xevY,xY_ready,xrange,xG_fn,xR,xA,xcl50,xclk50,xcl83,xclk83,awk14',awk15']
  all_goals simp -implicitDefEqProofs only [List.map_nil]
def g_word_Epoch (v0 : Int) : Option Int :=
  some (shrI IntKind.u64 v0 (16 : Int))
theorem h_word_Epoch (k : Nat) (v0 : Int) : xC (k + 1) none 33 [(.lit (.int .u64 v0))] = ob (g_word_Epoch v0) fun r => some ((.lit (.int .u64 r)),[]) := by
  rw [xC_eq]
  unfold g_word_Epoch
  simp (maxSteps := 2000000) -implicitDefEqProofs only [xe33,xb33,↓syP,syA,rtN,pureL,V.pure,nsh,stBk,V.kill,killL,spl,V.shift,shiftL,V.scal,scalL,intR,boolR,threeV,Nat.reduceAdd,Nat.reduceSub,Nat.reduceMul,Nat.reduceLT,Nat.reduceLeDiff,Nat.reduceEqDiff,Nat.reduceBEq,Nat.reduceBNe,Int.reduceBEq,Int.reduceBNe,Int.reduceLT,Int.reduceLE,Int.reduceAdd,Int.reduceSub,Int.reduceNeg,syQ,confV,frameV,listV,xF,xcallV,xcallC,xcallL,xcallY,xevY,xY_ready,xrange,xG_fn,xR,xA,xcl50,xclk50,xcl83,xclk83,awk14',awk15']
  all_goals simp -implicitDefEqProofs only [List.map_nil]
def g_word_Mask (v0 : Int) : Option Int :=
  some (andI IntKind.u64 v0 (65535 : Int))
theorem h_word_Mask (k : Nat) (v0 : Int) : xC (k + 1) none 40 [(.lit (.int .u64 v0))] = ob (g_word_Mask v0) fun r => some ((.lit (.int .u64 r)),[]) := by
  rw [xC_eq]
  unfold g_word_Mask
  simp (maxSteps := 2000000) -implicitDefEqProofs only [xe40,xb40,↓syP,syA,rtN,pureL,V.pure,nsh,stBk,V.kill,killL,spl,V.shift,shiftL,V.scal,scalL,intR,boolR,threeV,Nat.reduceAdd,Nat.reduceSub,Nat.reduceMul,Nat.reduceLT,Nat.reduceLeDiff,Nat.reduceEqDiff,Nat.reduceBEq,Nat.reduceBNe,Int.reduceBEq,Int.reduceBNe,Int.reduceLT,Int.reduceLE,Int.reduceAdd,Int.reduceSub,Int.reduceNeg,syQ,confV,frameV,listV,xF,xcallV,xcallC,xcallL,xcallY,xevY,xY_ready,xrange,xG_fn,xR,xA,xcl50,xclk50,xcl83,xclk83,awk14',awk15']
  all_goals simp -implicitDefEqProofs only [List.map_nil]
def g_frame_Begin (v0 : Int) (v1 : Int) (v2 : Int) : Option (Int × Int × Int × Int × Int × Int × Int) :=
  some ((v0),((0 : Int)),(v1),(v2),((0 : Int)),((0 : Int)),((0 : Int)))
theorem h_frame_Begin (k : Nat) (v0 : Int) (v1 : Int) (v2 : Int) : xC (k + 1) none 31 [(.lit (.int .i64 v0)),(.lit (.int .i64 v1)),(.lit (.int .u64 v2))] = ob (g_frame_Begin v0 v1 v2) fun r => some ((.agg [(.lit (.int .i64 r.1)),(.lit (.int .i64 r.2.1)),(.lit (.int .i64 r.2.2.1)),(.lit (.int .u64 r.2.2.2.1)),(.lit (.int .u64 r.2.2.2.2.1)),(.lit (.int .u64 r.2.2.2.2.2.1)),(.lit (.int .i64 r.2.2.2.2.2.2))]),[]) := by
  rw [xC_eq]
  unfold g_frame_Begin
  simp (maxSteps := 2000000) -implicitDefEqProofs only [xe31,xb31,↓syP,syA,rtN,pureL,V.pure,nsh,stBk,V.kill,killL,spl,V.shift,shiftL,V.scal,scalL,intR,boolR,threeV,Nat.reduceAdd,Nat.reduceSub,Nat.reduceMul,Nat.reduceLT,Nat.reduceLeDiff,Nat.reduceEqDiff,Nat.reduceBEq,Nat.reduceBNe,Int.reduceBEq,Int.reduceBNe,Int.reduceLT,Int.reduceLE,Int.reduceAdd,Int.reduceSub,Int.reduceNeg,syQ,confV,frameV,listV,xF,xcallV,xcallC,xcallL,xcallY,xevY,xY_ready,xrange,xG_fn,xR,xA,xcl50,xclk50,xcl83,xclk83,awk14',awk15']
  all_goals simp -implicitDefEqProofs only [List.map_nil]
def g_wait_Waits (v0 : (Int × Int × Int × Int)) (v1 : (List Int)) (v2 : Int) : Option Bool :=
  ob (g_lay_May (v0.1,v0.2.1,v0.2.2.1,v0.2.2.2)) fun x81 =>
  bif !x81 then
   some (false)
  else
   ob (g_lay_Size (v0.1,v0.2.1,v0.2.2.1,v0.2.2.2)) fun x82 =>
   bif (↑v1.length : Int) != x82 then
    some (false)
   else
    bif decide (v2 < (0 : Int)) then
     some (false)
    else
     bif decide (v0.1 ≤ v2) then
      some (false)
     else
      ob (g_cell_Load v1 (2 : Int)) fun x83 =>
      ob (g_word_Mask x83) fun x84 =>
      bif decide ((0 : Int) ≤ v2) then
       some (andI IntKind.u64 (shrI IntKind.u64 x84 v2) (1 : Int) == (1 : Int))
      else
       none
theorem h_wait_Waits (k : Nat) (v0_0 : Int) (v0_1 : Int) (v0_2 : Int) (v0_3 : Int) (v1 : (List Int)) (v2 : Int) : xC (k + 4) none 27 [(.agg [(.lit (.int .i64 v0_0)),(.lit (.int .i64 v0_1)),(.lit (.int .i64 v0_2)),(.lit (.int .i64 v0_3))]),(.ro (List.map (intR .u64) v1)),(.lit (.int .i64 v2))] = ob (g_wait_Waits (v0_0,v0_1,v0_2,v0_3) v1 v2) fun r => some ((.lit (.bool r)),[]) := by
  rw [xC_eq]
  unfold g_wait_Waits
  simp (maxSteps := 2000000) -implicitDefEqProofs only [xe27,xb27,xm27_0,xm27_1,xm27_2,xk27_0_ret,↓syP,syA,rtN,pureL,V.pure,nsh,stBk,V.kill,killL,spl,V.shift,shiftL,V.scal,scalL,intR,boolR,threeV,Nat.reduceAdd,Nat.reduceSub,Nat.reduceMul,Nat.reduceLT,Nat.reduceLeDiff,Nat.reduceEqDiff,Nat.reduceBEq,Nat.reduceBNe,Int.reduceBEq,Int.reduceBNe,Int.reduceLT,Int.reduceLE,Int.reduceAdd,Int.reduceSub,Int.reduceNeg,syQ,confV,frameV,listV,xF,xcallV,xcallC,xcallL,xcallY,xevY,xY_ready,xrange,xG_fn,xR,xA,xcl50,xclk50,xcl83,xclk83,awk14',awk15',h_lay_May,h_lay_Size,h_cell_Load,h_word_Mask]
  all_goals simp -implicitDefEqProofs only [List.map_nil]
def g_frame_End (v0 : (Int × Int × Int × Int × Int × Int × Int)) (v1 : Int) (v2 : Int) : Option (Int × Int × Int × Int × Int × Int × Int) :=
  some ((v0.1),((0 : Int)),(v0.2.2.1),(v2),((0 : Int)),((0 : Int)),(v1))
theorem h_frame_End (k : Nat) (v0_0 : Int) (v0_1 : Int) (v0_2 : Int) (v0_3 : Int) (v0_4 : Int) (v0_5 : Int) (v0_6 : Int) (v1 : Int) (v2 : Int) : xC (k + 1) none 79 [(.agg [(.lit (.int .i64 v0_0)),(.lit (.int .i64 v0_1)),(.lit (.int .i64 v0_2)),(.lit (.int .u64 v0_3)),(.lit (.int .u64 v0_4)),(.lit (.int .u64 v0_5)),(.lit (.int .i64 v0_6))]),(.lit (.int .i64 v1)),(.lit (.int .u64 v2))] = ob (g_frame_End (v0_0,v0_1,v0_2,v0_3,v0_4,v0_5,v0_6) v1 v2) fun r => some ((.agg [(.lit (.int .i64 r.1)),(.lit (.int .i64 r.2.1)),(.lit (.int .i64 r.2.2.1)),(.lit (.int .u64 r.2.2.2.1)),(.lit (.int .u64 r.2.2.2.2.1)),(.lit (.int .u64 r.2.2.2.2.2.1)),(.lit (.int .i64 r.2.2.2.2.2.2))]),[]) := by
  rw [xC_eq]
  unfold g_frame_End
  simp (maxSteps := 2000000) -implicitDefEqProofs only [xe79,xb79,↓syP,syA,rtN,pureL,V.pure,nsh,stBk,V.kill,killL,spl,V.shift,shiftL,V.scal,scalL,intR,boolR,threeV,Nat.reduceAdd,Nat.reduceSub,Nat.reduceMul,Nat.reduceLT,Nat.reduceLeDiff,Nat.reduceEqDiff,Nat.reduceBEq,Nat.reduceBNe,Int.reduceBEq,Int.reduceBNe,Int.reduceLT,Int.reduceLE,Int.reduceAdd,Int.reduceSub,Int.reduceNeg,syQ,confV,frameV,listV,xF,xcallV,xcallC,xcallL,xcallY,xevY,xY_ready,xrange,xG_fn,xR,xA,xcl50,xclk50,xcl83,xclk83,awk14',awk15']
  all_goals simp -implicitDefEqProofs only [List.map_nil]
def g_cell_Cas (v0 : (List Int)) (v1 : Int) (v2 : Int) (v3 : Int) : Option ((List Int) × Bool) :=
  ob (g_clone (8 : Nat) v0) fun x107 =>
  ob (g_cell_is v0 v1) fun x108 =>
  bif !x108 then
   some ((x107),(false))
  else
   ob (idx v0 v1) fun x109 =>
   bif x109 != v2 then
    bif decide ((0 : Int) ≤ v1 ∧ v1.toNat < x107.length) then
     ob (x107[v1.toNat]?) fun x110 =>
     ob (idx v0 v1) fun x111 =>
     some ((x107.set v1.toNat x109),(false))
    else
     none
   else
    bif decide ((0 : Int) ≤ v1 ∧ v1.toNat < x107.length) then
     ob (x107[v1.toNat]?) fun x112 =>
     ob (idx v0 v1) fun x113 =>
     some ((x107.set v1.toNat v3),(true))
    else
     none
theorem h_cell_Cas (k : Nat) (v0 : (List Int)) (v1 : Int) (v2 : Int) (v3 : Int) : xC (k + 11) none 78 [(.ro (List.map (intR .u64) v0)),(.lit (.int .i64 v1)),(.lit (.int .u64 v2)),(.lit (.int .u64 v3))] = ob (g_cell_Cas v0 v1 v2 v3) fun r => some ((.tup [(.ro (List.map (intR .u64) r.1)),(.lit (.bool r.2))]),[]) := by
  rw [xC_eq]
  unfold g_cell_Cas
  simp (maxSteps := 2000000) -implicitDefEqProofs only [xe73,xb73,xe78,xb78,xe97,xb97,↓syP,syA,rtN,pureL,V.pure,nsh,stBk,V.kill,killL,spl,V.shift,shiftL,V.scal,scalL,intR,boolR,threeV,Nat.reduceAdd,Nat.reduceSub,Nat.reduceMul,Nat.reduceLT,Nat.reduceLeDiff,Nat.reduceEqDiff,Nat.reduceBEq,Nat.reduceBNe,Int.reduceBEq,Int.reduceBNe,Int.reduceLT,Int.reduceLE,Int.reduceAdd,Int.reduceSub,Int.reduceNeg,syQ,confV,frameV,listV,xF,xcallV,xcallC,xcallL,xcallY,xevY,xY_ready,xrange,xG_fn,xR,xA,xcl50,xclk50,xcl83,xclk83,awk14',awk15',h_cell_is]
  all_goals simp -implicitDefEqProofs only [List.map_nil]
def g_wait_Step (v0 : (Int × Int × Int × Int)) (v1 : (List Int)) (v2 : (Int × Int × Int × Int × Int × Int × Int)) : Option ((List Int) × (Int × Int × Int × Int × Int × Int × Int)) :=
  ob (g_clone (8 : Nat) v1) fun x135 =>
  ob (g_push_Goes (v0.1,v0.2.1,v0.2.2.1,v0.2.2.2) v1 (v2.1,v2.2.1,v2.2.2.1,v2.2.2.2.1,v2.2.2.2.2.1,v2.2.2.2.2.2.1,v2.2.2.2.2.2.2) (5 : Int) (5 : Int)) fun x136 =>
  bif x136 then
   bif decide ((0 : Int) ≤ v2.2.1 ∧ v2.2.1.toNat < (5 : Nat)) then
    bif v2.2.1.toNat == (0 : Nat) then
     ob (g_cell_Load x135 (2 : Int)) fun x137 =>
     some ((x135),((v2.1),((1 : Int)),(v2.2.2.1),(v2.2.2.2.1),(x137),(v2.2.2.2.2.2.1),(v2.2.2.2.2.2.2)))
    else
     bif v2.2.1.toNat == (1 : Nat) then
      ob (g_cell_Load x135 (2 : Int)) fun x138 =>
      ob (g_word_Epoch x138) fun x139 =>
      ob (g_word_Epoch v2.2.2.2.2.1) fun x140 =>
      bif x139 != x140 then
       ob (g_frame_End (v2.1,(2 : Int),v2.2.2.1,v2.2.2.2.1,v2.2.2.2.2.1,x138,v2.2.2.2.2.2.2) (4 : Int) (0 : Int)) fun x141 =>
       some ((x135),((x141.fst),(x141.snd.fst),(x141.snd.snd.fst),(x141.snd.snd.snd.fst),(x141.snd.snd.snd.snd.fst),(x141.snd.snd.snd.snd.snd.fst),(x141.snd.snd.snd.snd.snd.snd)))
      else
       some ((x135),((v2.1),((2 : Int)),(v2.2.2.1),(v2.2.2.2.1),(v2.2.2.2.2.1),(x138),(v2.2.2.2.2.2.2)))
     else
      bif v2.2.1.toNat == (2 : Nat) then
       ob (g_word_Set v2.2.2.2.2.2.1 v2.2.2.1) fun x142 =>
       ob (g_cell_Cas x135 (2 : Int) v2.2.2.2.2.2.1 x142) fun x143 =>
       bif x143.snd then
        some ((x143.fst),((v2.1),((3 : Int)),(v2.2.2.1),(v2.2.2.2.1),(v2.2.2.2.2.1),(v2.2.2.2.2.2.1),(v2.2.2.2.2.2.2)))
       else
        some ((x143.fst),((v2.1),((1 : Int)),(v2.2.2.1),(v2.2.2.2.1),(v2.2.2.2.2.1),(v2.2.2.2.2.2.1),(v2.2.2.2.2.2.2)))
      else
       bif v2.2.1.toNat == (3 : Nat) then
        ob (g_lay_Park (v0.1,v0.2.1,v0.2.2.1,v0.2.2.2) v2.2.2.1) fun x144 =>
        ob (g_cell_Load x135 x144) fun x145 =>
        bif x145 != (0 : Int) then
         some ((x135),((v2.1),((4 : Int)),(v2.2.2.1),(v2.2.2.2.1),(v2.2.2.2.2.1),(x145),(v2.2.2.2.2.2.2)))
        else
         some ((x135),((v2.1),(v2.2.1),(v2.2.2.1),(v2.2.2.2.1),(v2.2.2.2.2.1),(x145),(v2.2.2.2.2.2.2)))
       else
        bif v2.2.1.toNat == (4 : Nat) then
         ob (g_lay_Park (v0.1,v0.2.1,v0.2.2.1,v0.2.2.2) v2.2.2.1) fun x146 =>
         ob (g_cell_Store x135 x146 (0 : Int)) fun x147 =>
         ob (g_frame_End (v2.1,v2.2.1,v2.2.2.1,v2.2.2.2.1,v2.2.2.2.2.1,v2.2.2.2.2.2.1,v2.2.2.2.2.2.2) (1 : Int) (0 : Int)) fun x148 =>
         some ((x147),((x148.fst),(x148.snd.fst),(x148.snd.snd.fst),(x148.snd.snd.snd.fst),(x148.snd.snd.snd.snd.fst),(x148.snd.snd.snd.snd.snd.fst),(x148.snd.snd.snd.snd.snd.snd)))
        else
         none
   else
    none
  else
   some ((x135),((v2.1),(v2.2.1),(v2.2.2.1),(v2.2.2.2.1),(v2.2.2.2.2.1),(v2.2.2.2.2.2.1),(v2.2.2.2.2.2.2)))
theorem h_wait_Step (k : Nat) (v0_0 : Int) (v0_1 : Int) (v0_2 : Int) (v0_3 : Int) (v1 : (List Int)) (v2_0 : Int) (v2_1 : Int) (v2_2 : Int) (v2_3 : Int) (v2_4 : Int) (v2_5 : Int) (v2_6 : Int) : xC (k + 14) none 21 [(.agg [(.lit (.int .i64 v0_0)),(.lit (.int .i64 v0_1)),(.lit (.int .i64 v0_2)),(.lit (.int .i64 v0_3))]),(.ro (List.map (intR .u64) v1)),(.agg [(.lit (.int .i64 v2_0)),(.lit (.int .i64 v2_1)),(.lit (.int .i64 v2_2)),(.lit (.int .u64 v2_3)),(.lit (.int .u64 v2_4)),(.lit (.int .u64 v2_5)),(.lit (.int .i64 v2_6))])] = ob (g_wait_Step (v0_0,v0_1,v0_2,v0_3) v1 (v2_0,v2_1,v2_2,v2_3,v2_4,v2_5,v2_6)) fun r => some ((.tup [(.ro (List.map (intR .u64) r.1)),(.agg [(.lit (.int .i64 r.2.1)),(.lit (.int .i64 r.2.2.1)),(.lit (.int .i64 r.2.2.2.1)),(.lit (.int .u64 r.2.2.2.2.1)),(.lit (.int .u64 r.2.2.2.2.2.1)),(.lit (.int .u64 r.2.2.2.2.2.2.1)),(.lit (.int .i64 r.2.2.2.2.2.2.2))])]),[]) := by
  rw [xC_eq]
  unfold g_wait_Step
  simp (maxSteps := 2000000) -implicitDefEqProofs only [xe21,xb21,xj21_0,xk21_0_ret,xe51,xb51,xe52,xb52,xe53,xb53,xe54,xb54,xe55,xb55,↓syP,syA,rtN,pureL,V.pure,nsh,stBk,V.kill,killL,spl,V.shift,shiftL,V.scal,scalL,intR,boolR,threeV,Nat.reduceAdd,Nat.reduceSub,Nat.reduceMul,Nat.reduceLT,Nat.reduceLeDiff,Nat.reduceEqDiff,Nat.reduceBEq,Nat.reduceBNe,Int.reduceBEq,Int.reduceBNe,Int.reduceLT,Int.reduceLE,Int.reduceAdd,Int.reduceSub,Int.reduceNeg,syQ,confV,frameV,listV,xF,xcallV,xcallC,xcallL,xcallY,xevY,xY_ready,xrange,xG_fn,xR,xA,xcl50,xclk50,xcl83,xclk83,awk14',awk15',h_push_Goes,h_lay_Park,h_cell_Store,h_cell_Load,h_word_Set,h_word_Epoch,h_frame_End,h_cell_Cas]
  all_goals simp -implicitDefEqProofs only [List.map_nil]
end Go.Ab
