/- Functions as they are walked: printed by Walk.lean. -/
import Derived.Test.YtcahlnoianbndaaR4GF
import Derived.Test.YtcahlnoianbndaaR4B1
import Derived.Test.YtcahlnoianbndaaR4B2
set_option linter.unusedVariables false
set_option linter.unusedSimpArgs false
set_option maxRecDepth 100000
set_option linter.unusedVariables false
set_option linter.unusedSimpArgs false
namespace Go.Ab
open Go.Proofs
def g_lay_in (v0 : Int) (v1 : Int) (v2 : Int) : Option Bool :=
  bif decide (v1 ≤ v0) then
   some (decide (v0 ≤ v2))
  else
   some (false)
theorem h_lay_in (k : Nat) (v0 : Int) (v1 : Int) (v2 : Int) : xC (k + 1) none 40 [(.lit (.int .i64 v0)),(.lit (.int .i64 v1)),(.lit (.int .i64 v2))] = ob (g_lay_in v0 v1 v2) fun r => some ((.lit (.bool r)),[]) := by
  rw [xC_eq]
  unfold g_lay_in
  simp (maxSteps := 2000000) -implicitDefEqProofs only [xe40,xb40,xm40_0,xk40_0_ret,↓syP,syA,rtN,pureL,V.pure,nsh,stBk,V.kill,killL,spl,V.shift,shiftL,V.scal,scalL,intR,boolR,threeV,Nat.reduceAdd,Nat.reduceSub,Nat.reduceMul,Nat.reduceLT,Nat.reduceLeDiff,Nat.reduceEqDiff,Nat.reduceBEq,Nat.reduceBNe,Int.reduceBEq,Int.reduceBNe,Int.reduceLT,Int.reduceLE,Int.reduceAdd,Int.reduceSub,Int.reduceNeg,syQ,confV,frameV,listV,subV,arC_nil,arC_cons,xF,xcallV,xcallC,xcallL,xcallY,xevY,xY_ready,xrange,xG_fn,xR,xA,xcl21,xclk21,xcl22,xclk22]
  all_goals simp -implicitDefEqProofs only [List.map_nil]
def g_lay_May (v0 : (Int × Int × Int × Int)) : Option Bool :=
  ob (g_lay_in v0.1 (1 : Int) (8 : Int)) fun x5 =>
  bif x5 then
   ob (g_lay_in v0.2.1 (1 : Int) (16 : Int)) fun x6 =>
   bif x6 then
    bif andI IntKind.i64 v0.2.1 (IntKind.i64.wrap (v0.2.1 - (1 : Int))) == (0 : Int) then
     ob (g_lay_in v0.2.2.1 (1 : Int) (16 : Int)) fun x7 =>
     bif x7 then
      ob (g_lay_in v0.2.2.2 (0 : Int) (4 : Int)) fun x8 =>
      some (x8)
     else
      some (false)
    else
     some (false)
   else
    some (false)
  else
   some (false)
theorem h_lay_May (k : Nat) (v0_0 : Int) (v0_1 : Int) (v0_2 : Int) (v0_3 : Int) : xC (k + 2) none 14 [(.agg [(.lit (.int .i64 v0_0)),(.lit (.int .i64 v0_1)),(.lit (.int .i64 v0_2)),(.lit (.int .i64 v0_3))])] = ob (g_lay_May (v0_0,v0_1,v0_2,v0_3)) fun r => some ((.lit (.bool r)),[]) := by
  rw [xC_eq]
  unfold g_lay_May
  simp (maxSteps := 2000000) -implicitDefEqProofs only [xe14,xb14,xm14_0,xm14_1,xm14_2,xm14_3,xk14_0_ret,↓syP,syA,rtN,pureL,V.pure,nsh,stBk,V.kill,killL,spl,V.shift,shiftL,V.scal,scalL,intR,boolR,threeV,Nat.reduceAdd,Nat.reduceSub,Nat.reduceMul,Nat.reduceLT,Nat.reduceLeDiff,Nat.reduceEqDiff,Nat.reduceBEq,Nat.reduceBNe,Int.reduceBEq,Int.reduceBNe,Int.reduceLT,Int.reduceLE,Int.reduceAdd,Int.reduceSub,Int.reduceNeg,syQ,confV,frameV,listV,subV,arC_nil,arC_cons,xF,xcallV,xcallC,xcallL,xcallY,xevY,xY_ready,xrange,xG_fn,xR,xA,xcl21,xclk21,xcl22,xclk22,h_lay_in]
  all_goals simp -implicitDefEqProofs only [List.map_nil]
def g_lay_base (v0 : (Int × Int × Int × Int)) (v1 : Int) : Option Int :=
  some (IntKind.i64.wrap (IntKind.i64.wrap ((6 : Int) + IntKind.i64.wrap ((2 : Int) * v0.2.2.1)) + IntKind.i64.wrap (v1 * IntKind.i64.wrap ((3 : Int) + v0.2.1))))
theorem h_lay_base (k : Nat) (v0_0 : Int) (v0_1 : Int) (v0_2 : Int) (v0_3 : Int) (v1 : Int) : xC (k + 1) none 49 [(.agg [(.lit (.int .i64 v0_0)),(.lit (.int .i64 v0_1)),(.lit (.int .i64 v0_2)),(.lit (.int .i64 v0_3))]),(.lit (.int .i64 v1))] = ob (g_lay_base (v0_0,v0_1,v0_2,v0_3) v1) fun r => some ((.lit (.int .i64 r)),[]) := by
  rw [xC_eq]
  unfold g_lay_base
  simp (maxSteps := 2000000) -implicitDefEqProofs only [xe49,xb49,↓syP,syA,rtN,pureL,V.pure,nsh,stBk,V.kill,killL,spl,V.shift,shiftL,V.scal,scalL,intR,boolR,threeV,Nat.reduceAdd,Nat.reduceSub,Nat.reduceMul,Nat.reduceLT,Nat.reduceLeDiff,Nat.reduceEqDiff,Nat.reduceBEq,Nat.reduceBNe,Int.reduceBEq,Int.reduceBNe,Int.reduceLT,Int.reduceLE,Int.reduceAdd,Int.reduceSub,Int.reduceNeg,syQ,confV,frameV,listV,subV,arC_nil,arC_cons,xF,xcallV,xcallC,xcallL,xcallY,xevY,xY_ready,xrange,xG_fn,xR,xA,xcl21,xclk21,xcl22,xclk22]
  all_goals simp -implicitDefEqProofs only [List.map_nil]
def g_lay_Size (v0 : (Int × Int × Int × Int)) : Option Int :=
  ob (g_lay_May (v0.1,v0.2.1,v0.2.2.1,v0.2.2.2)) fun x16 =>
  bif !x16 then
   some ((0 : Int))
  else
   ob (g_lay_base (v0.1,v0.2.1,v0.2.2.1,v0.2.2.2) v0.1) fun x17 =>
   some (x17)
theorem h_lay_Size (k : Nat) (v0_0 : Int) (v0_1 : Int) (v0_2 : Int) (v0_3 : Int) : xC (k + 3) none 37 [(.agg [(.lit (.int .i64 v0_0)),(.lit (.int .i64 v0_1)),(.lit (.int .i64 v0_2)),(.lit (.int .i64 v0_3))])] = ob (g_lay_Size (v0_0,v0_1,v0_2,v0_3)) fun r => some ((.lit (.int .i64 r)),[]) := by
  rw [xC_eq]
  unfold g_lay_Size
  simp (maxSteps := 2000000) -implicitDefEqProofs only [xe37,xb37,↓syP,syA,rtN,pureL,V.pure,nsh,stBk,V.kill,killL,spl,V.shift,shiftL,V.scal,scalL,intR,boolR,threeV,Nat.reduceAdd,Nat.reduceSub,Nat.reduceMul,Nat.reduceLT,Nat.reduceLeDiff,Nat.reduceEqDiff,Nat.reduceBEq,Nat.reduceBNe,Int.reduceBEq,Int.reduceBNe,Int.reduceLT,Int.reduceLE,Int.reduceAdd,Int.reduceSub,Int.reduceNeg,syQ,confV,frameV,listV,subV,arC_nil,arC_cons,xF,xcallV,xcallC,xcallL,xcallY,xevY,xY_ready,xrange,xG_fn,xR,xA,xcl21,xclk21,xcl22,xclk22,h_lay_May,h_lay_base]
  all_goals simp -implicitDefEqProofs only [List.map_nil]
def g_cell_is (v0 : (List Int)) (v1 : Int) : Option Bool :=
  bif decide ((0 : Int) ≤ v1) then
   some (decide (v1 < (↑v0.length : Int)))
  else
   some (false)
theorem h_cell_is (k : Nat) (v0 : (List Int)) (v1 : Int) : xC (k + 1) none 41 [(.ro (List.map (intR .u64) v0)),(.lit (.int .i64 v1))] = ob (g_cell_is v0 v1) fun r => some ((.lit (.bool r)),[]) := by
  rw [xC_eq]
  unfold g_cell_is
  simp (maxSteps := 2000000) -implicitDefEqProofs only [xe41,xb41,xm41_0,xk41_0_ret,↓syP,syA,rtN,pureL,V.pure,nsh,stBk,V.kill,killL,spl,V.shift,shiftL,V.scal,scalL,intR,boolR,threeV,Nat.reduceAdd,Nat.reduceSub,Nat.reduceMul,Nat.reduceLT,Nat.reduceLeDiff,Nat.reduceEqDiff,Nat.reduceBEq,Nat.reduceBNe,Int.reduceBEq,Int.reduceBNe,Int.reduceLT,Int.reduceLE,Int.reduceAdd,Int.reduceSub,Int.reduceNeg,syQ,confV,frameV,listV,subV,arC_nil,arC_cons,xF,xcallV,xcallC,xcallL,xcallY,xevY,xY_ready,xrange,xG_fn,xR,xA,xcl21,xclk21,xcl22,xclk22]
  all_goals simp -implicitDefEqProofs only [List.map_nil]
def g_cell_Load (v0 : (List Int)) (v1 : Int) : Option Int :=
  ob (g_cell_is v0 v1) fun x22 =>
  bif !x22 then
   some ((0 : Int))
  else
   ob (idx v0 v1) fun x23 =>
   some (x23)
theorem h_cell_Load (k : Nat) (v0 : (List Int)) (v1 : Int) : xC (k + 2) none 17 [(.ro (List.map (intR .u64) v0)),(.lit (.int .i64 v1))] = ob (g_cell_Load v0 v1) fun r => some ((.lit (.int .u64 r)),[]) := by
  rw [xC_eq]
  unfold g_cell_Load
  simp (maxSteps := 2000000) -implicitDefEqProofs only [xe17,xb17,↓syP,syA,rtN,pureL,V.pure,nsh,stBk,V.kill,killL,spl,V.shift,shiftL,V.scal,scalL,intR,boolR,threeV,Nat.reduceAdd,Nat.reduceSub,Nat.reduceMul,Nat.reduceLT,Nat.reduceLeDiff,Nat.reduceEqDiff,Nat.reduceBEq,Nat.reduceBNe,Int.reduceBEq,Int.reduceBNe,Int.reduceLT,Int.reduceLE,Int.reduceAdd,Int.reduceSub,Int.reduceNeg,syQ,confV,frameV,listV,subV,arC_nil,arC_cons,xF,xcallV,xcallC,xcallL,xcallY,xevY,xY_ready,xrange,xG_fn,xR,xA,xcl21,xclk21,xcl22,xclk22,h_cell_is]
  all_goals simp -implicitDefEqProofs only [List.map_nil]
def g_cell_Store (v0 : (List Int)) (v1 : Int) (v2 : Int) : Option (List Int) :=
  ob (g_clone (8 : Nat) v0) fun x31 =>
  ob (g_cell_is v0 v1) fun x32 =>
  bif !x32 then
   some (x31)
  else
   ob (idx v0 v1) fun x33 =>
   bif decide ((0 : Int) ≤ v1 ∧ v1.toNat < x31.length) then
    ob (x31[v1.toNat]?) fun x34 =>
    ob (idx v0 v1) fun x35 =>
    some (x31.set v1.toNat v2)
   else
    none
theorem h_cell_Store (k : Nat) (v0 : (List Int)) (v1 : Int) (v2 : Int) : xC (k + 11) none 18 [(.ro (List.map (intR .u64) v0)),(.lit (.int .i64 v1)),(.lit (.int .u64 v2))] = ob (g_cell_Store v0 v1 v2) fun r => some ((.ro (List.map (intR .u64) r)),[]) := by
  rw [xC_eq]
  unfold g_cell_Store
  simp (maxSteps := 2000000) -implicitDefEqProofs only [xe18,xb18,xe42,xb42,xe43,xb43,↓syP,syA,rtN,pureL,V.pure,nsh,stBk,V.kill,killL,spl,V.shift,shiftL,V.scal,scalL,intR,boolR,threeV,Nat.reduceAdd,Nat.reduceSub,Nat.reduceMul,Nat.reduceLT,Nat.reduceLeDiff,Nat.reduceEqDiff,Nat.reduceBEq,Nat.reduceBNe,Int.reduceBEq,Int.reduceBNe,Int.reduceLT,Int.reduceLE,Int.reduceAdd,Int.reduceSub,Int.reduceNeg,syQ,confV,frameV,listV,subV,arC_nil,arC_cons,xF,xcallV,xcallC,xcallL,xcallY,xevY,xY_ready,xrange,xG_fn,xR,xA,xcl21,xclk21,xcl22,xclk22,h_cell_is]
  all_goals simp -implicitDefEqProofs only [List.map_nil]
def g_frame_Over (v0 : (Int × Int × Int × Int × Int × Int × Int)) : Option Bool :=
  some (v0.2.2.2.2.2.2 != (0 : Int))
theorem h_frame_Over (k : Nat) (v0_0 : Int) (v0_1 : Int) (v0_2 : Int) (v0_3 : Int) (v0_4 : Int) (v0_5 : Int) (v0_6 : Int) : xC (k + 1) none 28 [(.agg [(.lit (.int .i64 v0_0)),(.lit (.int .i64 v0_1)),(.lit (.int .i64 v0_2)),(.lit (.int .u64 v0_3)),(.lit (.int .u64 v0_4)),(.lit (.int .u64 v0_5)),(.lit (.int .i64 v0_6))])] = ob (g_frame_Over (v0_0,v0_1,v0_2,v0_3,v0_4,v0_5,v0_6)) fun r => some ((.lit (.bool r)),[]) := by
  rw [xC_eq]
  unfold g_frame_Over
  simp (maxSteps := 2000000) -implicitDefEqProofs only [xe28,xb28,↓syP,syA,rtN,pureL,V.pure,nsh,stBk,V.kill,killL,spl,V.shift,shiftL,V.scal,scalL,intR,boolR,threeV,Nat.reduceAdd,Nat.reduceSub,Nat.reduceMul,Nat.reduceLT,Nat.reduceLeDiff,Nat.reduceEqDiff,Nat.reduceBEq,Nat.reduceBNe,Int.reduceBEq,Int.reduceBNe,Int.reduceLT,Int.reduceLE,Int.reduceAdd,Int.reduceSub,Int.reduceNeg,syQ,confV,frameV,listV,subV,arC_nil,arC_cons,xF,xcallV,xcallC,xcallL,xcallY,xevY,xY_ready,xrange,xG_fn,xR,xA,xcl21,xclk21,xcl22,xclk22]
  all_goals simp -implicitDefEqProofs only [List.map_nil]
def g_cell_Add (v0 : (List Int)) (v1 : Int) (v2 : Int) : Option ((List Int) × Int) :=
  ob (g_clone (8 : Nat) v0) fun x46 =>
  ob (g_cell_is v0 v1) fun x47 =>
  bif !x47 then
   some ((x46),((0 : Int)))
  else
   ob (idx v0 v1) fun x48 =>
   bif decide ((0 : Int) ≤ v1 ∧ v1.toNat < x46.length) then
    ob (x46[v1.toNat]?) fun x49 =>
    ob (idx v0 v1) fun x50 =>
    some ((x46.set v1.toNat (IntKind.u64.wrap (x48 + v2))),(x50))
   else
    none
theorem h_cell_Add (k : Nat) (v0 : (List Int)) (v1 : Int) (v2 : Int) : xC (k + 11) none 31 [(.ro (List.map (intR .u64) v0)),(.lit (.int .i64 v1)),(.lit (.int .u64 v2))] = ob (g_cell_Add v0 v1 v2) fun r => some ((.tup [(.ro (List.map (intR .u64) r.1)),(.lit (.int .u64 r.2))]),[]) := by
  rw [xC_eq]
  unfold g_cell_Add
  simp (maxSteps := 2000000) -implicitDefEqProofs only [xe31,xb31,xe42,xb42,xe48,xb48,↓syP,syA,rtN,pureL,V.pure,nsh,stBk,V.kill,killL,spl,V.shift,shiftL,V.scal,scalL,intR,boolR,threeV,Nat.reduceAdd,Nat.reduceSub,Nat.reduceMul,Nat.reduceLT,Nat.reduceLeDiff,Nat.reduceEqDiff,Nat.reduceBEq,Nat.reduceBNe,Int.reduceBEq,Int.reduceBNe,Int.reduceLT,Int.reduceLE,Int.reduceAdd,Int.reduceSub,Int.reduceNeg,syQ,confV,frameV,listV,subV,arC_nil,arC_cons,xF,xcallV,xcallC,xcallL,xcallY,xevY,xY_ready,xrange,xG_fn,xR,xA,xcl21,xclk21,xcl22,xclk22,h_cell_is]
  all_goals simp -implicitDefEqProofs only [List.map_nil]
def g_frame_Begin (v0 : Int) (v1 : Int) (v2 : Int) : Option (Int × Int × Int × Int × Int × Int × Int) :=
  some ((v0),((0 : Int)),(v1),(v2),((0 : Int)),((0 : Int)),((0 : Int)))
theorem h_frame_Begin (k : Nat) (v0 : Int) (v1 : Int) (v2 : Int) : xC (k + 1) none 32 [(.lit (.int .i64 v0)),(.lit (.int .i64 v1)),(.lit (.int .u64 v2))] = ob (g_frame_Begin v0 v1 v2) fun r => some ((.agg [(.lit (.int .i64 r.1)),(.lit (.int .i64 r.2.1)),(.lit (.int .i64 r.2.2.1)),(.lit (.int .u64 r.2.2.2.1)),(.lit (.int .u64 r.2.2.2.2.1)),(.lit (.int .u64 r.2.2.2.2.2.1)),(.lit (.int .i64 r.2.2.2.2.2.2))]),[]) := by
  rw [xC_eq]
  unfold g_frame_Begin
  simp (maxSteps := 2000000) -implicitDefEqProofs only [xe32,xb32,↓syP,syA,rtN,pureL,V.pure,nsh,stBk,V.kill,killL,spl,V.shift,shiftL,V.scal,scalL,intR,boolR,threeV,Nat.reduceAdd,Nat.reduceSub,Nat.reduceMul,Nat.reduceLT,Nat.reduceLeDiff,Nat.reduceEqDiff,Nat.reduceBEq,Nat.reduceBNe,Int.reduceBEq,Int.reduceBNe,Int.reduceLT,Int.reduceLE,Int.reduceAdd,Int.reduceSub,Int.reduceNeg,syQ,confV,frameV,listV,subV,arC_nil,arC_cons,xF,xcallV,xcallC,xcallL,xcallY,xevY,xY_ready,xrange,xG_fn,xR,xA,xcl21,xclk21,xcl22,xclk22]
  all_goals simp -implicitDefEqProofs only [List.map_nil]
def g_cell_Cas (v0 : (List Int)) (v1 : Int) (v2 : Int) (v3 : Int) : Option ((List Int) × Bool) :=
  ob (g_clone (8 : Nat) v0) fun x63 =>
  ob (g_cell_is v0 v1) fun x64 =>
  bif !x64 then
   some ((x63),(false))
  else
   ob (idx v0 v1) fun x65 =>
   bif x65 != v2 then
    bif decide ((0 : Int) ≤ v1 ∧ v1.toNat < x63.length) then
     ob (x63[v1.toNat]?) fun x66 =>
     ob (idx v0 v1) fun x67 =>
     some ((x63.set v1.toNat x65),(false))
    else
     none
   else
    bif decide ((0 : Int) ≤ v1 ∧ v1.toNat < x63.length) then
     ob (x63[v1.toNat]?) fun x68 =>
     ob (idx v0 v1) fun x69 =>
     some ((x63.set v1.toNat v3),(true))
    else
     none
theorem h_cell_Cas (k : Nat) (v0 : (List Int)) (v1 : Int) (v2 : Int) (v3 : Int) : xC (k + 11) none 61 [(.ro (List.map (intR .u64) v0)),(.lit (.int .i64 v1)),(.lit (.int .u64 v2)),(.lit (.int .u64 v3))] = ob (g_cell_Cas v0 v1 v2 v3) fun r => some ((.tup [(.ro (List.map (intR .u64) r.1)),(.lit (.bool r.2))]),[]) := by
  rw [xC_eq]
  unfold g_cell_Cas
  simp (maxSteps := 2000000) -implicitDefEqProofs only [xe42,xb42,xe61,xb61,xe86,xb86,↓syP,syA,rtN,pureL,V.pure,nsh,stBk,V.kill,killL,spl,V.shift,shiftL,V.scal,scalL,intR,boolR,threeV,Nat.reduceAdd,Nat.reduceSub,Nat.reduceMul,Nat.reduceLT,Nat.reduceLeDiff,Nat.reduceEqDiff,Nat.reduceBEq,Nat.reduceBNe,Int.reduceBEq,Int.reduceBNe,Int.reduceLT,Int.reduceLE,Int.reduceAdd,Int.reduceSub,Int.reduceNeg,syQ,confV,frameV,listV,subV,arC_nil,arC_cons,xF,xcallV,xcallC,xcallL,xcallY,xevY,xY_ready,xrange,xG_fn,xR,xA,xcl21,xclk21,xcl22,xclk22,h_cell_is]
  all_goals simp -implicitDefEqProofs only [List.map_nil]
def g_frame_End (v0 : (Int × Int × Int × Int × Int × Int × Int)) (v1 : Int) (v2 : Int) : Option (Int × Int × Int × Int × Int × Int × Int) :=
  some ((v0.1),((0 : Int)),(v0.2.2.1),(v2),((0 : Int)),((0 : Int)),(v1))
theorem h_frame_End (k : Nat) (v0_0 : Int) (v0_1 : Int) (v0_2 : Int) (v0_3 : Int) (v0_4 : Int) (v0_5 : Int) (v0_6 : Int) (v1 : Int) (v2 : Int) : xC (k + 1) none 63 [(.agg [(.lit (.int .i64 v0_0)),(.lit (.int .i64 v0_1)),(.lit (.int .i64 v0_2)),(.lit (.int .u64 v0_3)),(.lit (.int .u64 v0_4)),(.lit (.int .u64 v0_5)),(.lit (.int .i64 v0_6))]),(.lit (.int .i64 v1)),(.lit (.int .u64 v2))] = ob (g_frame_End (v0_0,v0_1,v0_2,v0_3,v0_4,v0_5,v0_6) v1 v2) fun r => some ((.agg [(.lit (.int .i64 r.1)),(.lit (.int .i64 r.2.1)),(.lit (.int .i64 r.2.2.1)),(.lit (.int .u64 r.2.2.2.1)),(.lit (.int .u64 r.2.2.2.2.1)),(.lit (.int .u64 r.2.2.2.2.2.1)),(.lit (.int .i64 r.2.2.2.2.2.2))]),[]) := by
  rw [xC_eq]
  unfold g_frame_End
  simp (maxSteps := 2000000) -implicitDefEqProofs only [xe63,xb63,↓syP,syA,rtN,pureL,V.pure,nsh,stBk,V.kill,killL,spl,V.shift,shiftL,V.scal,scalL,intR,boolR,threeV,Nat.reduceAdd,Nat.reduceSub,Nat.reduceMul,Nat.reduceLT,Nat.reduceLeDiff,Nat.reduceEqDiff,Nat.reduceBEq,Nat.reduceBNe,Int.reduceBEq,Int.reduceBNe,Int.reduceLT,Int.reduceLE,Int.reduceAdd,Int.reduceSub,Int.reduceNeg,syQ,confV,frameV,listV,subV,arC_nil,arC_cons,xF,xcallV,xcallC,xcallL,xcallY,xevY,xY_ready,xrange,xG_fn,xR,xA,xcl21,xclk21,xcl22,xclk22]
  all_goals simp -implicitDefEqProofs only [List.map_nil]
def g_word_Set (v0 : Int) (v1 : Int) : Option Int :=
  bif decide (v1 < (0 : Int)) then
   some (v0)
  else
   bif decide ((16 : Int) ≤ v1) then
    some (v0)
   else
    bif decide ((0 : Int) ≤ v1) then
     some (orI IntKind.u64 v0 (shlI IntKind.u64 (1 : Int) v1))
    else
     none
theorem h_word_Set (k : Nat) (v0 : Int) (v1 : Int) : xC (k + 1) none 80 [(.lit (.int .u64 v0)),(.lit (.int .i64 v1))] = ob (g_word_Set v0 v1) fun r => some ((.lit (.int .u64 r)),[]) := by
  rw [xC_eq]
  unfold g_word_Set
  simp (maxSteps := 2000000) -implicitDefEqProofs only [xe80,xb80,xm80_0,xk80_0_ret,↓syP,syA,rtN,pureL,V.pure,nsh,stBk,V.kill,killL,spl,V.shift,shiftL,V.scal,scalL,intR,boolR,threeV,Nat.reduceAdd,Nat.reduceSub,Nat.reduceMul,Nat.reduceLT,Nat.reduceLeDiff,Nat.reduceEqDiff,Nat.reduceBEq,Nat.reduceBNe,Int.reduceBEq,Int.reduceBNe,Int.reduceLT,Int.reduceLE,Int.reduceAdd,Int.reduceSub,Int.reduceNeg,syQ,confV,frameV,listV,subV,arC_nil,arC_cons,xF,xcallV,xcallC,xcallL,xcallY,xevY,xY_ready,xrange,xG_fn,xR,xA,xcl21,xclk21,xcl22,xclk22]
  all_goals simp -implicitDefEqProofs only [List.map_nil]
def g_word_Epoch (v0 : Int) : Option Int :=
  some (shrI IntKind.u64 v0 (16 : Int))
theorem h_word_Epoch (k : Nat) (v0 : Int) : xC (k + 1) none 79 [(.lit (.int .u64 v0))] = ob (g_word_Epoch v0) fun r => some ((.lit (.int .u64 r)),[]) := by
  rw [xC_eq]
  unfold g_word_Epoch
  simp (maxSteps := 2000000) -implicitDefEqProofs only [xe79,xb79,↓syP,syA,rtN,pureL,V.pure,nsh,stBk,V.kill,killL,spl,V.shift,shiftL,V.scal,scalL,intR,boolR,threeV,Nat.reduceAdd,Nat.reduceSub,Nat.reduceMul,Nat.reduceLT,Nat.reduceLeDiff,Nat.reduceEqDiff,Nat.reduceBEq,Nat.reduceBNe,Int.reduceBEq,Int.reduceBNe,Int.reduceLT,Int.reduceLE,Int.reduceAdd,Int.reduceSub,Int.reduceNeg,syQ,confV,frameV,listV,subV,arC_nil,arC_cons,xF,xcallV,xcallC,xcallL,xcallY,xevY,xY_ready,xrange,xG_fn,xR,xA,xcl21,xclk21,xcl22,xclk22]
  all_goals simp -implicitDefEqProofs only [List.map_nil]
def g_lay_Park (v0 : (Int × Int × Int × Int)) (v1 : Int) : Option Int :=
  ob (g_lay_May (v0.1,v0.2.1,v0.2.2.1,v0.2.2.2)) fun x80 =>
  bif !x80 then
   some ((-1 : Int))
  else
   ob (g_lay_in v1 (0 : Int) (IntKind.i64.wrap (v0.1 - (1 : Int)))) fun x81 =>
   bif !x81 then
    some ((-1 : Int))
   else
    ob (g_lay_base (v0.1,v0.2.1,v0.2.2.1,v0.2.2.2) v1) fun x82 =>
    some (IntKind.i64.wrap (x82 + (2 : Int)))
theorem h_lay_Park (k : Nat) (v0_0 : Int) (v0_1 : Int) (v0_2 : Int) (v0_3 : Int) (v1 : Int) : xC (k + 12) none 81 [(.agg [(.lit (.int .i64 v0_0)),(.lit (.int .i64 v0_1)),(.lit (.int .i64 v0_2)),(.lit (.int .i64 v0_3))]),(.lit (.int .i64 v1))] = ob (g_lay_Park (v0_0,v0_1,v0_2,v0_3) v1) fun r => some ((.lit (.int .i64 r)),[]) := by
  rw [xC_eq]
  unfold g_lay_Park
  simp (maxSteps := 2000000) -implicitDefEqProofs only [xe81,xb81,xe90,xb90,xm90_0,xk90_0_ret,xe93,xb93,↓syP,syA,rtN,pureL,V.pure,nsh,stBk,V.kill,killL,spl,V.shift,shiftL,V.scal,scalL,intR,boolR,threeV,Nat.reduceAdd,Nat.reduceSub,Nat.reduceMul,Nat.reduceLT,Nat.reduceLeDiff,Nat.reduceEqDiff,Nat.reduceBEq,Nat.reduceBNe,Int.reduceBEq,Int.reduceBNe,Int.reduceLT,Int.reduceLE,Int.reduceAdd,Int.reduceSub,Int.reduceNeg,syQ,confV,frameV,listV,subV,arC_nil,arC_cons,xF,xcallV,xcallC,xcallL,xcallY,xevY,xY_ready,xrange,xG_fn,xR,xA,xcl21,xclk21,xcl22,xclk22,h_lay_in,h_lay_May,h_lay_base]
  all_goals simp -implicitDefEqProofs only [List.map_nil]
def g_word_Mask (v0 : Int) : Option Int :=
  some (andI IntKind.u64 v0 (65535 : Int))
theorem h_word_Mask (k : Nat) (v0 : Int) : xC (k + 1) none 62 [(.lit (.int .u64 v0))] = ob (g_word_Mask v0) fun r => some ((.lit (.int .u64 r)),[]) := by
  rw [xC_eq]
  unfold g_word_Mask
  simp (maxSteps := 2000000) -implicitDefEqProofs only [xe62,xb62,↓syP,syA,rtN,pureL,V.pure,nsh,stBk,V.kill,killL,spl,V.shift,shiftL,V.scal,scalL,intR,boolR,threeV,Nat.reduceAdd,Nat.reduceSub,Nat.reduceMul,Nat.reduceLT,Nat.reduceLeDiff,Nat.reduceEqDiff,Nat.reduceBEq,Nat.reduceBNe,Int.reduceBEq,Int.reduceBNe,Int.reduceLT,Int.reduceLE,Int.reduceAdd,Int.reduceSub,Int.reduceNeg,syQ,confV,frameV,listV,subV,arC_nil,arC_cons,xF,xcallV,xcallC,xcallL,xcallY,xevY,xY_ready,xrange,xG_fn,xR,xA,xcl21,xclk21,xcl22,xclk22]
  all_goals simp -implicitDefEqProofs only [List.map_nil]
def g_push_Goes (v0 : (Int × Int × Int × Int)) (v1 : (List Int)) (v2 : (Int × Int × Int × Int × Int × Int × Int)) (v3 : Int) (v4 : Int) : Option Bool :=
  ob (g_lay_May (v0.1,v0.2.1,v0.2.2.1,v0.2.2.2)) fun x89 =>
  bif x89 then
   ob (g_lay_Size (v0.1,v0.2.1,v0.2.2.1,v0.2.2.2)) fun x90 =>
   bif (↑v1.length : Int) == x90 then
    ob (g_frame_Over (v2.1,v2.2.1,v2.2.2.1,v2.2.2.2.1,v2.2.2.2.2.1,v2.2.2.2.2.2.1,v2.2.2.2.2.2.2)) fun x91 =>
    bif !x91 then
     bif decide ((0 : Int) ≤ v2.2.2.1) then
      bif decide (v2.2.2.1 < v0.1) then
       bif v2.1 == v3 then
        bif decide ((0 : Int) ≤ v2.2.1) then
         some (decide (v2.2.1 < v4))
        else
         some (false)
       else
        some (false)
      else
       some (false)
     else
      some (false)
    else
     some (false)
   else
    some (false)
  else
   some (false)
theorem h_push_Goes (k : Nat) (v0_0 : Int) (v0_1 : Int) (v0_2 : Int) (v0_3 : Int) (v1 : (List Int)) (v2_0 : Int) (v2_1 : Int) (v2_2 : Int) (v2_3 : Int) (v2_4 : Int) (v2_5 : Int) (v2_6 : Int) (v3 : Int) (v4 : Int) : xC (k + 4) none 58 [(.agg [(.lit (.int .i64 v0_0)),(.lit (.int .i64 v0_1)),(.lit (.int .i64 v0_2)),(.lit (.int .i64 v0_3))]),(.ro (List.map (intR .u64) v1)),(.agg [(.lit (.int .i64 v2_0)),(.lit (.int .i64 v2_1)),(.lit (.int .i64 v2_2)),(.lit (.int .u64 v2_3)),(.lit (.int .u64 v2_4)),(.lit (.int .u64 v2_5)),(.lit (.int .i64 v2_6))]),(.lit (.int .i64 v3)),(.lit (.int .i64 v4))] = ob (g_push_Goes (v0_0,v0_1,v0_2,v0_3) v1 (v2_0,v2_1,v2_2,v2_3,v2_4,v2_5,v2_6) v3 v4) fun r => some ((.lit (.bool r)),[]) := by
  rw [xC_eq]
  unfold g_push_Goes
  simp (maxSteps := 2000000) -implicitDefEqProofs only [xe58,xb58,xm58_0,xm58_1,xm58_2,xm58_3,xm58_4,xm58_5,xm58_6,xk58_0_ret,↓syP,syA,rtN,pureL,V.pure,nsh,stBk,V.kill,killL,spl,V.shift,shiftL,V.scal,scalL,intR,boolR,threeV,Nat.reduceAdd,Nat.reduceSub,Nat.reduceMul,Nat.reduceLT,Nat.reduceLeDiff,Nat.reduceEqDiff,Nat.reduceBEq,Nat.reduceBNe,Int.reduceBEq,Int.reduceBNe,Int.reduceLT,Int.reduceLE,Int.reduceAdd,Int.reduceSub,Int.reduceNeg,syQ,confV,frameV,listV,subV,arC_nil,arC_cons,xF,xcallV,xcallC,xcallL,xcallY,xevY,xY_ready,xrange,xG_fn,xR,xA,xcl21,xclk21,xcl22,xclk22,h_lay_May,h_lay_Size,h_frame_Over]
  all_goals simp -implicitDefEqProofs only [List.map_nil]
def g_wait_Step (v0 : (Int × Int × Int × Int)) (v1 : (List Int)) (v2 : (Int × Int × Int × Int × Int × Int × Int)) : Option ((List Int) × (Int × Int × Int × Int × Int × Int × Int)) :=
  ob (g_clone (8 : Nat) v1) fun x109 =>
  ob (g_push_Goes (v0.1,v0.2.1,v0.2.2.1,v0.2.2.2) v1 (v2.1,v2.2.1,v2.2.2.1,v2.2.2.2.1,v2.2.2.2.2.1,v2.2.2.2.2.2.1,v2.2.2.2.2.2.2) (5 : Int) (5 : Int)) fun x110 =>
  bif x110 then
   bif decide ((0 : Int) ≤ v2.2.1 ∧ v2.2.1.toNat < (5 : Nat)) then
    bif v2.2.1.toNat == (0 : Nat) then
     ob (g_cell_Load x109 (2 : Int)) fun x111 =>
     some ((x109),((v2.1),((1 : Int)),(v2.2.2.1),(v2.2.2.2.1),(x111),(v2.2.2.2.2.2.1),(v2.2.2.2.2.2.2)))
    else
     bif v2.2.1.toNat == (1 : Nat) then
      ob (g_cell_Load x109 (2 : Int)) fun x112 =>
      ob (g_word_Epoch x112) fun x113 =>
      ob (g_word_Epoch v2.2.2.2.2.1) fun x114 =>
      bif x113 != x114 then
       ob (g_frame_End (v2.1,(2 : Int),v2.2.2.1,v2.2.2.2.1,v2.2.2.2.2.1,x112,v2.2.2.2.2.2.2) (4 : Int) (0 : Int)) fun x115 =>
       some ((x109),((x115.fst),(x115.snd.fst),(x115.snd.snd.fst),(x115.snd.snd.snd.fst),(x115.snd.snd.snd.snd.fst),(x115.snd.snd.snd.snd.snd.fst),(x115.snd.snd.snd.snd.snd.snd)))
      else
       some ((x109),((v2.1),((2 : Int)),(v2.2.2.1),(v2.2.2.2.1),(v2.2.2.2.2.1),(x112),(v2.2.2.2.2.2.2)))
     else
      bif v2.2.1.toNat == (2 : Nat) then
       ob (g_word_Set v2.2.2.2.2.2.1 v2.2.2.1) fun x116 =>
       ob (g_cell_Cas x109 (2 : Int) v2.2.2.2.2.2.1 x116) fun x117 =>
       bif x117.snd then
        some ((x117.fst),((v2.1),((3 : Int)),(v2.2.2.1),(v2.2.2.2.1),(v2.2.2.2.2.1),(v2.2.2.2.2.2.1),(v2.2.2.2.2.2.2)))
       else
        some ((x117.fst),((v2.1),((1 : Int)),(v2.2.2.1),(v2.2.2.2.1),(v2.2.2.2.2.1),(v2.2.2.2.2.2.1),(v2.2.2.2.2.2.2)))
      else
       bif v2.2.1.toNat == (3 : Nat) then
        ob (g_lay_Park (v0.1,v0.2.1,v0.2.2.1,v0.2.2.2) v2.2.2.1) fun x118 =>
        ob (g_cell_Load x109 x118) fun x119 =>
        bif x119 != (0 : Int) then
         some ((x109),((v2.1),((4 : Int)),(v2.2.2.1),(v2.2.2.2.1),(v2.2.2.2.2.1),(x119),(v2.2.2.2.2.2.2)))
        else
         some ((x109),((v2.1),(v2.2.1),(v2.2.2.1),(v2.2.2.2.1),(v2.2.2.2.2.1),(x119),(v2.2.2.2.2.2.2)))
       else
        bif v2.2.1.toNat == (4 : Nat) then
         ob (g_lay_Park (v0.1,v0.2.1,v0.2.2.1,v0.2.2.2) v2.2.2.1) fun x120 =>
         ob (g_cell_Store x109 x120 (0 : Int)) fun x121 =>
         ob (g_frame_End (v2.1,v2.2.1,v2.2.2.1,v2.2.2.2.1,v2.2.2.2.2.1,v2.2.2.2.2.2.1,v2.2.2.2.2.2.2) (1 : Int) (0 : Int)) fun x122 =>
         some ((x121),((x122.fst),(x122.snd.fst),(x122.snd.snd.fst),(x122.snd.snd.snd.fst),(x122.snd.snd.snd.snd.fst),(x122.snd.snd.snd.snd.snd.fst),(x122.snd.snd.snd.snd.snd.snd)))
        else
         none
   else
    none
  else
   some ((x109),((v2.1),(v2.2.1),(v2.2.2.1),(v2.2.2.2.1),(v2.2.2.2.2.1),(v2.2.2.2.2.2.1),(v2.2.2.2.2.2.2)))
theorem h_wait_Step (k : Nat) (v0_0 : Int) (v0_1 : Int) (v0_2 : Int) (v0_3 : Int) (v1 : (List Int)) (v2_0 : Int) (v2_1 : Int) (v2_2 : Int) (v2_3 : Int) (v2_4 : Int) (v2_5 : Int) (v2_6 : Int) : xC (k + 14) none 44 [(.agg [(.lit (.int .i64 v0_0)),(.lit (.int .i64 v0_1)),(.lit (.int .i64 v0_2)),(.lit (.int .i64 v0_3))]),(.ro (List.map (intR .u64) v1)),(.agg [(.lit (.int .i64 v2_0)),(.lit (.int .i64 v2_1)),(.lit (.int .i64 v2_2)),(.lit (.int .u64 v2_3)),(.lit (.int .u64 v2_4)),(.lit (.int .u64 v2_5)),(.lit (.int .i64 v2_6))])] = ob (g_wait_Step (v0_0,v0_1,v0_2,v0_3) v1 (v2_0,v2_1,v2_2,v2_3,v2_4,v2_5,v2_6)) fun r => some ((.tup [(.ro (List.map (intR .u64) r.1)),(.agg [(.lit (.int .i64 r.2.1)),(.lit (.int .i64 r.2.2.1)),(.lit (.int .i64 r.2.2.2.1)),(.lit (.int .u64 r.2.2.2.2.1)),(.lit (.int .u64 r.2.2.2.2.2.1)),(.lit (.int .u64 r.2.2.2.2.2.2.1)),(.lit (.int .i64 r.2.2.2.2.2.2.2))])]),[]) := by
  rw [xC_eq]
  unfold g_wait_Step
  simp (maxSteps := 2000000) -implicitDefEqProofs only [xe44,xb44,xj44_0,xk44_0_ret,xe53,xb53,xe54,xb54,xe55,xb55,xe56,xb56,xe57,xb57,↓syP,syA,rtN,pureL,V.pure,nsh,stBk,V.kill,killL,spl,V.shift,shiftL,V.scal,scalL,intR,boolR,threeV,Nat.reduceAdd,Nat.reduceSub,Nat.reduceMul,Nat.reduceLT,Nat.reduceLeDiff,Nat.reduceEqDiff,Nat.reduceBEq,Nat.reduceBNe,Int.reduceBEq,Int.reduceBNe,Int.reduceLT,Int.reduceLE,Int.reduceAdd,Int.reduceSub,Int.reduceNeg,syQ,confV,frameV,listV,subV,arC_nil,arC_cons,xF,xcallV,xcallC,xcallL,xcallY,xevY,xY_ready,xrange,xG_fn,xR,xA,xcl21,xclk21,xcl22,xclk22,h_cell_Load,h_cell_Store,h_cell_Cas,h_frame_End,h_word_Set,h_word_Epoch,h_lay_Park,h_push_Goes]
  all_goals simp -implicitDefEqProofs only [List.map_nil]
def g_lay_New_L0 (k : Nat) (v0 : (Int × Int × Int × Int))  : Nat → Int → List Int → Int → Nat → Option (List Int)
  | 0,_,_,_,_ => none
  | n + 1,s139,s142,s143,s145 =>
    bif decide (s143 < s139) then
     ck (s145 == (1 : Nat) || s145 == (0 : Nat)) (
     bif room (s142 ++ [(0 : Int)]).length (8 : Nat) then
      g_lay_New_L0 k v0  n (s139) (s142 ++ [(0 : Int)]) (IntKind.i64.wrap (s143 + (1 : Int))) ((1 : Nat))
     else
      none)
    else
     some (s142)
theorem g_lay_New_L0_eq (k : Nat) (v0_0 : Int) (v0_1 : Int) (v0_2 : Int) (v0_3 : Int) : ∀ (n : Nat) (s139 : Int) (s142 : List Int) (s143 : Int) (s145 : Nat) ⦃s141 : Nat⦄,rt none (itX (xX (xS (k + (3 : Nat))) (15 : Nat) (0 : Nat) (k + (3 : Nat)) false) xl15_0 ((3 : Nat)) (runK (xX (xS (k + (3 : Nat))) (15 : Nat) (0 : Nat) (k + (3 : Nat)) false) (bodyK (xS (k + (3 : Nat))).P Try.f15) xk15_0) n ⟨[V.agg [V.lit (Value.int IntKind.i64 v0_0),V.lit (Value.int IntKind.i64 v0_1),V.lit (Value.int IntKind.i64 v0_2),V.lit (Value.int IntKind.i64 v0_3)],V.ptr (0 : Nat) (0 : Nat) (0 : Nat) (0 : Nat),V.own (1 : Nat) (0 : Nat) (0 : Nat),V.own (2 : Nat) s141 s142.length,V.agg [V.lit (Value.int IntKind.i64 v0_0),V.lit (Value.int IntKind.i64 v0_1),V.lit (Value.int IntKind.i64 v0_2),V.lit (Value.int IntKind.i64 v0_3)],V.lit (Value.int IntKind.i64 s139),V.lit (Value.int IntKind.i64 s143),V.junk,V.junk,V.junk,V.junk,V.junk,uu],[B.box [V.lit (Value.int IntKind.i64 v0_0),V.lit (Value.int IntKind.i64 v0_1),V.lit (Value.int IntKind.i64 v0_2),V.lit (Value.int IntKind.i64 v0_3)],B.rows (0 : Nat) [] (0 : Nat) true,B.rows s145 (List.map (intR IntKind.u64) s142) s141 true]⟩) = ob (g_lay_New_L0 k (v0_0,v0_1,v0_2,v0_3)  n s139 s142 s143 s145) fun r => some ((.ro (List.map (intR .u64) r)),[]) := by
  intro n
  induction n with
  | zero => intros; rfl
  | succ n ih =>
    intro s139 s142 s143 s145 s141
    rw [g_lay_New_L0]
    simp (maxSteps := 2000000) -implicitDefEqProofs only [xe15,xb15,xz15,xj15_0,xk15_0_ret,↓syP,syA,rtN,pureL,V.pure,nsh,stBk,V.kill,killL,spl,V.shift,shiftL,V.scal,scalL,intR,boolR,threeV,Nat.reduceAdd,Nat.reduceSub,Nat.reduceMul,Nat.reduceLT,Nat.reduceLeDiff,Nat.reduceEqDiff,Nat.reduceBEq,Nat.reduceBNe,Int.reduceBEq,Int.reduceBNe,Int.reduceLT,Int.reduceLE,Int.reduceAdd,Int.reduceSub,Int.reduceNeg,syQ,confV,frameV,listV,subV,arC_nil,arC_cons,xF,xcallV,xcallC,xcallL,xcallY,xevY,xY_ready,xrange,xG_fn,xR,xA,xcl21,xclk21,xcl22,xclk22,h_lay_Size,xr15_0,ih]
    all_goals simp -implicitDefEqProofs only [List.map_nil]
def g_lay_New (k : Nat) (v0 : (Int × Int × Int × Int)) : Option (List Int) :=
  ob (g_lay_Size (v0.1,v0.2.1,v0.2.2.1,v0.2.2.2)) fun x147 =>
  g_lay_New_L0 k v0 (k + (3 : Nat)) (x147) ([]) ((0 : Int)) ((0 : Nat))
theorem h_lay_New (k : Nat) (v0_0 : Int) (v0_1 : Int) (v0_2 : Int) (v0_3 : Int) : xC (k + 4) none 15 [(.agg [(.lit (.int .i64 v0_0)),(.lit (.int .i64 v0_1)),(.lit (.int .i64 v0_2)),(.lit (.int .i64 v0_3))])] = ob (g_lay_New k (v0_0,v0_1,v0_2,v0_3)) fun r => some ((.ro (List.map (intR .u64) r)),[]) := by
  rw [xC_eq]
  unfold g_lay_New
  have hl0 := fun (x148 : Int) => g_lay_New_L0_eq k v0_0 v0_1 v0_2 v0_3 (k + (3 : Nat)) (x148) ([]) ((0 : Int)) ((0 : Nat))
  try simp -implicitDefEqProofs only [List.map_nil,List.length_nil] at hl0
  simp (maxSteps := 2000000) -implicitDefEqProofs only [xe15,xb15,xz15,xj15_0,xk15_0_ret,↓syP,syA,rtN,pureL,V.pure,nsh,stBk,V.kill,killL,spl,V.shift,shiftL,V.scal,scalL,intR,boolR,threeV,Nat.reduceAdd,Nat.reduceSub,Nat.reduceMul,Nat.reduceLT,Nat.reduceLeDiff,Nat.reduceEqDiff,Nat.reduceBEq,Nat.reduceBNe,Int.reduceBEq,Int.reduceBNe,Int.reduceLT,Int.reduceLE,Int.reduceAdd,Int.reduceSub,Int.reduceNeg,syQ,confV,frameV,listV,subV,arC_nil,arC_cons,xF,xcallV,xcallC,xcallL,xcallY,xevY,xY_ready,xrange,xG_fn,xR,xA,xcl21,xclk21,xcl22,xclk22,h_lay_Size,g_lay_New_L0_eq k v0_0 v0_1 v0_2 v0_3,hl0]
  all_goals simp -implicitDefEqProofs only [List.map_nil]
end Go.Ab
