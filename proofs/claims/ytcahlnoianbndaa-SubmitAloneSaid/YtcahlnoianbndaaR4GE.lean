/- Functions as they are walked: printed by Walk.lean. -/
import Derived.Test.YtcahlnoianbndaaR4GN
import Derived.Test.YtcahlnoianbndaaR4B4
set_option linter.unusedVariables false
set_option linter.unusedSimpArgs false
set_option maxRecDepth 100000
set_option linter.unusedVariables false
set_option linter.unusedSimpArgs false
namespace Go.Ab
open Go.Proofs
def g_event_Step (k : Nat) (v0 : (Int × Int × Int × Int)) (v1 : (List Int)) (v2 : (Int × Int × Int × Int × Int × Int × Int)) : Option ((List Int) × (Int × Int × Int × Int × Int × Int × Int)) :=
  bif v2.1 == (5 : Int) then
   ob (g_wait_Step (v0.1,v0.2.1,v0.2.2.1,v0.2.2.2) v1 (v2.1,v2.2.1,v2.2.2.1,v2.2.2.2.1,v2.2.2.2.2.1,v2.2.2.2.2.2.1,v2.2.2.2.2.2.2)) fun x6 =>
   some ((x6.fst),((x6.snd.fst),(x6.snd.snd.fst),(x6.snd.snd.snd.fst),(x6.snd.snd.snd.snd.fst),(x6.snd.snd.snd.snd.snd.fst),(x6.snd.snd.snd.snd.snd.snd.fst),(x6.snd.snd.snd.snd.snd.snd.snd)))
  else
   bif v2.1 == (6 : Int) then
    bif v2.1 == (6 : Int) then
     ob (g_note_Step k (v0.1,v0.2.1,v0.2.2.1,v0.2.2.2) v1 (v2.1,v2.2.1,v2.2.2.1,v2.2.2.2.1,v2.2.2.2.2.1,v2.2.2.2.2.2.1,v2.2.2.2.2.2.2)) fun x7 =>
     some ((x7.fst),((x7.snd.fst),(x7.snd.snd.fst),(x7.snd.snd.snd.fst),(x7.snd.snd.snd.snd.fst),(x7.snd.snd.snd.snd.snd.fst),(x7.snd.snd.snd.snd.snd.snd.fst),(x7.snd.snd.snd.snd.snd.snd.snd)))
    else
     ob (g_clone (8 : Nat) v1) fun x8 =>
     some ((x8),((v2.1),(v2.2.1),(v2.2.2.1),(v2.2.2.2.1),(v2.2.2.2.2.1),(v2.2.2.2.2.2.1),(v2.2.2.2.2.2.2)))
   else
    bif v2.1 == (7 : Int) then
     ob (g_note_Step k (v0.1,v0.2.1,v0.2.2.1,v0.2.2.2) v1 (v2.1,v2.2.1,v2.2.2.1,v2.2.2.2.1,v2.2.2.2.2.1,v2.2.2.2.2.2.1,v2.2.2.2.2.2.2)) fun x9 =>
     some ((x9.fst),((x9.snd.fst),(x9.snd.snd.fst),(x9.snd.snd.snd.fst),(x9.snd.snd.snd.snd.fst),(x9.snd.snd.snd.snd.snd.fst),(x9.snd.snd.snd.snd.snd.snd.fst),(x9.snd.snd.snd.snd.snd.snd.snd)))
    else
     ob (g_clone (8 : Nat) v1) fun x10 =>
     some ((x10),((v2.1),(v2.2.1),(v2.2.2.1),(v2.2.2.2.1),(v2.2.2.2.2.1),(v2.2.2.2.2.2.1),(v2.2.2.2.2.2.2)))
theorem h_event_Step (k : Nat) (v0_0 : Int) (v0_1 : Int) (v0_2 : Int) (v0_3 : Int) (v1 : (List Int)) (v2_0 : Int) (v2_1 : Int) (v2_2 : Int) (v2_3 : Int) (v2_4 : Int) (v2_5 : Int) (v2_6 : Int) : xC (k + 17) none 26 [(.agg [(.lit (.int .i64 v0_0)),(.lit (.int .i64 v0_1)),(.lit (.int .i64 v0_2)),(.lit (.int .i64 v0_3))]),(.ro (List.map (intR .u64) v1)),(.agg [(.lit (.int .i64 v2_0)),(.lit (.int .i64 v2_1)),(.lit (.int .i64 v2_2)),(.lit (.int .u64 v2_3)),(.lit (.int .u64 v2_4)),(.lit (.int .u64 v2_5)),(.lit (.int .i64 v2_6))])] = ob (g_event_Step k (v0_0,v0_1,v0_2,v0_3) v1 (v2_0,v2_1,v2_2,v2_3,v2_4,v2_5,v2_6)) fun r => some ((.tup [(.ro (List.map (intR .u64) r.1)),(.agg [(.lit (.int .i64 r.2.1)),(.lit (.int .i64 r.2.2.1)),(.lit (.int .i64 r.2.2.2.1)),(.lit (.int .u64 r.2.2.2.2.1)),(.lit (.int .u64 r.2.2.2.2.2.1)),(.lit (.int .u64 r.2.2.2.2.2.2.1)),(.lit (.int .i64 r.2.2.2.2.2.2.2))])]),[]) := by
  rw [xC_eq]
  unfold g_event_Step
  simp (maxSteps := 2000000) -implicitDefEqProofs only [xe26,xb26,xj26_0,xk26_0_ret,↓syP,syA,rtN,pureL,V.pure,nsh,stBk,V.kill,killL,spl,V.shift,shiftL,V.scal,scalL,intR,boolR,threeV,Nat.reduceAdd,Nat.reduceSub,Nat.reduceMul,Nat.reduceLT,Nat.reduceLeDiff,Nat.reduceEqDiff,Nat.reduceBEq,Nat.reduceBNe,Int.reduceBEq,Int.reduceBNe,Int.reduceLT,Int.reduceLE,Int.reduceAdd,Int.reduceSub,Int.reduceNeg,syQ,confV,frameV,listV,subV,arC_nil,arC_cons,xF,xcallV,xcallC,xcallL,xcallY,xevY,xY_ready,xrange,xG_fn,xR,xA,xcl21,xclk21,xcl22,xclk22,h_wait_Step,h_note_Step]
  all_goals simp -implicitDefEqProofs only [List.map_nil]
def g_enq_fits (v0 : (Int × Int × Int × Int)) (v1 : (List Int)) : Option Bool :=
  ob (g_lay_May (v0.1,v0.2.1,v0.2.2.1,v0.2.2.2)) fun x18 =>
  bif x18 then
   ob (g_lay_Size (v0.1,v0.2.1,v0.2.2.1,v0.2.2.2)) fun x19 =>
   some ((↑v1.length : Int) == x19)
  else
   some (false)
theorem h_enq_fits (k : Nat) (v0_0 : Int) (v0_1 : Int) (v0_2 : Int) (v0_3 : Int) (v1 : (List Int)) : xC (k + 4) none 88 [(.agg [(.lit (.int .i64 v0_0)),(.lit (.int .i64 v0_1)),(.lit (.int .i64 v0_2)),(.lit (.int .i64 v0_3))]),(.ro (List.map (intR .u64) v1))] = ob (g_enq_fits (v0_0,v0_1,v0_2,v0_3) v1) fun r => some ((.lit (.bool r)),[]) := by
  rw [xC_eq]
  unfold g_enq_fits
  simp (maxSteps := 2000000) -implicitDefEqProofs only [xe88,xb88,xm88_0,xk88_0_ret,↓syP,syA,rtN,pureL,V.pure,nsh,stBk,V.kill,killL,spl,V.shift,shiftL,V.scal,scalL,intR,boolR,threeV,Nat.reduceAdd,Nat.reduceSub,Nat.reduceMul,Nat.reduceLT,Nat.reduceLeDiff,Nat.reduceEqDiff,Nat.reduceBEq,Nat.reduceBNe,Int.reduceBEq,Int.reduceBNe,Int.reduceLT,Int.reduceLE,Int.reduceAdd,Int.reduceSub,Int.reduceNeg,syQ,confV,frameV,listV,subV,arC_nil,arC_cons,xF,xcallV,xcallC,xcallL,xcallY,xevY,xY_ready,xrange,xG_fn,xR,xA,xcl21,xclk21,xcl22,xclk22,h_lay_May,h_lay_Size]
  all_goals simp -implicitDefEqProofs only [List.map_nil]
def g_enq_Goes (v0 : (Int × Int × Int × Int)) (v1 : (List Int)) (v2 : (Int × Int × Int × Int × Int × Int × Int)) (v3 : Int) : Option Bool :=
  ob (g_enq_fits (v0.1,v0.2.1,v0.2.2.1,v0.2.2.2) v1) fun x24 =>
  bif x24 then
   ob (g_frame_Over (v2.1,v2.2.1,v2.2.2.1,v2.2.2.2.1,v2.2.2.2.2.1,v2.2.2.2.2.2.1,v2.2.2.2.2.2.2)) fun x25 =>
   bif !x25 then
    bif v2.1 == v3 then
     bif decide ((0 : Int) ≤ v2.2.1) then
      some (decide (v2.2.1 < (5 : Int)))
     else
      some (false)
    else
     some (false)
   else
    some (false)
  else
   some (false)
theorem h_enq_Goes (k : Nat) (v0_0 : Int) (v0_1 : Int) (v0_2 : Int) (v0_3 : Int) (v1 : (List Int)) (v2_0 : Int) (v2_1 : Int) (v2_2 : Int) (v2_3 : Int) (v2_4 : Int) (v2_5 : Int) (v2_6 : Int) (v3 : Int) : xC (k + 5) none 66 [(.agg [(.lit (.int .i64 v0_0)),(.lit (.int .i64 v0_1)),(.lit (.int .i64 v0_2)),(.lit (.int .i64 v0_3))]),(.ro (List.map (intR .u64) v1)),(.agg [(.lit (.int .i64 v2_0)),(.lit (.int .i64 v2_1)),(.lit (.int .i64 v2_2)),(.lit (.int .u64 v2_3)),(.lit (.int .u64 v2_4)),(.lit (.int .u64 v2_5)),(.lit (.int .i64 v2_6))]),(.lit (.int .i64 v3))] = ob (g_enq_Goes (v0_0,v0_1,v0_2,v0_3) v1 (v2_0,v2_1,v2_2,v2_3,v2_4,v2_5,v2_6) v3) fun r => some ((.lit (.bool r)),[]) := by
  rw [xC_eq]
  unfold g_enq_Goes
  simp (maxSteps := 2000000) -implicitDefEqProofs only [xe66,xb66,xm66_0,xm66_1,xm66_2,xm66_3,xk66_0_ret,↓syP,syA,rtN,pureL,V.pure,nsh,stBk,V.kill,killL,spl,V.shift,shiftL,V.scal,scalL,intR,boolR,threeV,Nat.reduceAdd,Nat.reduceSub,Nat.reduceMul,Nat.reduceLT,Nat.reduceLeDiff,Nat.reduceEqDiff,Nat.reduceBEq,Nat.reduceBNe,Int.reduceBEq,Int.reduceBNe,Int.reduceLT,Int.reduceLE,Int.reduceAdd,Int.reduceSub,Int.reduceNeg,syQ,confV,frameV,listV,subV,arC_nil,arC_cons,xF,xcallV,xcallC,xcallL,xcallY,xevY,xY_ready,xrange,xG_fn,xR,xA,xcl21,xclk21,xcl22,xclk22,h_frame_Over,h_enq_fits]
  all_goals simp -implicitDefEqProofs only [List.map_nil]
def g_lay_Seq (v0 : (Int × Int × Int × Int)) (v1 : Int) : Option Int :=
  ob (g_lay_May (v0.1,v0.2.1,v0.2.2.1,v0.2.2.2)) fun x30 =>
  bif !x30 then
   some ((-1 : Int))
  else
   ob (g_lay_in (0 : Int) (0 : Int) (IntKind.i64.wrap (v0.1 - (1 : Int)))) fun x31 =>
   bif !x31 then
    some ((-1 : Int))
   else
    bif IntKind.u64.wrap v0.2.2.1 != (0 : Int) then
     some (IntKind.i64.wrap ((6 : Int) + IntKind.i64.wrap (v1.tmod (IntKind.u64.wrap v0.2.2.1))))
    else
     none
theorem h_lay_Seq (k : Nat) (v0_0 : Int) (v0_1 : Int) (v0_2 : Int) (v0_3 : Int) (v1 : Int) : xC (k + 12) none 73 [(.agg [(.lit (.int .i64 v0_0)),(.lit (.int .i64 v0_1)),(.lit (.int .i64 v0_2)),(.lit (.int .i64 v0_3))]),(.lit (.int .u64 v1))] = ob (g_lay_Seq (v0_0,v0_1,v0_2,v0_3) v1) fun r => some ((.lit (.int .i64 r)),[]) := by
  rw [xC_eq]
  unfold g_lay_Seq
  simp (maxSteps := 2000000) -implicitDefEqProofs only [xe73,xb73,xe90,xb90,xm90_0,xk90_0_ret,xe91,xb91,↓syP,syA,rtN,pureL,V.pure,nsh,stBk,V.kill,killL,spl,V.shift,shiftL,V.scal,scalL,intR,boolR,threeV,Nat.reduceAdd,Nat.reduceSub,Nat.reduceMul,Nat.reduceLT,Nat.reduceLeDiff,Nat.reduceEqDiff,Nat.reduceBEq,Nat.reduceBNe,Int.reduceBEq,Int.reduceBNe,Int.reduceLT,Int.reduceLE,Int.reduceAdd,Int.reduceSub,Int.reduceNeg,syQ,confV,frameV,listV,subV,arC_nil,arC_cons,xF,xcallV,xcallC,xcallL,xcallY,xevY,xY_ready,xrange,xG_fn,xR,xA,xcl21,xclk21,xcl22,xclk22,h_lay_in,h_lay_May]
  all_goals simp -implicitDefEqProofs only [List.map_nil]
def g_lay_Val (v0 : (Int × Int × Int × Int)) (v1 : Int) : Option Int :=
  ob (g_lay_May (v0.1,v0.2.1,v0.2.2.1,v0.2.2.2)) fun x36 =>
  bif !x36 then
   some ((-1 : Int))
  else
   ob (g_lay_in (0 : Int) (0 : Int) (IntKind.i64.wrap (v0.1 - (1 : Int)))) fun x37 =>
   bif !x37 then
    some ((-1 : Int))
   else
    bif IntKind.u64.wrap v0.2.2.1 != (0 : Int) then
     some (IntKind.i64.wrap (IntKind.i64.wrap ((6 : Int) + v0.2.2.1) + IntKind.i64.wrap (v1.tmod (IntKind.u64.wrap v0.2.2.1))))
    else
     none
theorem h_lay_Val (k : Nat) (v0_0 : Int) (v0_1 : Int) (v0_2 : Int) (v0_3 : Int) (v1 : Int) : xC (k + 12) none 76 [(.agg [(.lit (.int .i64 v0_0)),(.lit (.int .i64 v0_1)),(.lit (.int .i64 v0_2)),(.lit (.int .i64 v0_3))]),(.lit (.int .u64 v1))] = ob (g_lay_Val (v0_0,v0_1,v0_2,v0_3) v1) fun r => some ((.lit (.int .i64 r)),[]) := by
  rw [xC_eq]
  unfold g_lay_Val
  simp (maxSteps := 2000000) -implicitDefEqProofs only [xe76,xb76,xe90,xb90,xm90_0,xk90_0_ret,xe92,xb92,↓syP,syA,rtN,pureL,V.pure,nsh,stBk,V.kill,killL,spl,V.shift,shiftL,V.scal,scalL,intR,boolR,threeV,Nat.reduceAdd,Nat.reduceSub,Nat.reduceMul,Nat.reduceLT,Nat.reduceLeDiff,Nat.reduceEqDiff,Nat.reduceBEq,Nat.reduceBNe,Int.reduceBEq,Int.reduceBNe,Int.reduceLT,Int.reduceLE,Int.reduceAdd,Int.reduceSub,Int.reduceNeg,syQ,confV,frameV,listV,subV,arC_nil,arC_cons,xF,xcallV,xcallC,xcallL,xcallY,xevY,xY_ready,xrange,xG_fn,xR,xA,xcl21,xclk21,xcl22,xclk22,h_lay_in,h_lay_May]
  all_goals simp -implicitDefEqProofs only [List.map_nil]
def g_word_Far (v0 : Int) (v1 : Int) : Option Int :=
  some (IntKind.i64.wrap (IntKind.u64.wrap (v0 - v1)))
theorem h_word_Far (k : Nat) (v0 : Int) (v1 : Int) : xC (k + 1) none 74 [(.lit (.int .u64 v0)),(.lit (.int .u64 v1))] = ob (g_word_Far v0 v1) fun r => some ((.lit (.int .i64 r)),[]) := by
  rw [xC_eq]
  unfold g_word_Far
  simp (maxSteps := 2000000) -implicitDefEqProofs only [xe74,xb74,↓syP,syA,rtN,pureL,V.pure,nsh,stBk,V.kill,killL,spl,V.shift,shiftL,V.scal,scalL,intR,boolR,threeV,Nat.reduceAdd,Nat.reduceSub,Nat.reduceMul,Nat.reduceLT,Nat.reduceLeDiff,Nat.reduceEqDiff,Nat.reduceBEq,Nat.reduceBNe,Int.reduceBEq,Int.reduceBNe,Int.reduceLT,Int.reduceLE,Int.reduceAdd,Int.reduceSub,Int.reduceNeg,syQ,confV,frameV,listV,subV,arC_nil,arC_cons,xF,xcallV,xcallC,xcallL,xcallY,xevY,xY_ready,xrange,xG_fn,xR,xA,xcl21,xclk21,xcl22,xclk22]
  all_goals simp -implicitDefEqProofs only [List.map_nil]
def g_deq_full (v0 : (Int × Int × Int × Int)) (v1 : Int) : Option Int :=
  bif IntKind.u64.wrap v0.2.2.1 != (0 : Int) then
   some (IntKind.u64.wrap (IntKind.u64.wrap (IntKind.u64.wrap (v1.tdiv (IntKind.u64.wrap v0.2.2.1)) * (2 : Int)) + (1 : Int)))
  else
   none
theorem h_deq_full (k : Nat) (v0_0 : Int) (v0_1 : Int) (v0_2 : Int) (v0_3 : Int) (v1 : Int) : xC (k + 1) none 75 [(.agg [(.lit (.int .i64 v0_0)),(.lit (.int .i64 v0_1)),(.lit (.int .i64 v0_2)),(.lit (.int .i64 v0_3))]),(.lit (.int .u64 v1))] = ob (g_deq_full (v0_0,v0_1,v0_2,v0_3) v1) fun r => some ((.lit (.int .u64 r)),[]) := by
  rw [xC_eq]
  unfold g_deq_full
  simp (maxSteps := 2000000) -implicitDefEqProofs only [xe75,xb75,↓syP,syA,rtN,pureL,V.pure,nsh,stBk,V.kill,killL,spl,V.shift,shiftL,V.scal,scalL,intR,boolR,threeV,Nat.reduceAdd,Nat.reduceSub,Nat.reduceMul,Nat.reduceLT,Nat.reduceLeDiff,Nat.reduceEqDiff,Nat.reduceBEq,Nat.reduceBNe,Int.reduceBEq,Int.reduceBNe,Int.reduceLT,Int.reduceLE,Int.reduceAdd,Int.reduceSub,Int.reduceNeg,syQ,confV,frameV,listV,subV,arC_nil,arC_cons,xF,xcallV,xcallC,xcallL,xcallY,xevY,xY_ready,xrange,xG_fn,xR,xA,xcl21,xclk21,xcl22,xclk22]
  all_goals simp -implicitDefEqProofs only [List.map_nil]
def g_enq_Step (v0 : (Int × Int × Int × Int)) (v1 : (List Int)) (v2 : (Int × Int × Int × Int × Int × Int × Int)) : Option ((List Int) × (Int × Int × Int × Int × Int × Int × Int)) :=
  ob (g_clone (8 : Nat) v1) fun x53 =>
  ob (g_enq_Goes (v0.1,v0.2.1,v0.2.2.1,v0.2.2.2) v1 (v2.1,v2.2.1,v2.2.2.1,v2.2.2.2.1,v2.2.2.2.2.1,v2.2.2.2.2.2.1,v2.2.2.2.2.2.2) (3 : Int)) fun x54 =>
  bif !x54 then
   some ((x53),((v2.1),(v2.2.1),(v2.2.2.1),(v2.2.2.2.1),(v2.2.2.2.2.1),(v2.2.2.2.2.2.1),(v2.2.2.2.2.2.2)))
  else
   bif decide ((0 : Int) ≤ v2.2.1 ∧ v2.2.1.toNat < (5 : Nat)) then
    bif v2.2.1.toNat == (0 : Nat) then
     ob (g_cell_Load x53 (5 : Int)) fun x55 =>
     some ((x53),((v2.1),((1 : Int)),(v2.2.2.1),(v2.2.2.2.1),(x55),(v2.2.2.2.2.2.1),(v2.2.2.2.2.2.2)))
    else
     bif v2.2.1.toNat == (1 : Nat) then
      ob (g_lay_Seq (v0.1,v0.2.1,v0.2.2.1,v0.2.2.2) v2.2.2.2.2.1) fun x56 =>
      ob (g_cell_Load x53 x56) fun x57 =>
      bif IntKind.u64.wrap v0.2.2.1 != (0 : Int) then
       bif x57 == IntKind.u64.wrap (IntKind.u64.wrap (v2.2.2.2.2.1.tdiv (IntKind.u64.wrap v0.2.2.1)) * (2 : Int)) then
        some ((x53),((v2.1),((2 : Int)),(v2.2.2.1),(v2.2.2.2.1),(v2.2.2.2.2.1),(x57),(v2.2.2.2.2.2.2)))
       else
        bif IntKind.u64.wrap v0.2.2.1 != (0 : Int) then
         ob (g_word_Far x57 (IntKind.u64.wrap (IntKind.u64.wrap (v2.2.2.2.2.1.tdiv (IntKind.u64.wrap v0.2.2.1)) * (2 : Int)))) fun x58 =>
         bif decide (x58 < (0 : Int)) then
          ob (g_frame_End (v2.1,v2.2.1,v2.2.2.1,v2.2.2.2.1,v2.2.2.2.2.1,x57,v2.2.2.2.2.2.2) (2 : Int) v2.2.2.2.1) fun x59 =>
          some ((x53),((x59.fst),((0 : Int)),(x59.snd.snd.fst),(x59.snd.snd.snd.fst),(x59.snd.snd.snd.snd.fst),(x59.snd.snd.snd.snd.snd.fst),(x59.snd.snd.snd.snd.snd.snd)))
         else
          some ((x53),((v2.1),((0 : Int)),(v2.2.2.1),(v2.2.2.2.1),(v2.2.2.2.2.1),(x57),(v2.2.2.2.2.2.2)))
        else
         none
      else
       none
     else
      bif v2.2.1.toNat == (2 : Nat) then
       ob (g_cell_Cas x53 (5 : Int) v2.2.2.2.2.1 (IntKind.u64.wrap (v2.2.2.2.2.1 + (1 : Int)))) fun x60 =>
       bif x60.snd then
        some ((x60.fst),((v2.1),((3 : Int)),(v2.2.2.1),(v2.2.2.2.1),(v2.2.2.2.2.1),(v2.2.2.2.2.2.1),(v2.2.2.2.2.2.2)))
       else
        some ((x60.fst),((v2.1),((0 : Int)),(v2.2.2.1),(v2.2.2.2.1),(v2.2.2.2.2.1),(v2.2.2.2.2.2.1),(v2.2.2.2.2.2.2)))
      else
       bif v2.2.1.toNat == (3 : Nat) then
        ob (g_lay_Val (v0.1,v0.2.1,v0.2.2.1,v0.2.2.2) v2.2.2.2.2.1) fun x61 =>
        ob (g_cell_Store x53 x61 v2.2.2.2.1) fun x62 =>
        some ((x62),((v2.1),((4 : Int)),(v2.2.2.1),(v2.2.2.2.1),(v2.2.2.2.2.1),(v2.2.2.2.2.2.1),(v2.2.2.2.2.2.2)))
       else
        bif v2.2.1.toNat == (4 : Nat) then
         ob (g_lay_Seq (v0.1,v0.2.1,v0.2.2.1,v0.2.2.2) v2.2.2.2.2.1) fun x63 =>
         bif IntKind.u64.wrap v0.2.2.1 != (0 : Int) then
          ob (g_cell_Store x53 x63 (IntKind.u64.wrap (IntKind.u64.wrap (IntKind.u64.wrap (v2.2.2.2.2.1.tdiv (IntKind.u64.wrap v0.2.2.1)) * (2 : Int)) + (1 : Int)))) fun x64 =>
          ob (g_frame_End (v2.1,v2.2.1,v2.2.2.1,v2.2.2.2.1,v2.2.2.2.2.1,v2.2.2.2.2.2.1,v2.2.2.2.2.2.2) (1 : Int) v2.2.2.2.1) fun x65 =>
          some ((x64),((x65.fst),((0 : Int)),(x65.snd.snd.fst),(x65.snd.snd.snd.fst),(x65.snd.snd.snd.snd.fst),(x65.snd.snd.snd.snd.snd.fst),(x65.snd.snd.snd.snd.snd.snd)))
         else
          none
        else
         none
   else
    none
theorem h_enq_Step (k : Nat) (v0_0 : Int) (v0_1 : Int) (v0_2 : Int) (v0_3 : Int) (v1 : (List Int)) (v2_0 : Int) (v2_1 : Int) (v2_2 : Int) (v2_3 : Int) (v2_4 : Int) (v2_5 : Int) (v2_6 : Int) : xC (k + 24) none 46 [(.agg [(.lit (.int .i64 v0_0)),(.lit (.int .i64 v0_1)),(.lit (.int .i64 v0_2)),(.lit (.int .i64 v0_3))]),(.ro (List.map (intR .u64) v1)),(.agg [(.lit (.int .i64 v2_0)),(.lit (.int .i64 v2_1)),(.lit (.int .i64 v2_2)),(.lit (.int .u64 v2_3)),(.lit (.int .u64 v2_4)),(.lit (.int .u64 v2_5)),(.lit (.int .i64 v2_6))])] = ob (g_enq_Step (v0_0,v0_1,v0_2,v0_3) v1 (v2_0,v2_1,v2_2,v2_3,v2_4,v2_5,v2_6)) fun r => some ((.tup [(.ro (List.map (intR .u64) r.1)),(.agg [(.lit (.int .i64 r.2.1)),(.lit (.int .i64 r.2.2.1)),(.lit (.int .i64 r.2.2.2.1)),(.lit (.int .u64 r.2.2.2.2.1)),(.lit (.int .u64 r.2.2.2.2.2.1)),(.lit (.int .u64 r.2.2.2.2.2.2.1)),(.lit (.int .i64 r.2.2.2.2.2.2.2))])]),[]) := by
  rw [xC_eq]
  unfold g_enq_Step
  simp (maxSteps := 2000000) -implicitDefEqProofs only [xe46,xb46,xe67,xb67,xe68,xb68,xe69,xb69,xe70,xb70,xe71,xb71,xe72,xb72,xe89,xb89,↓syP,syA,rtN,pureL,V.pure,nsh,stBk,V.kill,killL,spl,V.shift,shiftL,V.scal,scalL,intR,boolR,threeV,Nat.reduceAdd,Nat.reduceSub,Nat.reduceMul,Nat.reduceLT,Nat.reduceLeDiff,Nat.reduceEqDiff,Nat.reduceBEq,Nat.reduceBNe,Int.reduceBEq,Int.reduceBNe,Int.reduceLT,Int.reduceLE,Int.reduceAdd,Int.reduceSub,Int.reduceNeg,syQ,confV,frameV,listV,subV,arC_nil,arC_cons,xF,xcallV,xcallC,xcallL,xcallY,xevY,xY_ready,xrange,xG_fn,xR,xA,xcl21,xclk21,xcl22,xclk22,h_cell_Load,h_cell_Store,h_cell_Cas,h_frame_End,h_enq_Goes,h_lay_Seq,h_lay_Val,h_word_Far]
  all_goals simp -implicitDefEqProofs only [List.map_nil]
def g_deq_Step (v0 : (Int × Int × Int × Int)) (v1 : (List Int)) (v2 : (Int × Int × Int × Int × Int × Int × Int)) : Option ((List Int) × (Int × Int × Int × Int × Int × Int × Int)) :=
  ob (g_clone (8 : Nat) v1) fun x94 =>
  ob (g_enq_Goes (v0.1,v0.2.1,v0.2.2.1,v0.2.2.2) v1 (v2.1,v2.2.1,v2.2.2.1,v2.2.2.2.1,v2.2.2.2.2.1,v2.2.2.2.2.2.1,v2.2.2.2.2.2.2) (4 : Int)) fun x95 =>
  bif !x95 then
   some ((x94),((v2.1),(v2.2.1),(v2.2.2.1),(v2.2.2.2.1),(v2.2.2.2.2.1),(v2.2.2.2.2.2.1),(v2.2.2.2.2.2.2)))
  else
   bif v2.2.1 == (0 : Int) then
    ob (g_cell_Load x94 (4 : Int)) fun x96 =>
    some ((x94),((v2.1),((1 : Int)),(v2.2.2.1),(v2.2.2.2.1),(x96),(v2.2.2.2.2.2.1),(v2.2.2.2.2.2.2)))
   else
    bif v2.2.1 == (1 : Int) then
     ob (g_lay_Seq (v0.1,v0.2.1,v0.2.2.1,v0.2.2.2) v2.2.2.2.2.1) fun x97 =>
     ob (g_cell_Load x94 x97) fun x98 =>
     ob (g_deq_full (v0.1,v0.2.1,v0.2.2.1,v0.2.2.2) v2.2.2.2.2.1) fun x99 =>
     ob (g_word_Far x98 x99) fun x100 =>
     bif x100 == (0 : Int) then
      some ((x94),((v2.1),((2 : Int)),(v2.2.2.1),(v2.2.2.2.1),(v2.2.2.2.2.1),(x98),(v2.2.2.2.2.2.2)))
     else
      bif decide (x100 < (0 : Int)) then
       ob (g_frame_End (v2.1,(0 : Int),v2.2.2.1,v2.2.2.2.1,v2.2.2.2.2.1,x98,v2.2.2.2.2.2.2) (3 : Int) (0 : Int)) fun x101 =>
       some ((x94),((x101.fst),(x101.snd.fst),(x101.snd.snd.fst),(x101.snd.snd.snd.fst),(x101.snd.snd.snd.snd.fst),(x101.snd.snd.snd.snd.snd.fst),(x101.snd.snd.snd.snd.snd.snd)))
      else
       some ((x94),((v2.1),((0 : Int)),(v2.2.2.1),(v2.2.2.2.1),(v2.2.2.2.2.1),(x98),(v2.2.2.2.2.2.2)))
    else
     bif v2.2.1 == (2 : Int) then
      ob (g_cell_Cas x94 (4 : Int) v2.2.2.2.2.1 (IntKind.u64.wrap (v2.2.2.2.2.1 + (1 : Int)))) fun x102 =>
      bif x102.snd then
       some ((x102.fst),((v2.1),((3 : Int)),(v2.2.2.1),(v2.2.2.2.1),(v2.2.2.2.2.1),(v2.2.2.2.2.2.1),(v2.2.2.2.2.2.2)))
      else
       some ((x102.fst),((v2.1),((0 : Int)),(v2.2.2.1),(v2.2.2.2.1),(v2.2.2.2.2.1),(v2.2.2.2.2.2.1),(v2.2.2.2.2.2.2)))
     else
      bif v2.2.1 == (3 : Int) then
       ob (g_lay_Val (v0.1,v0.2.1,v0.2.2.1,v0.2.2.2) v2.2.2.2.2.1) fun x103 =>
       ob (g_cell_Load x94 x103) fun x104 =>
       some ((x94),((v2.1),((4 : Int)),(v2.2.2.1),(x104),(v2.2.2.2.2.1),(v2.2.2.2.2.2.1),(v2.2.2.2.2.2.2)))
      else
       ob (g_lay_Seq (v0.1,v0.2.1,v0.2.2.1,v0.2.2.2) v2.2.2.2.2.1) fun x105 =>
       ob (g_deq_full (v0.1,v0.2.1,v0.2.2.1,v0.2.2.2) v2.2.2.2.2.1) fun x106 =>
       ob (g_cell_Store x94 x105 (IntKind.u64.wrap (x106 + (1 : Int)))) fun x107 =>
       ob (g_frame_End (v2.1,v2.2.1,v2.2.2.1,v2.2.2.2.1,v2.2.2.2.2.1,v2.2.2.2.2.2.1,v2.2.2.2.2.2.2) (1 : Int) v2.2.2.2.1) fun x108 =>
       some ((x107),((x108.fst),(x108.snd.fst),(x108.snd.snd.fst),(x108.snd.snd.snd.fst),(x108.snd.snd.snd.snd.fst),(x108.snd.snd.snd.snd.snd.fst),(x108.snd.snd.snd.snd.snd.snd)))
theorem h_deq_Step (k : Nat) (v0_0 : Int) (v0_1 : Int) (v0_2 : Int) (v0_3 : Int) (v1 : (List Int)) (v2_0 : Int) (v2_1 : Int) (v2_2 : Int) (v2_3 : Int) (v2_4 : Int) (v2_5 : Int) (v2_6 : Int) : xC (k + 13) none 47 [(.agg [(.lit (.int .i64 v0_0)),(.lit (.int .i64 v0_1)),(.lit (.int .i64 v0_2)),(.lit (.int .i64 v0_3))]),(.ro (List.map (intR .u64) v1)),(.agg [(.lit (.int .i64 v2_0)),(.lit (.int .i64 v2_1)),(.lit (.int .i64 v2_2)),(.lit (.int .u64 v2_3)),(.lit (.int .u64 v2_4)),(.lit (.int .u64 v2_5)),(.lit (.int .i64 v2_6))])] = ob (g_deq_Step (v0_0,v0_1,v0_2,v0_3) v1 (v2_0,v2_1,v2_2,v2_3,v2_4,v2_5,v2_6)) fun r => some ((.tup [(.ro (List.map (intR .u64) r.1)),(.agg [(.lit (.int .i64 r.2.1)),(.lit (.int .i64 r.2.2.1)),(.lit (.int .i64 r.2.2.2.1)),(.lit (.int .u64 r.2.2.2.2.1)),(.lit (.int .u64 r.2.2.2.2.2.1)),(.lit (.int .u64 r.2.2.2.2.2.2.1)),(.lit (.int .i64 r.2.2.2.2.2.2.2))])]),[]) := by
  rw [xC_eq]
  unfold g_deq_Step
  simp (maxSteps := 2000000) -implicitDefEqProofs only [xe47,xb47,xj47_0,xk47_0_ret,↓syP,syA,rtN,pureL,V.pure,nsh,stBk,V.kill,killL,spl,V.shift,shiftL,V.scal,scalL,intR,boolR,threeV,Nat.reduceAdd,Nat.reduceSub,Nat.reduceMul,Nat.reduceLT,Nat.reduceLeDiff,Nat.reduceEqDiff,Nat.reduceBEq,Nat.reduceBNe,Int.reduceBEq,Int.reduceBNe,Int.reduceLT,Int.reduceLE,Int.reduceAdd,Int.reduceSub,Int.reduceNeg,syQ,confV,frameV,listV,subV,arC_nil,arC_cons,xF,xcallV,xcallC,xcallL,xcallY,xevY,xY_ready,xrange,xG_fn,xR,xA,xcl21,xclk21,xcl22,xclk22,h_cell_Load,h_cell_Store,h_cell_Cas,h_frame_End,h_enq_Goes,h_lay_Seq,h_lay_Val,h_word_Far,h_deq_full]
  all_goals simp -implicitDefEqProofs only [List.map_nil]
def g_inject_Step (v0 : (Int × Int × Int × Int)) (v1 : (List Int)) (v2 : (Int × Int × Int × Int × Int × Int × Int)) : Option ((List Int) × (Int × Int × Int × Int × Int × Int × Int)) :=
  bif v2.1 == (3 : Int) then
   ob (g_enq_Step (v0.1,v0.2.1,v0.2.2.1,v0.2.2.2) v1 (v2.1,v2.2.1,v2.2.2.1,v2.2.2.2.1,v2.2.2.2.2.1,v2.2.2.2.2.2.1,v2.2.2.2.2.2.2)) fun x127 =>
   some ((x127.fst),((x127.snd.fst),(x127.snd.snd.fst),(x127.snd.snd.snd.fst),(x127.snd.snd.snd.snd.fst),(x127.snd.snd.snd.snd.snd.fst),(x127.snd.snd.snd.snd.snd.snd.fst),(x127.snd.snd.snd.snd.snd.snd.snd)))
  else
   bif v2.1 == (4 : Int) then
    ob (g_deq_Step (v0.1,v0.2.1,v0.2.2.1,v0.2.2.2) v1 (v2.1,v2.2.1,v2.2.2.1,v2.2.2.2.1,v2.2.2.2.2.1,v2.2.2.2.2.2.1,v2.2.2.2.2.2.2)) fun x128 =>
    some ((x128.fst),((x128.snd.fst),(x128.snd.snd.fst),(x128.snd.snd.snd.fst),(x128.snd.snd.snd.snd.fst),(x128.snd.snd.snd.snd.snd.fst),(x128.snd.snd.snd.snd.snd.snd.fst),(x128.snd.snd.snd.snd.snd.snd.snd)))
   else
    ob (g_clone (8 : Nat) v1) fun x129 =>
    some ((x129),((v2.1),(v2.2.1),(v2.2.2.1),(v2.2.2.2.1),(v2.2.2.2.2.1),(v2.2.2.2.2.2.1),(v2.2.2.2.2.2.2)))
theorem h_inject_Step (k : Nat) (v0_0 : Int) (v0_1 : Int) (v0_2 : Int) (v0_3 : Int) (v1 : (List Int)) (v2_0 : Int) (v2_1 : Int) (v2_2 : Int) (v2_3 : Int) (v2_4 : Int) (v2_5 : Int) (v2_6 : Int) : xC (k + 26) none 27 [(.agg [(.lit (.int .i64 v0_0)),(.lit (.int .i64 v0_1)),(.lit (.int .i64 v0_2)),(.lit (.int .i64 v0_3))]),(.ro (List.map (intR .u64) v1)),(.agg [(.lit (.int .i64 v2_0)),(.lit (.int .i64 v2_1)),(.lit (.int .i64 v2_2)),(.lit (.int .u64 v2_3)),(.lit (.int .u64 v2_4)),(.lit (.int .u64 v2_5)),(.lit (.int .i64 v2_6))])] = ob (g_inject_Step (v0_0,v0_1,v0_2,v0_3) v1 (v2_0,v2_1,v2_2,v2_3,v2_4,v2_5,v2_6)) fun r => some ((.tup [(.ro (List.map (intR .u64) r.1)),(.agg [(.lit (.int .i64 r.2.1)),(.lit (.int .i64 r.2.2.1)),(.lit (.int .i64 r.2.2.2.1)),(.lit (.int .u64 r.2.2.2.2.1)),(.lit (.int .u64 r.2.2.2.2.2.1)),(.lit (.int .u64 r.2.2.2.2.2.2.1)),(.lit (.int .i64 r.2.2.2.2.2.2.2))])]),[]) := by
  rw [xC_eq]
  unfold g_inject_Step
  simp (maxSteps := 2000000) -implicitDefEqProofs only [xe27,xb27,↓syP,syA,rtN,pureL,V.pure,nsh,stBk,V.kill,killL,spl,V.shift,shiftL,V.scal,scalL,intR,boolR,threeV,Nat.reduceAdd,Nat.reduceSub,Nat.reduceMul,Nat.reduceLT,Nat.reduceLeDiff,Nat.reduceEqDiff,Nat.reduceBEq,Nat.reduceBNe,Int.reduceBEq,Int.reduceBNe,Int.reduceLT,Int.reduceLE,Int.reduceAdd,Int.reduceSub,Int.reduceNeg,syQ,confV,frameV,listV,subV,arC_nil,arC_cons,xF,xcallV,xcallC,xcallL,xcallY,xevY,xY_ready,xrange,xG_fn,xR,xA,xcl21,xclk21,xcl22,xclk22,h_enq_Step,h_deq_Step]
  all_goals simp -implicitDefEqProofs only [List.map_nil]
end Go.Ab
