/- Functions as they are walked: printed by Walk.lean. -/
import Derived.Test.YtcahlnoianbndaaR4GE
import Derived.Test.YtcahlnoianbndaaR4B5
set_option linter.unusedVariables false
set_option linter.unusedSimpArgs false
set_option maxRecDepth 100000
set_option linter.unusedVariables false
set_option linter.unusedSimpArgs false
namespace Go.Ab
open Go.Proofs
def g_submit_May (k : Nat) (v0 : (Int × Int × Int × Int)) (v1 : (List (Int × List Int))) (v2 : (List Int)) (v3 : (Int × List Int × Int × Int × Int × Int × Int × Int × Int)) : Option Bool :=
  ob (g_lay_May (v0.1,v0.2.1,v0.2.2.1,v0.2.2.2)) fun x6 =>
  bif x6 then
   ob (g_lay_Size (v0.1,v0.2.1,v0.2.2.1,v0.2.2.2)) fun x7 =>
   bif (↑v2.length : Int) == x7 then
    ob (g_forest_May (k + (4 : Nat)) v1) fun x8 =>
    bif x8 then
     bif decide ((0 : Int) ≤ v3.1) then
      bif decide (v3.1 < (6 : Int)) then
       bif decide ((0 : Int) < (↑v3.2.1.length : Int)) then
        ob (idx v3.2.1 (0 : Int)) fun x9 =>
        bif decide ((0 : Int) ≤ x9) then
         ob (idx v3.2.1 (0 : Int)) fun x10 =>
         some (decide (x10 < (↑v1.length : Int)))
        else
         some (false)
       else
        some (false)
      else
       some (false)
     else
      some (false)
    else
     some (false)
   else
    some (false)
  else
   some (false)
theorem h_submit_May (k : Nat) (v0_0 : Int) (v0_1 : Int) (v0_2 : Int) (v0_3 : Int) (v1 : (List (Int × List Int))) (v2 : (List Int)) (v3_0 : Int) (v3_1 : (List Int)) (v3_2_0 : Int) (v3_2_1 : Int) (v3_2_2 : Int) (v3_2_3 : Int) (v3_2_4 : Int) (v3_2_5 : Int) (v3_2_6 : Int) : xC (k + 24) none 11 [(.agg [(.lit (.int .i64 v0_0)),(.lit (.int .i64 v0_1)),(.lit (.int .i64 v0_2)),(.lit (.int .i64 v0_3))]),(.ro (List.map taskV v1)),(.ro (List.map (intR .u64) v2)),(.agg [(.lit (.int .i64 v3_0)),(.ro (List.map (intR .i64) v3_1)),(.lit (.int .i64 v3_2_0)),(.lit (.int .i64 v3_2_1)),(.lit (.int .i64 v3_2_2)),(.lit (.int .u64 v3_2_3)),(.lit (.int .u64 v3_2_4)),(.lit (.int .u64 v3_2_5)),(.lit (.int .i64 v3_2_6))])] = ob (g_submit_May k (v0_0,v0_1,v0_2,v0_3) v1 v2 (v3_0,v3_1,(v3_2_0,v3_2_1,v3_2_2,v3_2_3,v3_2_4,v3_2_5,v3_2_6))) fun r => some ((.lit (.bool r)),[]) := by
  rw [xC_eq]
  unfold g_submit_May
  simp (maxSteps := 2000000) -implicitDefEqProofs only [xe11,xb11,xm11_0,xm11_1,xm11_2,xm11_3,xm11_4,xm11_5,xm11_6,xk11_0_ret,↓syP,syA,rtN,pureL,V.pure,nsh,stBk,V.kill,killL,spl,V.shift,shiftL,V.scal,scalL,intR,boolR,threeV,Nat.reduceAdd,Nat.reduceSub,Nat.reduceMul,Nat.reduceLT,Nat.reduceLeDiff,Nat.reduceEqDiff,Nat.reduceBEq,Nat.reduceBNe,Int.reduceBEq,Int.reduceBNe,Int.reduceLT,Int.reduceLE,Int.reduceAdd,Int.reduceSub,Int.reduceNeg,syQ,confV,frameV,listV,subV,arC_nil,arC_cons,xF,xcallV,xcallC,xcallL,xcallY,xevY,xY_ready,xrange,xG_fn,xR,xA,xcl21,xclk21,xcl22,xclk22,h_forest_May,h_lay_May,h_lay_Size]
  all_goals simp -implicitDefEqProofs only [List.map_nil]
def g_submit_Busy (v0 : (Int × List Int × Int × Int × Int × Int × Int × Int × Int)) : Option Bool :=
  some (v0.1 != (0 : Int))
theorem h_submit_Busy (k : Nat) (v0_0 : Int) (v0_1 : (List Int)) (v0_2_0 : Int) (v0_2_1 : Int) (v0_2_2 : Int) (v0_2_3 : Int) (v0_2_4 : Int) (v0_2_5 : Int) (v0_2_6 : Int) : xC (k + 1) none 13 [(.agg [(.lit (.int .i64 v0_0)),(.ro (List.map (intR .i64) v0_1)),(.lit (.int .i64 v0_2_0)),(.lit (.int .i64 v0_2_1)),(.lit (.int .i64 v0_2_2)),(.lit (.int .u64 v0_2_3)),(.lit (.int .u64 v0_2_4)),(.lit (.int .u64 v0_2_5)),(.lit (.int .i64 v0_2_6))])] = ob (g_submit_Busy (v0_0,v0_1,(v0_2_0,v0_2_1,v0_2_2,v0_2_3,v0_2_4,v0_2_5,v0_2_6))) fun r => some ((.lit (.bool r)),[]) := by
  rw [xC_eq]
  unfold g_submit_Busy
  simp (maxSteps := 2000000) -implicitDefEqProofs only [xe13,xb13,↓syP,syA,rtN,pureL,V.pure,nsh,stBk,V.kill,killL,spl,V.shift,shiftL,V.scal,scalL,intR,boolR,threeV,Nat.reduceAdd,Nat.reduceSub,Nat.reduceMul,Nat.reduceLT,Nat.reduceLeDiff,Nat.reduceEqDiff,Nat.reduceBEq,Nat.reduceBNe,Int.reduceBEq,Int.reduceBNe,Int.reduceLT,Int.reduceLE,Int.reduceAdd,Int.reduceSub,Int.reduceNeg,syQ,confV,frameV,listV,subV,arC_nil,arC_cons,xF,xcallV,xcallC,xcallL,xcallY,xevY,xY_ready,xrange,xG_fn,xR,xA,xcl21,xclk21,xcl22,xclk22]
  all_goals simp -implicitDefEqProofs only [List.map_nil]
def g_submit_New (v0 : (List Int)) : Option (Int × List Int × Int × Int × Int × Int × Int × Int × Int) :=
  ob (g_clone (8 : Nat) v0) fun x31 =>
  some (((0 : Int)),(x31),(((0 : Int)),((0 : Int)),((0 : Int)),((0 : Int)),((0 : Int)),((0 : Int)),((0 : Int))))
theorem h_submit_New (k : Nat) (v0 : (List Int)) : xC (k + 2) none 16 [(.ro (List.map (intR .i64) v0))] = ob (g_submit_New v0) fun r => some ((.agg [(.lit (.int .i64 r.1)),(.ro (List.map (intR .i64) r.2.1)),(.lit (.int .i64 r.2.2.1)),(.lit (.int .i64 r.2.2.2.1)),(.lit (.int .i64 r.2.2.2.2.1)),(.lit (.int .u64 r.2.2.2.2.2.1)),(.lit (.int .u64 r.2.2.2.2.2.2.1)),(.lit (.int .u64 r.2.2.2.2.2.2.2.1)),(.lit (.int .i64 r.2.2.2.2.2.2.2.2))]),[]) := by
  rw [xC_eq]
  unfold g_submit_New
  simp (maxSteps := 2000000) -implicitDefEqProofs only [xe16,xb16,↓syP,syA,rtN,pureL,V.pure,nsh,stBk,V.kill,killL,spl,V.shift,shiftL,V.scal,scalL,intR,boolR,threeV,Nat.reduceAdd,Nat.reduceSub,Nat.reduceMul,Nat.reduceLT,Nat.reduceLeDiff,Nat.reduceEqDiff,Nat.reduceBEq,Nat.reduceBNe,Int.reduceBEq,Int.reduceBNe,Int.reduceLT,Int.reduceLE,Int.reduceAdd,Int.reduceSub,Int.reduceNeg,syQ,confV,frameV,listV,subV,arC_nil,arC_cons,xF,xcallV,xcallC,xcallL,xcallY,xevY,xY_ready,xrange,xG_fn,xR,xA,xcl21,xclk21,xcl22,xclk22]
  all_goals simp -implicitDefEqProofs only [List.map_nil]
def g_submit_Step (k : Nat) (v0 : (Int × Int × Int × Int)) (v1 : (List (Int × List Int))) (v2 : (List Int)) (v3 : Int) (v4 : (Int × List Int × Int × Int × Int × Int × Int × Int × Int)) : Option ((List Int) × (Int × List Int × Int × Int × Int × Int × Int × Int × Int) × (List (Int × Int × Int))) :=
  ob (g_clone (8 : Nat) v2) fun x55 =>
  ob (g_clone (8 : Nat) v4.2.1) fun x56 =>
  ob (g_submit_May (k + (15 : Nat)) (v0.1,v0.2.1,v0.2.2.1,v0.2.2.2) v1 v2 (v4.1,v4.2.1,v4.2.2.1,v4.2.2.2.1,v4.2.2.2.2.1,v4.2.2.2.2.2.1,v4.2.2.2.2.2.2.1,v4.2.2.2.2.2.2.2.1,v4.2.2.2.2.2.2.2.2)) fun x57 =>
  bif !x57 then
   some ((x55),((v4.1),(x56),((v4.2.2.1),(v4.2.2.2.1),(v4.2.2.2.2.1),(v4.2.2.2.2.2.1),(v4.2.2.2.2.2.2.1),(v4.2.2.2.2.2.2.2.1),(v4.2.2.2.2.2.2.2.2))),[])
  else
   ob (idx x56 (0 : Int)) fun x58 =>
   bif v4.1 == (0 : Int) then
    ob (g_cell_Load x55 (3 : Int)) fun x59 =>
    bif x59 != (0 : Int) then
     bif room (1 : Nat) (24 : Nat) then
      bif decide ((1 : Int) ≤ (↑x56.length : Int)) then
       some ((x55),(((0 : Int)),(List.drop (Int.toNat (1 : Int)) x56),(((0 : Int)),((0 : Int)),((0 : Int)),((0 : Int)),((0 : Int)),((0 : Int)),((0 : Int)))),([((1 : Int),x58,v3)]))
      else
       none
     else
      none
    else
     some ((x55),(((1 : Int)),(x56),((v4.2.2.1),(v4.2.2.2.1),(v4.2.2.2.2.1),(v4.2.2.2.2.2.1),(v4.2.2.2.2.2.2.1),(v4.2.2.2.2.2.2.2.1),(v4.2.2.2.2.2.2.2.2))),[])
   else
    bif v4.1 == (1 : Int) then
     ob (g_cell_Add x55 (0 : Int) (1 : Int)) fun x60 =>
     ob (g_frame_Begin (3 : Int) v3 (IntKind.u64.wrap x58)) fun x61 =>
     some ((x60.fst),(((2 : Int)),(x56),((x61.fst),(x61.snd.fst),(x61.snd.snd.fst),(x61.snd.snd.snd.fst),(x61.snd.snd.snd.snd.fst),(x61.snd.snd.snd.snd.snd.fst),(x61.snd.snd.snd.snd.snd.snd))),[])
    else
     bif v4.1 == (2 : Int) then
      bif v4.2.2.1 == (3 : Int) then
       ob (g_inject_Step (v0.1,v0.2.1,v0.2.2.1,v0.2.2.2) x55 (v4.2.2.1,v4.2.2.2.1,v4.2.2.2.2.1,v4.2.2.2.2.2.1,v4.2.2.2.2.2.2.1,v4.2.2.2.2.2.2.2.1,v4.2.2.2.2.2.2.2.2)) fun x62 =>
       ob (g_frame_Over (x62.snd.fst,x62.snd.snd.fst,x62.snd.snd.snd.fst,x62.snd.snd.snd.snd.fst,x62.snd.snd.snd.snd.snd.fst,x62.snd.snd.snd.snd.snd.snd.fst,x62.snd.snd.snd.snd.snd.snd.snd)) fun x63 =>
       bif !x63 then
        some ((x62.fst),((v4.1),(x56),((x62.snd.fst),(x62.snd.snd.fst),(x62.snd.snd.snd.fst),(x62.snd.snd.snd.snd.fst),(x62.snd.snd.snd.snd.snd.fst),(x62.snd.snd.snd.snd.snd.snd.fst),(x62.snd.snd.snd.snd.snd.snd.snd))),[])
       else
        bif x62.snd.snd.snd.snd.snd.snd.snd != (2 : Int) then
         bif room (1 : Nat) (24 : Nat) then
          some ((x62.fst),(((3 : Int)),(x56),((x62.snd.fst),(x62.snd.snd.fst),(x62.snd.snd.snd.fst),(x62.snd.snd.snd.snd.fst),(x62.snd.snd.snd.snd.snd.fst),(x62.snd.snd.snd.snd.snd.snd.fst),(x62.snd.snd.snd.snd.snd.snd.snd))),([((0 : Int),x58,v3)]))
         else
          none
        else
         some ((x62.fst),(((5 : Int)),(x56),((x62.snd.fst),(x62.snd.snd.fst),(x62.snd.snd.snd.fst),(x62.snd.snd.snd.snd.fst),(x62.snd.snd.snd.snd.snd.fst),(x62.snd.snd.snd.snd.snd.snd.fst),(x62.snd.snd.snd.snd.snd.snd.snd))),[])
      else
       bif v4.2.2.1 == (4 : Int) then
        ob (g_inject_Step (v0.1,v0.2.1,v0.2.2.1,v0.2.2.2) x55 (v4.2.2.1,v4.2.2.2.1,v4.2.2.2.2.1,v4.2.2.2.2.2.1,v4.2.2.2.2.2.2.1,v4.2.2.2.2.2.2.2.1,v4.2.2.2.2.2.2.2.2)) fun x64 =>
        ob (g_frame_Over (x64.snd.fst,x64.snd.snd.fst,x64.snd.snd.snd.fst,x64.snd.snd.snd.snd.fst,x64.snd.snd.snd.snd.snd.fst,x64.snd.snd.snd.snd.snd.snd.fst,x64.snd.snd.snd.snd.snd.snd.snd)) fun x65 =>
        bif !x65 then
         some ((x64.fst),((v4.1),(x56),((x64.snd.fst),(x64.snd.snd.fst),(x64.snd.snd.snd.fst),(x64.snd.snd.snd.snd.fst),(x64.snd.snd.snd.snd.snd.fst),(x64.snd.snd.snd.snd.snd.snd.fst),(x64.snd.snd.snd.snd.snd.snd.snd))),[])
        else
         bif x64.snd.snd.snd.snd.snd.snd.snd != (2 : Int) then
          bif room (1 : Nat) (24 : Nat) then
           some ((x64.fst),(((3 : Int)),(x56),((x64.snd.fst),(x64.snd.snd.fst),(x64.snd.snd.snd.fst),(x64.snd.snd.snd.snd.fst),(x64.snd.snd.snd.snd.snd.fst),(x64.snd.snd.snd.snd.snd.snd.fst),(x64.snd.snd.snd.snd.snd.snd.snd))),([((0 : Int),x58,v3)]))
          else
           none
         else
          some ((x64.fst),(((5 : Int)),(x56),((x64.snd.fst),(x64.snd.snd.fst),(x64.snd.snd.snd.fst),(x64.snd.snd.snd.snd.fst),(x64.snd.snd.snd.snd.snd.fst),(x64.snd.snd.snd.snd.snd.snd.fst),(x64.snd.snd.snd.snd.snd.snd.snd))),[])
       else
        ob (g_event_Step (k + (20 : Nat)) (v0.1,v0.2.1,v0.2.2.1,v0.2.2.2) x55 (v4.2.2.1,v4.2.2.2.1,v4.2.2.2.2.1,v4.2.2.2.2.2.1,v4.2.2.2.2.2.2.1,v4.2.2.2.2.2.2.2.1,v4.2.2.2.2.2.2.2.2)) fun x66 =>
        ob (g_frame_Over (x66.snd.fst,x66.snd.snd.fst,x66.snd.snd.snd.fst,x66.snd.snd.snd.snd.fst,x66.snd.snd.snd.snd.snd.fst,x66.snd.snd.snd.snd.snd.snd.fst,x66.snd.snd.snd.snd.snd.snd.snd)) fun x67 =>
        bif !x67 then
         some ((x66.fst),((v4.1),(x56),((x66.snd.fst),(x66.snd.snd.fst),(x66.snd.snd.snd.fst),(x66.snd.snd.snd.snd.fst),(x66.snd.snd.snd.snd.snd.fst),(x66.snd.snd.snd.snd.snd.snd.fst),(x66.snd.snd.snd.snd.snd.snd.snd))),[])
        else
         bif x66.snd.snd.snd.snd.snd.snd.snd != (2 : Int) then
          bif room (1 : Nat) (24 : Nat) then
           some ((x66.fst),(((3 : Int)),(x56),((x66.snd.fst),(x66.snd.snd.fst),(x66.snd.snd.snd.fst),(x66.snd.snd.snd.snd.fst),(x66.snd.snd.snd.snd.snd.fst),(x66.snd.snd.snd.snd.snd.snd.fst),(x66.snd.snd.snd.snd.snd.snd.snd))),([((0 : Int),x58,v3)]))
          else
           none
         else
          some ((x66.fst),(((5 : Int)),(x56),((x66.snd.fst),(x66.snd.snd.fst),(x66.snd.snd.snd.fst),(x66.snd.snd.snd.snd.fst),(x66.snd.snd.snd.snd.snd.fst),(x66.snd.snd.snd.snd.snd.snd.fst),(x66.snd.snd.snd.snd.snd.snd.snd))),[])
     else
      bif v4.1 == (3 : Int) then
       ob (g_cell_Load x55 (1 : Int)) fun x68 =>
       bif x68 != (0 : Int) then
        bif decide ((1 : Int) ≤ (↑x56.length : Int)) then
         some ((x55),(((0 : Int)),(List.drop (Int.toNat (1 : Int)) x56),(((0 : Int)),((0 : Int)),((0 : Int)),((0 : Int)),((0 : Int)),((0 : Int)),((0 : Int)))),[])
        else
         none
       else
        ob (g_frame_Begin (6 : Int) v3 (0 : Int)) fun x69 =>
        some ((x55),(((4 : Int)),(x56),((x69.fst),(x69.snd.fst),(x69.snd.snd.fst),(x69.snd.snd.snd.fst),(x69.snd.snd.snd.snd.fst),(x69.snd.snd.snd.snd.snd.fst),(x69.snd.snd.snd.snd.snd.snd))),[])
      else
       bif v4.1 == (4 : Int) then
        bif v4.2.2.1 == (3 : Int) then
         ob (g_inject_Step (v0.1,v0.2.1,v0.2.2.1,v0.2.2.2) x55 (v4.2.2.1,v4.2.2.2.1,v4.2.2.2.2.1,v4.2.2.2.2.2.1,v4.2.2.2.2.2.2.1,v4.2.2.2.2.2.2.2.1,v4.2.2.2.2.2.2.2.2)) fun x70 =>
         ob (g_frame_Over (x70.snd.fst,x70.snd.snd.fst,x70.snd.snd.snd.fst,x70.snd.snd.snd.snd.fst,x70.snd.snd.snd.snd.snd.fst,x70.snd.snd.snd.snd.snd.snd.fst,x70.snd.snd.snd.snd.snd.snd.snd)) fun x71 =>
         bif x71 then
          bif decide ((1 : Int) ≤ (↑x56.length : Int)) then
           some ((x70.fst),(((0 : Int)),(List.drop (Int.toNat (1 : Int)) x56),(((0 : Int)),((0 : Int)),((0 : Int)),((0 : Int)),((0 : Int)),((0 : Int)),((0 : Int)))),[])
          else
           none
         else
          some ((x70.fst),((v4.1),(x56),((x70.snd.fst),(x70.snd.snd.fst),(x70.snd.snd.snd.fst),(x70.snd.snd.snd.snd.fst),(x70.snd.snd.snd.snd.snd.fst),(x70.snd.snd.snd.snd.snd.snd.fst),(x70.snd.snd.snd.snd.snd.snd.snd))),[])
        else
         bif v4.2.2.1 == (4 : Int) then
          ob (g_inject_Step (v0.1,v0.2.1,v0.2.2.1,v0.2.2.2) x55 (v4.2.2.1,v4.2.2.2.1,v4.2.2.2.2.1,v4.2.2.2.2.2.1,v4.2.2.2.2.2.2.1,v4.2.2.2.2.2.2.2.1,v4.2.2.2.2.2.2.2.2)) fun x72 =>
          ob (g_frame_Over (x72.snd.fst,x72.snd.snd.fst,x72.snd.snd.snd.fst,x72.snd.snd.snd.snd.fst,x72.snd.snd.snd.snd.snd.fst,x72.snd.snd.snd.snd.snd.snd.fst,x72.snd.snd.snd.snd.snd.snd.snd)) fun x73 =>
          bif x73 then
           bif decide ((1 : Int) ≤ (↑x56.length : Int)) then
            some ((x72.fst),(((0 : Int)),(List.drop (Int.toNat (1 : Int)) x56),(((0 : Int)),((0 : Int)),((0 : Int)),((0 : Int)),((0 : Int)),((0 : Int)),((0 : Int)))),[])
           else
            none
          else
           some ((x72.fst),((v4.1),(x56),((x72.snd.fst),(x72.snd.snd.fst),(x72.snd.snd.snd.fst),(x72.snd.snd.snd.snd.fst),(x72.snd.snd.snd.snd.snd.fst),(x72.snd.snd.snd.snd.snd.snd.fst),(x72.snd.snd.snd.snd.snd.snd.snd))),[])
         else
          ob (g_event_Step (k + (20 : Nat)) (v0.1,v0.2.1,v0.2.2.1,v0.2.2.2) x55 (v4.2.2.1,v4.2.2.2.1,v4.2.2.2.2.1,v4.2.2.2.2.2.1,v4.2.2.2.2.2.2.1,v4.2.2.2.2.2.2.2.1,v4.2.2.2.2.2.2.2.2)) fun x74 =>
          ob (g_frame_Over (x74.snd.fst,x74.snd.snd.fst,x74.snd.snd.snd.fst,x74.snd.snd.snd.snd.fst,x74.snd.snd.snd.snd.snd.fst,x74.snd.snd.snd.snd.snd.snd.fst,x74.snd.snd.snd.snd.snd.snd.snd)) fun x75 =>
          bif x75 then
           bif decide ((1 : Int) ≤ (↑x56.length : Int)) then
            some ((x74.fst),(((0 : Int)),(List.drop (Int.toNat (1 : Int)) x56),(((0 : Int)),((0 : Int)),((0 : Int)),((0 : Int)),((0 : Int)),((0 : Int)),((0 : Int)))),[])
           else
            none
          else
           some ((x74.fst),((v4.1),(x56),((x74.snd.fst),(x74.snd.snd.fst),(x74.snd.snd.snd.fst),(x74.snd.snd.snd.snd.fst),(x74.snd.snd.snd.snd.snd.fst),(x74.snd.snd.snd.snd.snd.snd.fst),(x74.snd.snd.snd.snd.snd.snd.snd))),[])
       else
        bif v4.1 == (5 : Int) then
         ob (g_cell_Add x55 (0 : Int) (18446744073709551615 : Int)) fun x76 =>
         bif room (1 : Nat) (24 : Nat) then
          bif x76.snd == (1 : Int) then
           bif room (2 : Nat) (24 : Nat) then
            bif decide ((1 : Int) ≤ (↑x56.length : Int)) then
             some ((x76.fst),(((0 : Int)),(List.drop (Int.toNat (1 : Int)) x56),(((0 : Int)),((0 : Int)),((0 : Int)),((0 : Int)),((0 : Int)),((0 : Int)),((0 : Int)))),([((1 : Int),x58,v3),((5 : Int),(0 : Int),v3)]))
            else
             none
           else
            none
          else
           bif decide ((1 : Int) ≤ (↑x56.length : Int)) then
            some ((x76.fst),(((0 : Int)),(List.drop (Int.toNat (1 : Int)) x56),(((0 : Int)),((0 : Int)),((0 : Int)),((0 : Int)),((0 : Int)),((0 : Int)),((0 : Int)))),([((1 : Int),x58,v3)]))
           else
            none
         else
          none
        else
         none
theorem h_submit_Step (k : Nat) (v0_0 : Int) (v0_1 : Int) (v0_2 : Int) (v0_3 : Int) (v1 : (List (Int × List Int))) (v2 : (List Int)) (v3 : Int) (v4_0 : Int) (v4_1 : (List Int)) (v4_2_0 : Int) (v4_2_1 : Int) (v4_2_2 : Int) (v4_2_3 : Int) (v4_2_4 : Int) (v4_2_5 : Int) (v4_2_6 : Int) : xC (k + 40) none 10 [(.agg [(.lit (.int .i64 v0_0)),(.lit (.int .i64 v0_1)),(.lit (.int .i64 v0_2)),(.lit (.int .i64 v0_3))]),(.ro (List.map taskV v1)),(.ro (List.map (intR .u64) v2)),(.lit (.int .i64 v3)),(.agg [(.lit (.int .i64 v4_0)),(.ro (List.map (intR .i64) v4_1)),(.lit (.int .i64 v4_2_0)),(.lit (.int .i64 v4_2_1)),(.lit (.int .i64 v4_2_2)),(.lit (.int .u64 v4_2_3)),(.lit (.int .u64 v4_2_4)),(.lit (.int .u64 v4_2_5)),(.lit (.int .i64 v4_2_6))])] = ob (g_submit_Step k (v0_0,v0_1,v0_2,v0_3) v1 v2 v3 (v4_0,v4_1,(v4_2_0,v4_2_1,v4_2_2,v4_2_3,v4_2_4,v4_2_5,v4_2_6))) fun r => some ((.tup [(.ro (List.map (intR .u64) r.1)),(.agg [(.lit (.int .i64 r.2.1.1)),(.ro (List.map (intR .i64) r.2.1.2.1)),(.lit (.int .i64 r.2.1.2.2.1)),(.lit (.int .i64 r.2.1.2.2.2.1)),(.lit (.int .i64 r.2.1.2.2.2.2.1)),(.lit (.int .u64 r.2.1.2.2.2.2.2.1)),(.lit (.int .u64 r.2.1.2.2.2.2.2.2.1)),(.lit (.int .u64 r.2.1.2.2.2.2.2.2.2.1)),(.lit (.int .i64 r.2.1.2.2.2.2.2.2.2.2))]),(.ro (List.map threeV r.2.2))]),[]) := by
  rw [xC_eq]
  unfold g_submit_Step
  simp (maxSteps := 2000000) -implicitDefEqProofs only [xe10,xb10,xe23,xb23,xe24,xb24,xe25,xb25,xm25_0,xj25_1,xk25_0_ret,xk25_1_ret,xe29,xb29,xe30,xb30,xe33,xb33,xe34,xb34,xe35,xb35,xe36,xb36,↓syP,syA,rtN,pureL,V.pure,nsh,stBk,V.kill,killL,spl,V.shift,shiftL,V.scal,scalL,intR,boolR,threeV,Nat.reduceAdd,Nat.reduceSub,Nat.reduceMul,Nat.reduceLT,Nat.reduceLeDiff,Nat.reduceEqDiff,Nat.reduceBEq,Nat.reduceBNe,Int.reduceBEq,Int.reduceBNe,Int.reduceLT,Int.reduceLE,Int.reduceAdd,Int.reduceSub,Int.reduceNeg,syQ,confV,frameV,listV,subV,arC_nil,arC_cons,xF,xcallV,xcallC,xcallL,xcallY,xevY,xY_ready,xrange,xG_fn,xR,xA,xcl21,xclk21,xcl22,xclk22,h_cell_Load,h_frame_Over,h_cell_Add,h_frame_Begin,h_event_Step,h_inject_Step,h_submit_May]
  all_goals simp -implicitDefEqProofs only [List.map_nil]
end Go.Ab
