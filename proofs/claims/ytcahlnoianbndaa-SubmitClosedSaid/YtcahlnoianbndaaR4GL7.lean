/- Functions as they are walked: printed by Walk.lean. -/
import Derived.Test.YtcahlnoianbndaaR4GR
import Derived.Test.YtcahlnoianbndaaR4Awk
import Derived.Test.YtcahlnoianbndaaR4BL7
set_option linter.unusedVariables false
set_option linter.unusedSimpArgs false
set_option maxRecDepth 100000
set_option linter.unusedVariables false
set_option linter.unusedSimpArgs false
namespace Go.Ab
open Go.Proofs
def g_poacherlaw19_SubmitClosed (k : Nat) (v0 : (Int × Int × Int × Int)) (v1 : (List (Int × List Int))) (v2 : (List Int)) (v3 : Int) (v4 : (Int × List Int × Int × Int × Int × Int × Int × Int × Int)) : Option Bool :=
  ob (g_poacherlaw04_Few (k + (59 : Nat)) v1) fun x16 =>
  bif !x16 then
   some (true)
  else
   bif decide ((500 : Int) < (↑v2.length : Int)) then
    some (true)
   else
    bif decide ((60 : Int) < (↑v4.2.1.length : Int)) then
     some (true)
    else
     bif (↑v4.2.1.length : Int) == (0 : Int) then
      some (true)
     else
      ob (g_submit_May (k + (36 : Nat)) (v0.1,v0.2.1,v0.2.2.1,v0.2.2.2) v1 v2 (v4.1,v4.2.1,v4.2.2.1,v4.2.2.2.1,v4.2.2.2.2.1,v4.2.2.2.2.2.1,v4.2.2.2.2.2.2.1,v4.2.2.2.2.2.2.2.1,v4.2.2.2.2.2.2.2.2)) fun x17 =>
      bif !x17 then
       some (true)
      else
       ob (g_cell_Store v2 (3 : Int) (1 : Int)) fun x18 =>
       ob (g_submit_Step (k + (20 : Nat)) (v0.1,v0.2.1,v0.2.2.1,v0.2.2.2) v1 x18 v3 (v4.1,v4.2.1,v4.2.2.1,v4.2.2.2.1,v4.2.2.2.2.1,v4.2.2.2.2.2.1,v4.2.2.2.2.2.2.1,v4.2.2.2.2.2.2.2.1,v4.2.2.2.2.2.2.2.2)) fun x19 =>
       ob (g_submit_Busy (v4.1,v4.2.1,v4.2.2.1,v4.2.2.2.1,v4.2.2.2.2.1,v4.2.2.2.2.2.1,v4.2.2.2.2.2.2.1,v4.2.2.2.2.2.2.2.1,v4.2.2.2.2.2.2.2.2)) fun x20 =>
       bif x20 then
        ob (g_cell_Store v2 (3 : Int) (0 : Int)) fun x21 =>
        ob (g_submit_Step (k + (20 : Nat)) (v0.1,v0.2.1,v0.2.2.1,v0.2.2.2) v1 x21 v3 (v4.1,v4.2.1,v4.2.2.1,v4.2.2.2.1,v4.2.2.2.2.1,v4.2.2.2.2.2.1,v4.2.2.2.2.2.2.1,v4.2.2.2.2.2.2.2.1,v4.2.2.2.2.2.2.2.2)) fun x22 =>
        ob (g_poacherref18_Evs (k + (59 : Nat)) x19.snd.snd x22.snd.snd) fun x23 =>
        ob (g_submit_Same (k + (58 : Nat)) (x19.snd.fst.fst,x19.snd.fst.snd.fst,x19.snd.fst.snd.snd.fst,x19.snd.fst.snd.snd.snd.fst,x19.snd.fst.snd.snd.snd.snd.fst,x19.snd.fst.snd.snd.snd.snd.snd.fst,x19.snd.fst.snd.snd.snd.snd.snd.snd.fst,x19.snd.fst.snd.snd.snd.snd.snd.snd.snd.fst,x19.snd.fst.snd.snd.snd.snd.snd.snd.snd.snd) (x22.snd.fst.fst,x22.snd.fst.snd.fst,x22.snd.fst.snd.snd.fst,x22.snd.fst.snd.snd.snd.fst,x22.snd.fst.snd.snd.snd.snd.fst,x22.snd.fst.snd.snd.snd.snd.snd.fst,x22.snd.fst.snd.snd.snd.snd.snd.snd.fst,x22.snd.fst.snd.snd.snd.snd.snd.snd.snd.fst,x22.snd.fst.snd.snd.snd.snd.snd.snd.snd.snd)) fun x24 =>
        bif x24 then
         bif x23 then
          ob (g_cell_Store x22.fst (3 : Int) (1 : Int)) fun x25 =>
          ob (g_cell_Same (k + (59 : Nat)) x25 x19.fst) fun x26 =>
          some (x26)
         else
          some (false)
        else
         some (false)
       else
        ob (g_cell_Same (k + (59 : Nat)) x19.fst x18) fun x27 =>
        bif x27 then
         bif (↑x19.snd.snd.length : Int) == (1 : Int) then
          ob (idx x19.snd.snd (0 : Int)) fun x28 =>
          ob (idx v4.2.1 (0 : Int)) fun x29 =>
          bif x28.fst == (1 : Int) && (x28.snd.fst == x29 && x28.snd.snd == v3) then
           bif (↑x19.snd.fst.snd.fst.length : Int) == IntKind.i64.wrap ((↑v4.2.1.length : Int) - (1 : Int)) then
            ob (g_submit_Busy (x19.snd.fst.fst,x19.snd.fst.snd.fst,x19.snd.fst.snd.snd.fst,x19.snd.fst.snd.snd.snd.fst,x19.snd.fst.snd.snd.snd.snd.fst,x19.snd.fst.snd.snd.snd.snd.snd.fst,x19.snd.fst.snd.snd.snd.snd.snd.snd.fst,x19.snd.fst.snd.snd.snd.snd.snd.snd.snd.fst,x19.snd.fst.snd.snd.snd.snd.snd.snd.snd.snd)) fun x30 =>
            some (!x30)
           else
            some (false)
          else
           some (false)
         else
          some (false)
        else
         some (false)
theorem h_poacherlaw19_SubmitClosed (k : Nat) (v0_0 : Int) (v0_1 : Int) (v0_2 : Int) (v0_3 : Int) (v1 : (List (Int × List Int))) (v2 : (List Int)) (v3 : Int) (v4_0 : Int) (v4_1 : (List Int)) (v4_2_0 : Int) (v4_2_1 : Int) (v4_2_2 : Int) (v4_2_3 : Int) (v4_2_4 : Int) (v4_2_5 : Int) (v4_2_6 : Int) : xC (k + 61) none 7 [(.agg [(.lit (.int .i64 v0_0)),(.lit (.int .i64 v0_1)),(.lit (.int .i64 v0_2)),(.lit (.int .i64 v0_3))]),(.ro (List.map taskV v1)),(.ro (List.map (intR .u64) v2)),(.lit (.int .i64 v3)),(.agg [(.lit (.int .i64 v4_0)),(.ro (List.map (intR .i64) v4_1)),(.lit (.int .i64 v4_2_0)),(.lit (.int .i64 v4_2_1)),(.lit (.int .i64 v4_2_2)),(.lit (.int .u64 v4_2_3)),(.lit (.int .u64 v4_2_4)),(.lit (.int .u64 v4_2_5)),(.lit (.int .i64 v4_2_6))])] = ob (g_poacherlaw19_SubmitClosed k (v0_0,v0_1,v0_2,v0_3) v1 v2 v3 (v4_0,v4_1,(v4_2_0,v4_2_1,v4_2_2,v4_2_3,v4_2_4,v4_2_5,v4_2_6))) fun r => some ((.lit (.bool r)),[]) := by
  rw [xC_eq]
  unfold g_poacherlaw19_SubmitClosed
  simp (maxSteps := 2000000) -implicitDefEqProofs only [xe7,xb7,xm7_0,xm7_1,xm7_2,xm7_3,xm7_4,xm7_5,xm7_6,xm7_7,xm7_8,xm7_9,xm7_10,xk7_0_ret,xk7_1_ret,xk7_2_ret,↓syP,syA,rtN,pureL,V.pure,nsh,stBk,V.kill,killL,spl,V.shift,shiftL,V.scal,scalL,intR,boolR,threeV,Nat.reduceAdd,Nat.reduceSub,Nat.reduceMul,Nat.reduceLT,Nat.reduceLeDiff,Nat.reduceEqDiff,Nat.reduceBEq,Nat.reduceBNe,Int.reduceBEq,Int.reduceBNe,Int.reduceLT,Int.reduceLE,Int.reduceAdd,Int.reduceSub,Int.reduceNeg,syQ,confV,frameV,listV,subV,arC_nil,arC_cons,xF,xcallV,xcallC,xcallL,xcallY,xevY,xY_ready,xrange,xG_fn,xR,xA,xcl21,xclk21,xcl22,xclk22,awk19',h_poacherlaw04_Few,h_cell_Store,h_submit_May,h_submit_Same,h_submit_Busy,h_submit_Step,h_poacherref18_Evs,h_cell_Same]
  all_goals simp -implicitDefEqProofs only [List.map_nil]
end Go.Ab
