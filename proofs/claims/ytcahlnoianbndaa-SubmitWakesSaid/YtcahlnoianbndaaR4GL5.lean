/- Functions as they are walked: printed by Walk.lean. -/
import Derived.Test.YtcahlnoianbndaaR4GS
import Derived.Test.YtcahlnoianbndaaR4Awk
import Derived.Test.YtcahlnoianbndaaR4BL5
set_option linter.unusedVariables false
set_option linter.unusedSimpArgs false
set_option maxRecDepth 100000
set_option linter.unusedVariables false
set_option linter.unusedSimpArgs false
namespace Go.Ab
open Go.Proofs
def g_poacherlaw19_SubmitWakes (k : Nat) (v0 : (Int × Int × Int × Int)) (v1 : (List (Int × List Int))) (v2 : (List Int)) (v3 : Int) (v4 : (Int × List Int × Int × Int × Int × Int × Int × Int × Int)) (v5 : Int) : Option Bool :=
  ob (g_poacherlaw04_Few (k + (59 : Nat)) v1) fun x5 =>
  bif !x5 then
   some (true)
  else
   bif decide ((500 : Int) < (↑v2.length : Int)) then
    some (true)
   else
    bif decide ((60 : Int) < (↑v4.2.1.length : Int)) then
     some (true)
    else
     bif v4.1 != (3 : Int) then
      some (true)
     else
      ob (g_submit_May (k + (36 : Nat)) (v0.1,v0.2.1,v0.2.2.1,v0.2.2.2) v1 v2 (v4.1,v4.2.1,v4.2.2.1,v4.2.2.2.1,v4.2.2.2.2.1,v4.2.2.2.2.2.1,v4.2.2.2.2.2.2.1,v4.2.2.2.2.2.2.2.1,v4.2.2.2.2.2.2.2.2)) fun x6 =>
      bif !x6 then
       some (true)
      else
       ob (g_cell_Store v2 (1 : Int) v5) fun x7 =>
       ob (g_submit_Step (k + (20 : Nat)) (v0.1,v0.2.1,v0.2.2.1,v0.2.2.2) v1 x7 v3 (v4.1,v4.2.1,v4.2.2.1,v4.2.2.2.1,v4.2.2.2.2.1,v4.2.2.2.2.2.1,v4.2.2.2.2.2.2.1,v4.2.2.2.2.2.2.2.1,v4.2.2.2.2.2.2.2.2)) fun x8 =>
       bif x8.snd.fst.fst == (4 : Int) then
        bif x8.snd.fst.snd.snd.fst == (6 : Int) then
         bif x8.snd.fst.snd.snd.snd.fst == (0 : Int) then
          bif x8.snd.fst.fst == (0 : Int) then
           bif (↑x8.snd.snd.length : Int) == (0 : Int) then
            bif v5 == (0 : Int) then
             bif (↑x8.snd.fst.snd.fst.length : Int) == (↑v4.2.1.length : Int) then
              some (true)
             else
              bif v5 != (0 : Int) then
               some ((↑x8.snd.fst.snd.fst.length : Int) == IntKind.i64.wrap ((↑v4.2.1.length : Int) - (1 : Int)))
              else
               some (false)
            else
             bif v5 != (0 : Int) then
              some ((↑x8.snd.fst.snd.fst.length : Int) == IntKind.i64.wrap ((↑v4.2.1.length : Int) - (1 : Int)))
             else
              some (false)
           else
            some (false)
          else
           bif (↑x8.snd.snd.length : Int) == (0 : Int) then
            bif v5 == (0 : Int) then
             bif (↑x8.snd.fst.snd.fst.length : Int) == (↑v4.2.1.length : Int) then
              some (true)
             else
              bif v5 != (0 : Int) then
               some (false)
              else
               some (false)
            else
             bif v5 != (0 : Int) then
              some (false)
             else
              some (false)
           else
            some (false)
         else
          bif x8.snd.fst.fst == (0 : Int) then
           bif (↑x8.snd.snd.length : Int) == (0 : Int) then
            bif v5 == (0 : Int) then
             bif v5 != (0 : Int) then
              some ((↑x8.snd.fst.snd.fst.length : Int) == IntKind.i64.wrap ((↑v4.2.1.length : Int) - (1 : Int)))
             else
              some (false)
            else
             bif v5 != (0 : Int) then
              some ((↑x8.snd.fst.snd.fst.length : Int) == IntKind.i64.wrap ((↑v4.2.1.length : Int) - (1 : Int)))
             else
              some (false)
           else
            some (false)
          else
           bif (↑x8.snd.snd.length : Int) == (0 : Int) then
            bif v5 == (0 : Int) then
             bif v5 != (0 : Int) then
              some (false)
             else
              some (false)
            else
             bif v5 != (0 : Int) then
              some (false)
             else
              some (false)
           else
            some (false)
        else
         bif x8.snd.fst.fst == (0 : Int) then
          bif (↑x8.snd.snd.length : Int) == (0 : Int) then
           bif v5 == (0 : Int) then
            bif v5 != (0 : Int) then
             some ((↑x8.snd.fst.snd.fst.length : Int) == IntKind.i64.wrap ((↑v4.2.1.length : Int) - (1 : Int)))
            else
             some (false)
           else
            bif v5 != (0 : Int) then
             some ((↑x8.snd.fst.snd.fst.length : Int) == IntKind.i64.wrap ((↑v4.2.1.length : Int) - (1 : Int)))
            else
             some (false)
          else
           some (false)
         else
          bif (↑x8.snd.snd.length : Int) == (0 : Int) then
           bif v5 == (0 : Int) then
            bif v5 != (0 : Int) then
             some (false)
            else
             some (false)
           else
            bif v5 != (0 : Int) then
             some (false)
            else
             some (false)
          else
           some (false)
       else
        bif x8.snd.fst.fst == (0 : Int) then
         bif (↑x8.snd.snd.length : Int) == (0 : Int) then
          bif v5 == (0 : Int) then
           bif v5 != (0 : Int) then
            some ((↑x8.snd.fst.snd.fst.length : Int) == IntKind.i64.wrap ((↑v4.2.1.length : Int) - (1 : Int)))
           else
            some (false)
          else
           bif v5 != (0 : Int) then
            some ((↑x8.snd.fst.snd.fst.length : Int) == IntKind.i64.wrap ((↑v4.2.1.length : Int) - (1 : Int)))
           else
            some (false)
         else
          some (false)
        else
         bif (↑x8.snd.snd.length : Int) == (0 : Int) then
          bif v5 == (0 : Int) then
           bif v5 != (0 : Int) then
            some (false)
           else
            some (false)
          else
           bif v5 != (0 : Int) then
            some (false)
           else
            some (false)
         else
          some (false)
theorem h_poacherlaw19_SubmitWakes (k : Nat) (v0_0 : Int) (v0_1 : Int) (v0_2 : Int) (v0_3 : Int) (v1 : (List (Int × List Int))) (v2 : (List Int)) (v3 : Int) (v4_0 : Int) (v4_1 : (List Int)) (v4_2_0 : Int) (v4_2_1 : Int) (v4_2_2 : Int) (v4_2_3 : Int) (v4_2_4 : Int) (v4_2_5 : Int) (v4_2_6 : Int) (v5 : Int) : xC (k + 61) none 5 [(.agg [(.lit (.int .i64 v0_0)),(.lit (.int .i64 v0_1)),(.lit (.int .i64 v0_2)),(.lit (.int .i64 v0_3))]),(.ro (List.map taskV v1)),(.ro (List.map (intR .u64) v2)),(.lit (.int .i64 v3)),(.agg [(.lit (.int .i64 v4_0)),(.ro (List.map (intR .i64) v4_1)),(.lit (.int .i64 v4_2_0)),(.lit (.int .i64 v4_2_1)),(.lit (.int .i64 v4_2_2)),(.lit (.int .u64 v4_2_3)),(.lit (.int .u64 v4_2_4)),(.lit (.int .u64 v4_2_5)),(.lit (.int .i64 v4_2_6))]),(.lit (.int .u64 v5))] = ob (g_poacherlaw19_SubmitWakes k (v0_0,v0_1,v0_2,v0_3) v1 v2 v3 (v4_0,v4_1,(v4_2_0,v4_2_1,v4_2_2,v4_2_3,v4_2_4,v4_2_5,v4_2_6)) v5) fun r => some ((.lit (.bool r)),[]) := by
  rw [xC_eq]
  unfold g_poacherlaw19_SubmitWakes
  simp (maxSteps := 2000000) -implicitDefEqProofs only [xe5,xb5,xm5_0,xm5_1,xm5_2,xm5_3,xm5_4,xm5_5,xm5_6,xm5_7,xm5_8,xm5_9,xm5_10,xm5_11,xm5_12,xm5_13,xm5_14,xm5_15,xm5_16,xm5_17,xk5_0_ret,xk5_1_ret,xk5_2_ret,xk5_3_ret,↓syP,syA,rtN,pureL,V.pure,nsh,stBk,V.kill,killL,spl,V.shift,shiftL,V.scal,scalL,intR,boolR,threeV,Nat.reduceAdd,Nat.reduceSub,Nat.reduceMul,Nat.reduceLT,Nat.reduceLeDiff,Nat.reduceEqDiff,Nat.reduceBEq,Nat.reduceBNe,Int.reduceBEq,Int.reduceBNe,Int.reduceLT,Int.reduceLE,Int.reduceAdd,Int.reduceSub,Int.reduceNeg,syQ,confV,frameV,listV,subV,arC_nil,arC_cons,xF,xcallV,xcallC,xcallL,xcallY,xevY,xY_ready,xrange,xG_fn,xR,xA,xcl21,xclk21,xcl22,xclk22,awk19',h_poacherlaw04_Few,h_cell_Store,h_submit_May,h_submit_Step]
  all_goals simp -implicitDefEqProofs only [List.map_nil]
end Go.Ab
