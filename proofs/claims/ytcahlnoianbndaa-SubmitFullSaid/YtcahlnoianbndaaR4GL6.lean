/- Functions as they are walked: printed by Walk.lean. -/
import Derived.Test.YtcahlnoianbndaaR4GS
import Derived.Test.YtcahlnoianbndaaR4Awk
import Derived.Test.YtcahlnoianbndaaR4BL6
set_option linter.unusedVariables false
set_option linter.unusedSimpArgs false
set_option maxRecDepth 100000
set_option linter.unusedVariables false
set_option linter.unusedSimpArgs false
namespace Go.Ab
open Go.Proofs
def g_poacherlaw19_SubmitFull (k : Nat) (v0 : (Int × Int × Int × Int)) (v1 : (List (Int × List Int))) (v2 : (List Int)) (v3 : Int) (v4 : (Int × List Int × Int × Int × Int × Int × Int × Int × Int)) : Option Bool :=
  ob (g_poacherlaw04_Few (k + (59 : Nat)) v1) fun x16 =>
  bif !x16 then
   some (true)
  else
   bif decide ((500 : Int) < (↑v2.length : Int)) then
    some (true)
   else
    bif (↑v4.2.1.length : Int) == (0 : Int) then
     some (true)
    else
     bif decide ((60 : Int) < (↑v4.2.1.length : Int)) then
      some (true)
     else
      bif v4.1 != (5 : Int) then
       some (true)
      else
       ob (g_submit_May (k + (36 : Nat)) (v0.1,v0.2.1,v0.2.2.1,v0.2.2.2) v1 v2 (v4.1,v4.2.1,v4.2.2.1,v4.2.2.2.1,v4.2.2.2.2.1,v4.2.2.2.2.2.1,v4.2.2.2.2.2.2.1,v4.2.2.2.2.2.2.2.1,v4.2.2.2.2.2.2.2.2)) fun x17 =>
       bif !x17 then
        some (true)
       else
        ob (g_submit_Step (k + (20 : Nat)) (v0.1,v0.2.1,v0.2.2.1,v0.2.2.2) v1 v2 v3 (v4.1,v4.2.1,v4.2.2.1,v4.2.2.2.1,v4.2.2.2.2.1,v4.2.2.2.2.2.1,v4.2.2.2.2.2.2.1,v4.2.2.2.2.2.2.2.1,v4.2.2.2.2.2.2.2.2)) fun x18 =>
        ob (g_cell_Load v2 (0 : Int)) fun x19 =>
        bif (↑x18.snd.snd.length : Int) == (2 : Int) then
         ob (idx x18.snd.snd (1 : Int)) fun x20 =>
         bif x20.fst == (5 : Int) then
          ob (idx x18.snd.snd (1 : Int)) fun x21 =>
          ob (g_cell_Load x18.fst (0 : Int)) fun x22 =>
          bif x22 == IntKind.u64.wrap (x19 - (1 : Int)) then
           bif decide ((1 : Int) ≤ (↑x18.snd.snd.length : Int)) then
            ob (idx x18.snd.snd (0 : Int)) fun x23 =>
            ob (idx v4.2.1 (0 : Int)) fun x24 =>
            bif x23.fst == (1 : Int) && (x23.snd.fst == x24 && x23.snd.snd == v3) then
             bif (x21.snd.snd == v3) == (x19 == (1 : Int)) then
              bif x21.snd.snd == v3 then
               some ((↑x18.snd.fst.snd.fst.length : Int) == IntKind.i64.wrap ((↑v4.2.1.length : Int) - (1 : Int)))
              else
               bif (↑x18.snd.snd.length : Int) == (1 : Int) then
                some ((↑x18.snd.fst.snd.fst.length : Int) == IntKind.i64.wrap ((↑v4.2.1.length : Int) - (1 : Int)))
               else
                some (false)
             else
              some (false)
            else
             some (false)
           else
            some (false)
          else
           some (false)
         else
          ob (g_cell_Load x18.fst (0 : Int)) fun x25 =>
          bif x25 == IntKind.u64.wrap (x19 - (1 : Int)) then
           bif decide ((1 : Int) ≤ (↑x18.snd.snd.length : Int)) then
            ob (idx x18.snd.snd (0 : Int)) fun x26 =>
            ob (idx v4.2.1 (0 : Int)) fun x27 =>
            bif x26.fst == (1 : Int) && (x26.snd.fst == x27 && x26.snd.snd == v3) then
             bif false == (x19 == (1 : Int)) then
              bif (↑x18.snd.snd.length : Int) == (1 : Int) then
               some ((↑x18.snd.fst.snd.fst.length : Int) == IntKind.i64.wrap ((↑v4.2.1.length : Int) - (1 : Int)))
              else
               some (false)
             else
              some (false)
            else
             some (false)
           else
            some (false)
          else
           some (false)
        else
         ob (g_cell_Load x18.fst (0 : Int)) fun x28 =>
         bif x28 == IntKind.u64.wrap (x19 - (1 : Int)) then
          bif decide ((1 : Int) ≤ (↑x18.snd.snd.length : Int)) then
           ob (idx x18.snd.snd (0 : Int)) fun x29 =>
           ob (idx v4.2.1 (0 : Int)) fun x30 =>
           bif x29.fst == (1 : Int) && (x29.snd.fst == x30 && x29.snd.snd == v3) then
            bif false == (x19 == (1 : Int)) then
             bif (↑x18.snd.snd.length : Int) == (1 : Int) then
              some ((↑x18.snd.fst.snd.fst.length : Int) == IntKind.i64.wrap ((↑v4.2.1.length : Int) - (1 : Int)))
             else
              some (false)
            else
             some (false)
           else
            some (false)
          else
           some (false)
         else
          some (false)
theorem h_poacherlaw19_SubmitFull (k : Nat) (v0_0 : Int) (v0_1 : Int) (v0_2 : Int) (v0_3 : Int) (v1 : (List (Int × List Int))) (v2 : (List Int)) (v3 : Int) (v4_0 : Int) (v4_1 : (List Int)) (v4_2_0 : Int) (v4_2_1 : Int) (v4_2_2 : Int) (v4_2_3 : Int) (v4_2_4 : Int) (v4_2_5 : Int) (v4_2_6 : Int) : xC (k + 61) none 6 [(.agg [(.lit (.int .i64 v0_0)),(.lit (.int .i64 v0_1)),(.lit (.int .i64 v0_2)),(.lit (.int .i64 v0_3))]),(.ro (List.map taskV v1)),(.ro (List.map (intR .u64) v2)),(.lit (.int .i64 v3)),(.agg [(.lit (.int .i64 v4_0)),(.ro (List.map (intR .i64) v4_1)),(.lit (.int .i64 v4_2_0)),(.lit (.int .i64 v4_2_1)),(.lit (.int .i64 v4_2_2)),(.lit (.int .u64 v4_2_3)),(.lit (.int .u64 v4_2_4)),(.lit (.int .u64 v4_2_5)),(.lit (.int .i64 v4_2_6))])] = ob (g_poacherlaw19_SubmitFull k (v0_0,v0_1,v0_2,v0_3) v1 v2 v3 (v4_0,v4_1,(v4_2_0,v4_2_1,v4_2_2,v4_2_3,v4_2_4,v4_2_5,v4_2_6))) fun r => some ((.lit (.bool r)),[]) := by
  rw [xC_eq]
  unfold g_poacherlaw19_SubmitFull
  simp (maxSteps := 2000000) -implicitDefEqProofs only [xe6,xb6,xm6_0,xm6_1,xm6_2,xm6_3,xm6_4,xm6_5,xm6_6,xm6_7,xm6_8,xm6_9,xm6_10,xm6_11,xm6_12,xm6_13,xm6_14,xm6_15,xm6_16,xk6_0_ret,xk6_1_ret,xk6_2_ret,↓syP,syA,rtN,pureL,V.pure,nsh,stBk,V.kill,killL,spl,V.shift,shiftL,V.scal,scalL,intR,boolR,threeV,Nat.reduceAdd,Nat.reduceSub,Nat.reduceMul,Nat.reduceLT,Nat.reduceLeDiff,Nat.reduceEqDiff,Nat.reduceBEq,Nat.reduceBNe,Int.reduceBEq,Int.reduceBNe,Int.reduceLT,Int.reduceLE,Int.reduceAdd,Int.reduceSub,Int.reduceNeg,syQ,confV,frameV,listV,subV,arC_nil,arC_cons,xF,xcallV,xcallC,xcallL,xcallY,xevY,xY_ready,xrange,xG_fn,xR,xA,xcl21,xclk21,xcl22,xclk22,awk19',h_poacherlaw04_Few,h_cell_Load,h_submit_May,h_submit_Step]
  all_goals simp -implicitDefEqProofs only [List.map_nil]
end Go.Ab
