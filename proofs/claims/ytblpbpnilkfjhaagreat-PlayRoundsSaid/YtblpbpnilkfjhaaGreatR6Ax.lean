import Derived.Test.YtblpbpnilkfjhaaGreatR6GYe
import Derived.Test.YtblpbpnilkfjhaaGreatR6GYc
import Derived.Test.YtblpbpnilkfjhaaGreatR6GYd
import Derived.Test.YtblpbpnilkfjhaaGreatR6BA
set_option linter.unusedVariables false
set_option linter.unusedSimpArgs false
set_option maxRecDepth 100000
set_option maxHeartbeats 4000000
set_option linter.unusedVariables false
set_option linter.unusedSimpArgs false
namespace Go.Ab
open Go.Proofs
abbrev axA:Typ:=
 ((1,1,1,0),[(1,[])],[0,0,0,0,0,0,0,0,0,0,0,0],[(0,[],(1,0,0,0,0,0,0),0,0)],[(0,[0],0,0,0,0,0,0,0)])
abbrev axE:Typ:=
 ((1,1,1,0),[(1,[])],[0,0,65537,0,1,1,2,0,0,0,0,0],[(8,[],(5,3,0,0,65536,65536,0),0,0)],[(0,[],0,0,0,0,0,0,0)])
abbrev axL:Tye:=[(0,0,0),(2,0,0),(4,0,0),(5,0,0)]
section
variable (j:Nat)
theorem aht:xC (j+91) none 34 [.agg [.lit (.int .i64 1),.lit (.int .i64 1),.lit (.int .i64 1),.lit (.int .i64 0)],.ro (List.map an [(1,[])]),.ro (List.map cA [[0]]),.nil] =
  some (.tup [.agg [.lit (.int .i64 1),.lit (.int .i64 1),.lit (.int .i64 1),.lit (.int .i64 0),.ro (List.map an [(1,[])]),.ro (List.map (aF .u64) [0,0,0,0,0,0,0,0,0,0,0,0]),.ro (List.map aG [(0,[],(1,0,0,0,0,0,0),0,0)]),.ro (List.map bn [(0,[0],0,0,0,0,0,0,0)])],.ro [],.lit (.bool true)],[]):=by kernel_rfl
theorem axD:dR (j+1) axA 500=some (axE,axL,38):=by kernel_rfl
theorem ahs:xC (j+91) none 36 [.agg [.lit (.int .i64 1),.lit (.int .i64 1),.lit (.int .i64 1),.lit (.int .i64 0),.ro (List.map an [(1,[])]),.ro (List.map (aF .u64) [0,0,0,0,0,0,0,0,0,0,0,0]),.ro (List.map aG [(0,[],(1,0,0,0,0,0,0),0,0)]),.ro (List.map bn [(0,[0],0,0,0,0,0,0,0)])],.lit (.int .i64 500)]=some (.tup [.agg [.lit (.int .i64 1),.lit (.int .i64 1),.lit (.int .i64 1),.lit (.int .i64 0),.ro (List.map an [(1,[])]),.ro (List.map (aF .u64) [0,0,65537,0,1,1,2,0,0,0,0,0]),.ro (List.map aG [(8,[],(5,3,0,0,65536,65536,0),0,0)]),.ro (List.map bn [(0,[],0,0,0,0,0,0,0)])],.ro (List.map aD [(0,0,0),(2,0,0),(4,0,0),(5,0,0)]),.lit (.int .i64 38)],[]):=by
 refine (rO (j+1) _ _ _ _ _ _ _ _ _).trans ?_
 show ob (dR (j+1) axA 500) _=_
 rw [axD,af]
theorem ahW:xC (j+91) none 37 [.ro (List.map an [(1,[])]),.ro (List.map aD [(0,0,0),(2,0,0),(4,0,0),(5,0,0)])]=some (.tup [.lit (.int .i64 1),.lit (.int .i64 0),.lit (.int .i64 1)],[]):=(Eh (j+90) [(1,[])] axL).trans (by kernel_rfl)
theorem ahO:xC (j+91) none 39 [.agg [.lit (.int .i64 1),.lit (.int .i64 1),.lit (.int .i64 1),.lit (.int .i64 0),.ro (List.map an [(1,[])]),.ro (List.map (aF .u64) [0,0,0,0,0,0,0,0,0,0,0,0]),.ro (List.map aG [(0,[],(1,0,0,0,0,0,0),0,0)]),.ro (List.map bn [(0,[0],0,0,0,0,0,0,0)])]]=some (.lit (.int .i64 1),[]):=(FQ (j+55) _ _ _ _ _ _ _ _).trans (by kernel_rfl)
theorem ahr:xC (j+91) none 29 [.agg [.lit (.int .i64 1),.lit (.int .i64 1),.lit (.int .i64 1),.lit (.int .i64 0),.ro (List.map an [(1,[])]),.ro (List.map (aF .u64) [0,0,65537,0,1,1,2,0,0,0,0,0]),.ro (List.map aG [(8,[],(5,3,0,0,65536,65536,0),0,0)]),.ro (List.map bn [(0,[],0,0,0,0,0,0,0)])]]=some (.lit (.bool true),[]):=(pf (j+54) _ _ _ _ _ _ _ _).trans (by kernel_rfl)
theorem ahJ:xC (j+91) none 35 [.agg [.lit (.int .i64 1),.lit (.int .i64 1),.lit (.int .i64 1),.lit (.int .i64 0),.ro (List.map an [(1,[])]),.ro (List.map (aF .u64) [0,0,0,0,0,0,0,0,0,0,0,0]),.ro (List.map aG [(0,[],(1,0,0,0,0,0,0),0,0)]),.ro (List.map bn [(0,[0],0,0,0,0,0,0,0)])],.nil]=some (.lit (.bool true),[]):=by kernel_rfl
end
theorem abQ (j:Nat):xC (j+92) none 33 []=some (.lit (.bool true),[]):=by
 rw [aH]
 simp (maxSteps:=2000000) -implicitDefEqProofs only [ahF,agv,R8,S3,Se,RN,SA,Sx,SV,Sw,Sz,Sa,Km,xZ,↓syP,syA,syD,Nat.reduceAdd,Nat.reduceSub,Nat.reduceMul,Nat.reduceLT,Nat.reduceLeDiff,Nat.reduceEqDiff,Nat.reduceBEq,Nat.reduceBNe,Int.reduceBEq,Int.reduceBNe,Int.reduceLT,Int.reduceLE,Int.reduceAdd,Int.reduceSub,Int.reduceNeg,syE,ah,ag,ae,syW,xQ,xFP,List.length_cons,List.length_nil,aht,ahs,ahW,ahO,ahr,ahJ,decide_true,decide_false,cond_true,cond_false]
 rfl
end Go.Ab
