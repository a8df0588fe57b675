/- Functions as they are walked: printed by Walk.lean. -/
import Derived.Test.YtcahlnoianbndaaR4GS
import Derived.Test.YtcahlnoianbndaaR4B6
set_option linter.unusedVariables false
set_option linter.unusedSimpArgs false
set_option maxRecDepth 100000
set_option linter.unusedVariables false
set_option linter.unusedSimpArgs false
namespace Go.Ab
open Go.Proofs
def g_poacherref18_Evs_L0 (k : Nat) (v0 : (List (Int × Int × Int))) (v1 : (List (Int × Int × Int)))  : Nat → Int → Option Bool
  | 0,_ => none
  | n + 1,s4 =>
    bif decide (s4 < (↑v0.length : Int)) then
     ob (idx v0 s4) fun x9 =>
     ob (idx v1 s4) fun x10 =>
     bif !(x9.fst == x10.fst && (x9.snd.fst == x10.snd.fst && x9.snd.snd == x10.snd.snd)) then
      some (false)
     else
      g_poacherref18_Evs_L0 k v0 v1  n (IntKind.i64.wrap (s4 + (1 : Int)))
    else
     some (true)
theorem g_poacherref18_Evs_L0_eq (k : Nat) (v0 : (List (Int × Int × Int))) (v1 : (List (Int × Int × Int))) : ∀ (n : Nat) (s4 : Int),rt none (itX (xX (xS k) (19 : Nat) (0 : Nat) k false) xl19_0 ((0 : Nat)) (runK (xX (xS k) (19 : Nat) (0 : Nat) k false) (bodyK (xS k).P Try.f19) xk19_0) n ⟨[V.ro (List.map threeV v0),V.ro (List.map threeV v1),uu,uu,V.lit (Value.bool false),V.lit (Value.int IntKind.i64 s4),V.ro (List.map threeV v0),V.lit (Value.int IntKind.i64 (↑v0.length : Int)),V.ro (List.map threeV v1),V.lit (Value.int IntKind.i64 (↑v1.length : Int)),V.lit (Value.bool ((↑v0.length : Int) != (↑v1.length : Int))),V.junk,V.junk,V.junk,V.junk,V.junk,V.junk,V.junk,V.junk,V.junk,V.junk,V.junk,V.junk,V.junk,V.junk,V.junk],[]⟩) = ob (g_poacherref18_Evs_L0 k v0 v1  n s4) fun r => some ((.lit (.bool r)),[]) := by
  intro n
  induction n with
  | zero => intros; rfl
  | succ n ih =>
    intro s4
    rw [g_poacherref18_Evs_L0]
    simp (maxSteps := 2000000) -implicitDefEqProofs only [xe19,xb19,xz19,xj19_0,xk19_0_ret,↓syP,syA,rtN,pureL,V.pure,nsh,stBk,V.kill,killL,spl,V.shift,shiftL,V.scal,scalL,intR,boolR,threeV,Nat.reduceAdd,Nat.reduceSub,Nat.reduceMul,Nat.reduceLT,Nat.reduceLeDiff,Nat.reduceEqDiff,Nat.reduceBEq,Nat.reduceBNe,Int.reduceBEq,Int.reduceBNe,Int.reduceLT,Int.reduceLE,Int.reduceAdd,Int.reduceSub,Int.reduceNeg,syQ,confV,frameV,listV,subV,arC_nil,arC_cons,xF,xcallV,xcallC,xcallL,xcallY,xevY,xY_ready,xrange,xG_fn,xR,xA,xcl21,xclk21,xcl22,xclk22,xr19_0,ih]
    all_goals simp -implicitDefEqProofs only [List.map_nil]
def g_poacherref18_Evs (k : Nat) (v0 : (List (Int × Int × Int))) (v1 : (List (Int × Int × Int))) : Option Bool :=
  bif (↑v0.length : Int) != (↑v1.length : Int) then
   some (false)
  else
   g_poacherref18_Evs_L0 k v0 v1 (k) ((0 : Int))
theorem h_poacherref18_Evs (k : Nat) (v0 : (List (Int × Int × Int))) (v1 : (List (Int × Int × Int))) : xC (k + 1) none 19 [(.ro (List.map threeV v0)),(.ro (List.map threeV v1))] = ob (g_poacherref18_Evs k v0 v1) fun r => some ((.lit (.bool r)),[]) := by
  rw [xC_eq]
  unfold g_poacherref18_Evs
  simp (maxSteps := 2000000) -implicitDefEqProofs only [xe19,xb19,xz19,xj19_0,xk19_0_ret,↓syP,syA,rtN,pureL,V.pure,nsh,stBk,V.kill,killL,spl,V.shift,shiftL,V.scal,scalL,intR,boolR,threeV,Nat.reduceAdd,Nat.reduceSub,Nat.reduceMul,Nat.reduceLT,Nat.reduceLeDiff,Nat.reduceEqDiff,Nat.reduceBEq,Nat.reduceBNe,Int.reduceBEq,Int.reduceBNe,Int.reduceLT,Int.reduceLE,Int.reduceAdd,Int.reduceSub,Int.reduceNeg,syQ,confV,frameV,listV,subV,arC_nil,arC_cons,xF,xcallV,xcallC,xcallL,xcallY,xevY,xY_ready,xrange,xG_fn,xR,xA,xcl21,xclk21,xcl22,xclk22,g_poacherref18_Evs_L0_eq k v0 v1]
  all_goals simp -implicitDefEqProofs only [List.map_nil]
def g_cell_Same_L0 (k : Nat) (v0 : (List Int)) (v1 : (List Int))  : Nat → Int → Option Bool
  | 0,_ => none
  | n + 1,s15 =>
    bif decide (s15 < (↑v0.length : Int)) then
     bif !(↑v0.length : Int) == (↑v1.length : Int) then
      some (false)
     else
      ob (idx v0 s15) fun x20 =>
      ob (idx v1 s15) fun x21 =>
      bif x20 != x21 then
       some (false)
      else
       g_cell_Same_L0 k v0 v1  n (IntKind.i64.wrap (s15 + (1 : Int)))
    else
     some ((↑v0.length : Int) == (↑v1.length : Int))
theorem g_cell_Same_L0_eq (k : Nat) (v0 : (List Int)) (v1 : (List Int)) : ∀ (n : Nat) (s15 : Int) ⦃j14 : V⦄,rt none (itX (xX (xS k) (20 : Nat) (0 : Nat) k false) xl20_0 ((0 : Nat)) (runK (xX (xS k) (20 : Nat) (0 : Nat) k false) (bodyK (xS k).P Try.f20) xk20_0) n ⟨[V.ro (List.map (intR IntKind.u64) v0),V.ro (List.map (intR IntKind.u64) v1),uu,uu,V.lit (Value.bool false),V.lit (Value.bool ((↑v0.length : Int) == (↑v1.length : Int))),j14,V.ro (List.map (intR IntKind.u64) v0),V.lit (Value.int IntKind.i64 (↑v0.length : Int)),V.ro (List.map (intR IntKind.u64) v1),V.lit (Value.int IntKind.i64 (↑v1.length : Int)),V.lit (Value.bool ((↑v0.length : Int) == (↑v1.length : Int))),V.ro (List.map (intR IntKind.u64) v0),V.lit (Value.int IntKind.i64 (↑v0.length : Int)),V.lit (Value.int IntKind.i64 s15),V.junk,V.junk,V.junk,V.junk,V.junk,V.junk,V.junk,V.junk,V.junk,V.junk,V.junk,V.junk,V.junk,V.junk,V.junk,V.junk,uu],[]⟩) = ob (g_cell_Same_L0 k v0 v1  n s15) fun r => some ((.lit (.bool r)),[]) := by
  intro n
  induction n with
  | zero => intros; rfl
  | succ n ih =>
    intro s15 j14
    rw [g_cell_Same_L0]
    simp (maxSteps := 2000000) -implicitDefEqProofs only [xe20,xb20,xz20,xj20_0,xm20_1,xk20_0_ret,xk20_1_ret,↓syP,syA,rtN,pureL,V.pure,nsh,stBk,V.kill,killL,spl,V.shift,shiftL,V.scal,scalL,intR,boolR,threeV,Nat.reduceAdd,Nat.reduceSub,Nat.reduceMul,Nat.reduceLT,Nat.reduceLeDiff,Nat.reduceEqDiff,Nat.reduceBEq,Nat.reduceBNe,Int.reduceBEq,Int.reduceBNe,Int.reduceLT,Int.reduceLE,Int.reduceAdd,Int.reduceSub,Int.reduceNeg,syQ,confV,frameV,listV,subV,arC_nil,arC_cons,xF,xcallV,xcallC,xcallL,xcallY,xevY,xY_ready,xrange,xG_fn,xR,xA,xcl21,xclk21,xcl22,xclk22,xr20_0,ih]
    all_goals simp -implicitDefEqProofs only [List.map_nil]
def g_cell_Same (k : Nat) (v0 : (List Int)) (v1 : (List Int)) : Option Bool :=
  g_cell_Same_L0 k v0 v1 (k) ((0 : Int))
theorem h_cell_Same (k : Nat) (v0 : (List Int)) (v1 : (List Int)) : xC (k + 1) none 20 [(.ro (List.map (intR .u64) v0)),(.ro (List.map (intR .u64) v1))] = ob (g_cell_Same k v0 v1) fun r => some ((.lit (.bool r)),[]) := by
  rw [xC_eq]
  unfold g_cell_Same
  simp (maxSteps := 2000000) -implicitDefEqProofs only [xe20,xb20,xz20,xj20_0,xm20_1,xk20_0_ret,xk20_1_ret,↓syP,syA,rtN,pureL,V.pure,nsh,stBk,V.kill,killL,spl,V.shift,shiftL,V.scal,scalL,intR,boolR,threeV,Nat.reduceAdd,Nat.reduceSub,Nat.reduceMul,Nat.reduceLT,Nat.reduceLeDiff,Nat.reduceEqDiff,Nat.reduceBEq,Nat.reduceBNe,Int.reduceBEq,Int.reduceBNe,Int.reduceLT,Int.reduceLE,Int.reduceAdd,Int.reduceSub,Int.reduceNeg,syQ,confV,frameV,listV,subV,arC_nil,arC_cons,xF,xcallV,xcallC,xcallL,xcallY,xevY,xY_ready,xrange,xG_fn,xR,xA,xcl21,xclk21,xcl22,xclk22,g_cell_Same_L0_eq k v0 v1]
  all_goals simp -implicitDefEqProofs only [List.map_nil]
end Go.Ab
