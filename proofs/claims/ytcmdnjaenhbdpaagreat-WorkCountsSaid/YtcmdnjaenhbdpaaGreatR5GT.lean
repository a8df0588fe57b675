/- Functions as they are walked: printed by Walk.lean. -/
import Derived.Test.YtcmdnjaenhbdpaaGreatR5GW
import Derived.Test.YtcmdnjaenhbdpaaGreatR5BT
set_option linter.unusedVariables false
set_option linter.unusedSimpArgs false
set_option maxRecDepth 100000
set_option linter.unusedVariables false
set_option linter.unusedSimpArgs false
namespace Go.Ab
open Go.Proofs
def g_think_in (v0 : Int) (v1 : Int) : Option Bool :=
 bif decide (0 ≤ v0) then
 some (decide (v0 ≤ v1))
 else
 some false
theorem h_think_in (k : Nat) (v0 v1 : Int) : xC (k + 1) none 65 [.lit (.int .i64 v0),.lit (.int .i64 v1)] = ob (g_think_in v0 v1) fun r => some ((.lit (.bool r)),[]) := by
  rw [xC_eq]
  unfold g_think_in
  simp (maxSteps := 2000000) -implicitDefEqProofs only [xe65,xb65,xm65_0,xk65_0_ret,↓syP,syA,syD,Nat.reduceAdd,Nat.reduceSub,Nat.reduceMul,Nat.reduceLT,Nat.reduceLeDiff,Nat.reduceEqDiff,Nat.reduceBEq,Nat.reduceBNe,Int.reduceBEq,Int.reduceBNe,Int.reduceLT,Int.reduceLE,Int.reduceAdd,Int.reduceSub,Int.reduceNeg,syE,killR_cons,xQ]
  all_goals simp -implicitDefEqProofs only [List.map_nil]
def e_think_May_E0_L0 (k : Nat)   : Nat → List (Int × Int × Int) → Int → List (Int × List Int) → Int → Option Int
 | 0,_,_,_,_ => none
 | n + 1,s3,s4,s5,s13 =>
 bif decide (s13 < s4) then
 ob (idx s3 s13) fun x31 =>
 ob (g_think_in x31.1 (IntKind.i64.wrap ((↑s5.length : Int) - (1 : Int)))) fun x32 =>
 bif !x32 then
 some (s13)
 else
 ob (idx s5 x31.1) fun x33 =>
 ob (g_think_in x31.2.1 x33.1) fun x34 =>
 bif !x34 then
 some (s13)
 else
 ob (g_think_in x31.2.2 (↑x33.2.length : Int)) fun x35 =>
 bif !x35 then
 some (s13)
 else
 bif decide (x31.2.1 < x33.1) then
 bif decide ((0 : Int) < x31.2.2) then
 some (s13)
 else
 e_think_May_E0_L0 k   n (s3) (s4) (s5) (IntKind.i64.wrap (s13 + (1 : Int)))
 else
 e_think_May_E0_L0 k   n (s3) (s4) (s5) (IntKind.i64.wrap (s13 + (1 : Int)))
 else
 some ((-1 : Int))
theorem e_think_May_E0_L0_eq (k : Nat)  : ∀ (n : Nat) (s3 : List (Int × Int × Int)) (s4 : Int) (s5 : List (Int × List Int)) (s13 : Int) ⦃j12 : V⦄,itX (xX (xS (k + (17 : Nat))) (81 : Nat) (0 : Nat) (k + (17 : Nat)) false) xl81_0 ((1 : Nat)) (runK (xX (xS (k + (17 : Nat))) (81 : Nat) (0 : Nat) (k + (17 : Nat)) false) (bodyK (xS (k + (17 : Nat))).P Tryz.f81) xk81_0) n ⟨[V.ro (List.map threeV s3),V.fn (Fn.func (64 : FuncId)) [] [V.ptr (0 : Nat) (0 : Nat) (0 : Nat) (0 : Nat)],uu,uu,V.lit (Value.int IntKind.i64 (0 : Int)),j12,V.ro (List.map threeV s3),V.lit (Value.int IntKind.i64 s4),V.lit (Value.int IntKind.i64 s13),V.junk,V.junk,V.junk,V.junk,V.junk,V.junk,V.junk,V.junk,V.junk,V.junk],[B.box [V.ro (List.map taskV s5)]]⟩ = ob (e_think_May_E0_L0 k   n s3 s4 s5 s13) fun r => some ((V.lit (Value.int IntKind.i64 r),[B.box [V.ro (List.map taskV s5)]])) := by
  intro n
  induction n with
  | zero => intros; rfl
  | succ n ih =>
    intro s3 s4 s5 s13 j12
    rw [e_think_May_E0_L0]
    simp (maxSteps := 2000000) -implicitDefEqProofs only [xe40,xb40,xm40_0,xk40_0_ret,xe63,xb63,xe64,xb64,xm64_0,xm64_1,xm64_2,xm64_3,xm64_4,xm64_5,xk64_0_ret,xe81,xb81,xz81,xj81_0,xk81_0_ret,↓syP,syA,syD,Nat.reduceAdd,Nat.reduceSub,Nat.reduceMul,Nat.reduceLT,Nat.reduceLeDiff,Nat.reduceEqDiff,Nat.reduceBEq,Nat.reduceBNe,Int.reduceBEq,Int.reduceBNe,Int.reduceLT,Int.reduceLE,Int.reduceAdd,Int.reduceSub,Int.reduceNeg,syE,killR_cons,xQ,h_think_in,xr81_0,ih]
    all_goals simp -implicitDefEqProofs only [List.map_nil]
def g_think_May (k : Nat) (v0 : (List (Int × List Int))) (v1 : (List (Int × Int × Int))) : Option Bool :=
 ob (g_forest_May k v0) fun x38 =>
 bif x38 then
 ob (e_think_May_E0_L0 k (k + 17) v1 (↑v1.length : Int) v0 0) fun x39 =>
 some (!decide (0 ≤ x39))
 else
 some false
theorem h_think_May (k : Nat) (v0 : List (Int × List Int)) (v1 : List (Int × Int × Int)) : xC (k + 20) none 40 [.ro (List.map taskV v0),.ro (List.map threeV v1)] = ob (g_think_May k v0 v1) fun r => some ((.lit (.bool r)),[]) := by
  rw [xC_eq]
  unfold g_think_May
  simp (maxSteps := 2000000) -implicitDefEqProofs only [xe40,xb40,xm40_0,xk40_0_ret,xe63,xb63,xe64,xb64,xm64_0,xm64_1,xm64_2,xm64_3,xm64_4,xm64_5,xk64_0_ret,xe81,xb81,xz81,xj81_0,xk81_0_ret,↓syP,syA,syD,Nat.reduceAdd,Nat.reduceSub,Nat.reduceMul,Nat.reduceLT,Nat.reduceLeDiff,Nat.reduceEqDiff,Nat.reduceBEq,Nat.reduceBNe,Int.reduceBEq,Int.reduceBNe,Int.reduceLT,Int.reduceLE,Int.reduceAdd,Int.reduceSub,Int.reduceNeg,syE,killR_cons,xQ,h_forest_May,e_think_May_E0_L0_eq]
  all_goals simp -implicitDefEqProofs only [List.map_nil]
def g_think_Next (k : Nat) (v0 : (List (Int × List Int))) (v1 : (List (Int × Int × Int))) : Option (Int × Int) :=
 bif (↑v1.length : Int) == 0 then
 some (0,0)
 else
 ob (g_think_May k v0 v1) fun x60 =>
 bif !x60 then
 some (0,0)
 else
 ob (idx v1 (IntKind.i64.wrap ((↑v1.length : Int) - 1))) fun x61 =>
 ob (idx v0 x61.1) fun x62 =>
 bif decide (x61.2.1 < x62.1) then
 some (1,x61.1)
 else
 bif decide (x61.2.2 < (↑x62.2.length : Int)) then
 ob (idx x62.2 x61.2.2) fun x63 =>
 some (2,x63)
 else
 some (3,x61.1)
theorem h_think_Next (k : Nat) (v0 : List (Int × List Int)) (v1 : List (Int × Int × Int)) : xC (k + 21) none 55 [.ro (List.map taskV v0),.ro (List.map threeV v1)] = ob (g_think_Next k v0 v1) fun r => some ((.agg [.lit (.int .i64 r.1),.lit (.int .i64 r.2)]),[]) := by
  rw [xC_eq]
  unfold g_think_Next
  simp (maxSteps := 2000000) -implicitDefEqProofs only [xe55,xb55,xm55_0,xk55_0_ret,↓syP,syA,syD,Nat.reduceAdd,Nat.reduceSub,Nat.reduceMul,Nat.reduceLT,Nat.reduceLeDiff,Nat.reduceEqDiff,Nat.reduceBEq,Nat.reduceBNe,Int.reduceBEq,Int.reduceBNe,Int.reduceLT,Int.reduceLE,Int.reduceAdd,Int.reduceSub,Int.reduceNeg,syE,killR_cons,xQ,h_think_May]
  all_goals simp -implicitDefEqProofs only [List.map_nil]
def g_think_Do (k : Nat) (v0 : (List (Int × List Int))) (v1 : (List (Int × Int × Int))) : Option (List (Int × Int × Int)) :=
 ob (g_clone 24 v1) fun x74 =>
 ob (g_think_Next k v0 v1) fun x75 =>
 bif x75.1 == 1 then
 bif decide (0 ≤ IntKind.i64.wrap ((↑x74.length : Int) - 1) ∧ (IntKind.i64.wrap ((↑x74.length : Int) - 1)).toNat < x74.length) then
 ob (x74[(IntKind.i64.wrap ((↑x74.length : Int) - 1)).toNat]?) fun x76 =>
 bif decide (0 ≤ IntKind.i64.wrap ((↑x74.length : Int) - 1) ∧ (IntKind.i64.wrap ((↑x74.length : Int) - 1)).toNat < x74.length) then
 ob (x74[(IntKind.i64.wrap ((↑x74.length : Int) - 1)).toNat]?) fun x77 =>
 some (x74.set (IntKind.i64.wrap ((↑x74.length : Int) - 1)).toNat (x77.1,IntKind.i64.wrap (x76.2.1 + 1),x77.2.2))
 else
 none
 else
 none
 else
 bif x75.1 == 2 then
 bif decide (0 ≤ IntKind.i64.wrap ((↑x74.length : Int) - 1) ∧ (IntKind.i64.wrap ((↑x74.length : Int) - 1)).toNat < x74.length) then
 ob (x74[(IntKind.i64.wrap ((↑x74.length : Int) - 1)).toNat]?) fun x78 =>
 bif decide (0 ≤ IntKind.i64.wrap ((↑x74.length : Int) - 1) ∧ (IntKind.i64.wrap ((↑x74.length : Int) - 1)).toNat < x74.length) then
 ob (x74[(IntKind.i64.wrap ((↑x74.length : Int) - 1)).toNat]?) fun x79 =>
 some (x74.set (IntKind.i64.wrap ((↑x74.length : Int) - 1)).toNat (x79.1,x79.2.1,IntKind.i64.wrap (x78.2.2 + 1)))
 else
 none
 else
 none
 else
 bif x75.1 == 3 then
 ck (decide (0 ≤ IntKind.i64.wrap ((↑x74.length : Int) - 1) ∧ (IntKind.i64.wrap ((↑x74.length : Int) - 1)).toNat ≤ x74.length)) (
 ck (decide ((IntKind.i64.wrap ((↑x74.length : Int) - 1)).toNat ≤ x74.length)) (
 some (List.take (IntKind.i64.wrap ((↑x74.length : Int) - 1)).toNat x74)))
 else
 some x74
theorem h_think_Do (k : Nat) (v0 : List (Int × List Int)) (v1 : List (Int × Int × Int)) : xC (k + 22) none 56 [.ro (List.map taskV v0),.ro (List.map threeV v1)] = ob (g_think_Do k v0 v1) fun r => some ((.ro (List.map threeV r)),[]) := by
  rw [xC_eq]
  unfold g_think_Do
  simp (maxSteps := 2000000) -implicitDefEqProofs only [xe56,xb56,xe78,xb78,xC_eq (g := 78),xe91,xb91,xe92,xb92,xe93,xb93,↓syP,syA,syD,Nat.reduceAdd,Nat.reduceSub,Nat.reduceMul,Nat.reduceLT,Nat.reduceLeDiff,Nat.reduceEqDiff,Nat.reduceBEq,Nat.reduceBNe,Int.reduceBEq,Int.reduceBNe,Int.reduceLT,Int.reduceLE,Int.reduceAdd,Int.reduceSub,Int.reduceNeg,syE,killR_cons,xQ,h_think_Next]
  all_goals simp -implicitDefEqProofs only [List.map_nil]
def g_think_Start (k : Nat) (v0 : (List (Int × List Int))) (v1 : (List (Int × Int × Int))) (v2 : Int) : Option (List (Int × Int × Int)) :=
 ob (g_clone 24 v1) fun x89 =>
 ob (g_think_May k v0 v1) fun x90 =>
 bif !x90 then
 some x89
 else
 ob (g_think_in v2 (IntKind.i64.wrap ((↑v0.length : Int) - 1))) fun x91 =>
 bif !x91 then
 some x89
 else
 bif room (x89 ++ [(v2,0,0)]).length 24 then
 some (x89 ++ [(v2,0,0)])
 else
 none
theorem h_think_Start (k : Nat) (v0 : List (Int × List Int)) (v1 : List (Int × Int × Int)) (v2 : Int) : xC (k + 21) none 72 [.ro (List.map taskV v0),.ro (List.map threeV v1),.lit (.int .i64 v2)] = ob (g_think_Start k v0 v1 v2) fun r => some ((.ro (List.map threeV r)),[]) := by
  rw [xC_eq]
  unfold g_think_Start
  simp (maxSteps := 2000000) -implicitDefEqProofs only [xe72,xb72,xm72_0,xk72_0_ret,↓syP,syA,syD,Nat.reduceAdd,Nat.reduceSub,Nat.reduceMul,Nat.reduceLT,Nat.reduceLeDiff,Nat.reduceEqDiff,Nat.reduceBEq,Nat.reduceBNe,Int.reduceBEq,Int.reduceBNe,Int.reduceLT,Int.reduceLE,Int.reduceAdd,Int.reduceSub,Int.reduceNeg,syE,killR_cons,xQ,h_think_in,h_think_May]
  all_goals simp -implicitDefEqProofs only [List.map_nil]
end Go.Ab
