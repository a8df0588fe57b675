/- Functions as they are walked: printed by Walk.lean. -/
import Derived.Test.YtcmdnjaenhbdpaaGreatR5Run
import Derived.Test.YtcmdnjaenhbdpaaGreatR5Facts
import Derived.Test.YtcmdnjaenhbdpaaGreatR5Man
import Derived.Test.YtcmdnjaenhbdpaaGreatR5BF
set_option linter.unusedVariables false
set_option linter.unusedSimpArgs false
set_option maxRecDepth 100000
set_option linter.unusedVariables false
set_option linter.unusedSimpArgs false
namespace Go.Ab
open Go.Proofs
def g_poacherlaw04_Few_L0 (k : Nat) (v0 : (List (Int × List Int)))  : Nat → Int → Option Bool
 | 0,_ => none
 | n + 1,s3 =>
 bif decide (s3 < (↑v0.length : Int)) then
 bif decide (s3 ≤ (40 : Int)) then
 ob (idx v0 s3) fun x6 =>
 bif decide ((40 : Int) < (↑x6.2.length : Int)) then
 some (false)
 else
 g_poacherlaw04_Few_L0 k v0  n (IntKind.i64.wrap (s3 + (1 : Int)))
 else
 some (decide ((↑v0.length : Int) ≤ (40 : Int)))
 else
 some (decide ((↑v0.length : Int) ≤ (40 : Int)))
theorem g_poacherlaw04_Few_L0_eq (k : Nat) (v0 : List (Int × List Int)) : ∀ (n : Nat) (s3 : Int),rt none (itX (xX (xS k) (19 : Nat) (0 : Nat) k false) xl19_0 ((0 : Nat)) (runK (xX (xS k) (19 : Nat) (0 : Nat) k false) (bodyK (xS k).P Tryz.f19) xk19_0) n ⟨[V.ro (List.map taskV v0),uu,V.lit (Value.bool false),V.lit (Value.int IntKind.i64 s3),V.junk,V.junk,V.junk,V.junk,V.junk,V.junk,V.junk,V.junk,V.junk,V.junk,V.junk,V.junk,V.junk,V.junk,V.junk,V.junk,V.junk,uu,uu,uu],[]⟩) = ob (g_poacherlaw04_Few_L0 k v0  n s3) fun r => some ((.lit (.bool r)),[]) := by
  intro n
  induction n with
  | zero => intros; rfl
  | succ n ih =>
    intro s3
    rw [g_poacherlaw04_Few_L0]
    simp (maxSteps := 2000000) -implicitDefEqProofs only [xe19,xb19,xz19,xj19_0,xm19_1,xk19_0_ret,xk19_1_ret,↓syP,syA,syD,Nat.reduceAdd,Nat.reduceSub,Nat.reduceMul,Nat.reduceLT,Nat.reduceLeDiff,Nat.reduceEqDiff,Nat.reduceBEq,Nat.reduceBNe,Int.reduceBEq,Int.reduceBNe,Int.reduceLT,Int.reduceLE,Int.reduceAdd,Int.reduceSub,Int.reduceNeg,syE,xQ,xr19_0,ih]
    all_goals simp -implicitDefEqProofs only [List.map_nil]
def g_poacherlaw04_Few (k : Nat) (v0 : (List (Int × List Int))) : Option Bool :=
 g_poacherlaw04_Few_L0 k v0 k 0
theorem h_poacherlaw04_Few (k : Nat) (v0 : List (Int × List Int)) : xC (k + 1) none 19 [.ro (List.map taskV v0)] = ob (g_poacherlaw04_Few k v0) fun r => some ((.lit (.bool r)),[]) := by
  rw [xC_eq]
  unfold g_poacherlaw04_Few
  simp (maxSteps := 2000000) -implicitDefEqProofs only [xe19,xb19,xz19,xj19_0,xm19_1,xk19_0_ret,xk19_1_ret,↓syP,syA,syD,Nat.reduceAdd,Nat.reduceSub,Nat.reduceMul,Nat.reduceLT,Nat.reduceLeDiff,Nat.reduceEqDiff,Nat.reduceBEq,Nat.reduceBNe,Int.reduceBEq,Int.reduceBNe,Int.reduceLT,Int.reduceLE,Int.reduceAdd,Int.reduceSub,Int.reduceNeg,syE,xQ,g_poacherlaw04_Few_L0_eq k v0]
  all_goals simp -implicitDefEqProofs only [List.map_nil]
def g_forest_May_1 (v0 : (Int × List Int)) : Option Bool :=
 bif decide (v0.1 < 0) then
 some true
 else
 some (decide (20 < v0.1))
theorem h_forest_May_1 (k : Nat) (v0_0 : Int) (v0_1 : List Int) : xC (k + 1) none 61 [.agg [.lit (.int .i64 v0_0),.ro (List.map (intR .i64) v0_1)]] = ob (g_forest_May_1 (v0_0,v0_1)) fun r => some ((.lit (.bool r)),[]) := by
  rw [xC_eq]
  unfold g_forest_May_1
  simp (maxSteps := 2000000) -implicitDefEqProofs only [xe61,xb61,xm61_0,xk61_0_ret,↓syP,syA,syD,Nat.reduceAdd,Nat.reduceSub,Nat.reduceMul,Nat.reduceLT,Nat.reduceLeDiff,Nat.reduceEqDiff,Nat.reduceBEq,Nat.reduceBNe,Int.reduceBEq,Int.reduceBNe,Int.reduceLT,Int.reduceLE,Int.reduceAdd,Int.reduceSub,Int.reduceNeg,syE,xQ]
  all_goals simp -implicitDefEqProofs only [List.map_nil]
def g_slices_IndexFunc_apiTask_forest_May_1_L0 (k : Nat) (v0 : (List (Int × List Int)))  : Nat → Int → Option Int
 | 0,_ => none
 | n + 1,s12 =>
 bif decide (s12 < (↑v0.length : Int)) then
 ob (idx v0 s12) fun x17 =>
 ob (g_forest_May_1 (x17.1,x17.2)) fun x18 =>
 bif x18 then
 some (s12)
 else
 g_slices_IndexFunc_apiTask_forest_May_1_L0 k v0  n (IntKind.i64.wrap (s12 + (1 : Int)))
 else
 some ((-1 : Int))
theorem g_slices_IndexFunc_apiTask_forest_May_1_L0_eq (k : Nat) (v0 : List (Int × List Int)) : ∀ (n : Nat) (s12 : Int) ⦃j11 : V⦄,rt none (itX (xX (xS (k + (8 : Nat))) (79 : Nat) (0 : Nat) (k + (8 : Nat)) false) xl79_0 ((0 : Nat)) (runK (xX (xS (k + (8 : Nat))) (79 : Nat) (0 : Nat) (k + (8 : Nat)) false) (bodyK (xS (k + (8 : Nat))).P Tryz.f79) xk79_0) n ⟨[V.ro (List.map taskV v0),V.fn (Fn.func (61 : FuncId)) [] [],uu,uu,V.lit (Value.int IntKind.i64 (0 : Int)),j11,V.ro (List.map taskV v0),V.lit (Value.int IntKind.i64 (↑v0.length : Int)),V.lit (Value.int IntKind.i64 s12),V.junk,V.junk,V.junk,V.junk,V.junk,V.junk,V.junk,V.junk,V.junk,V.junk],[]⟩) = ob (g_slices_IndexFunc_apiTask_forest_May_1_L0 k v0  n s12) fun r => some ((.lit (.int .i64 r)),[]) := by
  intro n
  induction n with
  | zero => intros; rfl
  | succ n ih =>
    intro s12 j11
    rw [g_slices_IndexFunc_apiTask_forest_May_1_L0]
    simp (maxSteps := 2000000) -implicitDefEqProofs only [xe79,xb79,xz79,xj79_0,xk79_0_ret,↓syP,syA,syD,Nat.reduceAdd,Nat.reduceSub,Nat.reduceMul,Nat.reduceLT,Nat.reduceLeDiff,Nat.reduceEqDiff,Nat.reduceBEq,Nat.reduceBNe,Int.reduceBEq,Int.reduceBNe,Int.reduceLT,Int.reduceLE,Int.reduceAdd,Int.reduceSub,Int.reduceNeg,syE,xQ,h_forest_May_1,xr79_0,ih]
    all_goals simp -implicitDefEqProofs only [List.map_nil]
def g_slices_IndexFunc_apiTask_forest_May_1 (k : Nat) (v0 : (List (Int × List Int))) : Option Int :=
 g_slices_IndexFunc_apiTask_forest_May_1_L0 k v0 (k + 8) 0
theorem h_slices_IndexFunc_apiTask_forest_May_1 (k : Nat) (v0 : List (Int × List Int)) : xC (k + 9) none 79 [.ro (List.map taskV v0),V.fn (Fn.func (61 : FuncId)) [] []] = ob (g_slices_IndexFunc_apiTask_forest_May_1 k v0) fun r => some ((.lit (.int .i64 r)),[]) := by
  rw [xC_eq]
  unfold g_slices_IndexFunc_apiTask_forest_May_1
  simp (maxSteps := 2000000) -implicitDefEqProofs only [xe79,xb79,xz79,xj79_0,xk79_0_ret,↓syP,syA,syD,Nat.reduceAdd,Nat.reduceSub,Nat.reduceMul,Nat.reduceLT,Nat.reduceLeDiff,Nat.reduceEqDiff,Nat.reduceBEq,Nat.reduceBNe,Int.reduceBEq,Int.reduceBNe,Int.reduceLT,Int.reduceLE,Int.reduceAdd,Int.reduceSub,Int.reduceNeg,syE,xQ,g_slices_IndexFunc_apiTask_forest_May_1_L0_eq k v0]
  all_goals simp -implicitDefEqProofs only [List.map_nil]
def g_slices_ContainsFunc_apiTask_forest_May_1 (k : Nat) (v0 : (List (Int × List Int))) : Option Bool :=
 ob (g_slices_IndexFunc_apiTask_forest_May_1 (k + 8) v0) fun x20 =>
 some (decide (0 ≤ x20))
theorem h_slices_ContainsFunc_apiTask_forest_May_1 (k : Nat) (v0 : List (Int × List Int)) : xC (k + 18) none 60 [.ro (List.map taskV v0),V.fn (Fn.func (61 : FuncId)) [] []] = ob (g_slices_ContainsFunc_apiTask_forest_May_1 k v0) fun r => some ((.lit (.bool r)),[]) := by
  rw [xC_eq]
  unfold g_slices_ContainsFunc_apiTask_forest_May_1
  simp (maxSteps := 2000000) -implicitDefEqProofs only [xe60,xb60,xe79,xb79,xz79,xj79_0,xk79_0_ret,↓syP,syA,syD,Nat.reduceAdd,Nat.reduceSub,Nat.reduceMul,Nat.reduceLT,Nat.reduceLeDiff,Nat.reduceEqDiff,Nat.reduceBEq,Nat.reduceBNe,Int.reduceBEq,Int.reduceBNe,Int.reduceLT,Int.reduceLE,Int.reduceAdd,Int.reduceSub,Int.reduceNeg,syE,xQ,h_slices_IndexFunc_apiTask_forest_May_1]
  all_goals simp -implicitDefEqProofs only [List.map_nil]
def g_forest_May_L1 (k : Nat) (v0 : (List (Int × List Int))) (o0 : Int → List Bool → Option Bool) : Nat → List Int → Int → Int → List Bool → Int → Option Bool
 | 0,_,_,_,_,_ => none
 | n + 1,s29,s30,s38,s39,s48 =>
 bif decide (s38 < s30) then
 ob (idx s29 s38) fun x62 =>
 bif decide (x62 ≤ s48) then
 some (false)
 else
 bif decide ((↑v0.length : Int) ≤ x62) then
 some (false)
 else
 bif decide ((0 : Int) ≤ x62 ∧ x62.toNat < v0.length) then
 ob (s39[x62.toNat]?) fun x63 =>
 bif x63 then
 some (false)
 else
 bif decide ((0 : Int) ≤ x62 ∧ x62.toNat < v0.length) then
 ob (s39[x62.toNat]?) fun x64 =>
 g_forest_May_L1 k v0 o0 n (s29) (s30) (IntKind.i64.wrap (s38 + (1 : Int))) (s39.set x62.toNat true) (s48)
 else
 none
 else
 none
 else
 o0 (IntKind.i64.wrap (s48 + (1 : Int))) (s39)
theorem g_forest_May_L1_eq (k : Nat) (v0 : List (Int × List Int)) (n23 : Nat) (o0 : Int → List Bool → Option Bool) (ho0 : ∀ (s42 : Int) (s51 : List Bool) ⦃s24 : Bool⦄ ⦃j40 j41 j50 : V⦄,rt none (bq (itX (xX (xS (k + (17 : Nat))) (80 : Nat) (0 : Nat) (k + (17 : Nat)) false) xl80_0 ((7 : Nat)) (runK (xX (xS (k + (17 : Nat))) (80 : Nat) (0 : Nat) (k + (17 : Nat)) false) (bodyK (xS (k + (17 : Nat))).P Tryz.f80) xk80_0) n23 ⟨[V.yld (6 : Nat),V.ptr (5 : Nat) (0 : Nat) (0 : Nat) (0 : Nat),uu,j40,j41,uu,j50,V.ro (List.map taskV v0),V.lit (Value.int IntKind.i64 (↑v0.length : Int)),V.lit (Value.int IntKind.i64 s42),V.junk,V.junk,V.junk,V.junk,V.junk,V.junk,V.junk,V.junk,V.junk,V.junk,V.junk,V.junk,V.junk,V.junk,V.junk,V.junk,V.junk,V.junk],[B.box [V.ro (List.map taskV v0)],B.box [V.lit (Value.bool false)],B.rows (1 : Nat) (List.map boolR s51) (0 : Nat) true,B.rows (0 : Nat) [] (0 : Nat) true,B.box [V.own (2 : Nat) (0 : Nat) v0.length],B.box [V.ro (List.map taskV v0)],(B.loop ⟨LoopState.ready,none,(39 : Nat),[V.ro (List.map taskV v0),V.ptr (0 : Nat) (0 : Nat) (0 : Nat) (0 : Nat),V.ptr (1 : Nat) (0 : Nat) (0 : Nat) (0 : Nat),V.ptr (4 : Nat) (0 : Nat) (0 : Nat) (0 : Nat),uu,uu,V.ro (List.map taskV v0),V.lit (Value.int IntKind.i64 (↑v0.length : Int)),V.lit (Value.bool (decide ((30 : Int) < (↑v0.length : Int)))),V.lit (Value.bool false),V.ro (List.map taskV v0),V.lit (Value.bool s24),V.lit (Value.bool s24),V.ro (List.map taskV v0),V.lit (Value.int IntKind.i64 (↑v0.length : Int)),V.own (2 : Nat) (0 : Nat) v0.length,V.ro (List.map taskV v0),V.fn (Fn.func (80 : FuncId)) [] [V.ptr (5 : Nat) (0 : Nat) (0 : Nat) (0 : Nat)],uu,uu,uu,uu,uu,uu,uu,uu,uu,uu,uu,uu,uu,uu,uu,uu,uu,uu,uu,uu],[(18 : Tmp),(19 : Tmp)],xl39_0,xl39_1⟩)]⟩) (rfK (runK (xX (xS (k + (18 : Nat))) (39 : Nat) (0 : Nat) (k + (18 : Nat)) false) (bodyK (xS (k + (18 : Nat))).P Tryz.f39) xk39_1) [V.ro (List.map taskV v0),V.ptr (0 : Nat) (0 : Nat) (0 : Nat) (0 : Nat),V.ptr (1 : Nat) (0 : Nat) (0 : Nat) (0 : Nat),V.ptr (4 : Nat) (0 : Nat) (0 : Nat) (0 : Nat),uu,uu,V.ro (List.map taskV v0),V.lit (Value.int IntKind.i64 (↑v0.length : Int)),V.lit (Value.bool (decide ((30 : Int) < (↑v0.length : Int)))),V.lit (Value.bool false),V.ro (List.map taskV v0),V.lit (Value.bool s24),V.lit (Value.bool s24),V.ro (List.map taskV v0),V.lit (Value.int IntKind.i64 (↑v0.length : Int)),V.own (2 : Nat) (0 : Nat) v0.length,V.ro (List.map taskV v0),V.fn (Fn.func (80 : FuncId)) [] [V.ptr (5 : Nat) (0 : Nat) (0 : Nat) (0 : Nat)],uu,uu,uu,uu,uu,uu,uu,uu,uu,uu,uu,uu,uu,uu,uu,uu,uu,uu,uu,uu] ((6 : Nat)))) = ob (o0 s42 s51) fun r => some ((.lit (.bool r)),[])) : ∀ (n : Nat) (s29 : List Int) (s30 : Int) (s38 : Int) (s39 : List Bool) (s48 : Int) ⦃s28 : Int⦄ ⦃s31 : Bool⦄ ⦃s49 : Bool⦄ ⦃j37 : V⦄,rt none (bq (itX (xX (xS (k + (17 : Nat))) (80 : Nat) (0 : Nat) (k + (17 : Nat)) false) xl80_1 ((9 : Nat)) (runK (xX (xS (k + (17 : Nat))) (80 : Nat) (0 : Nat) (k + (17 : Nat)) false) (nextK (xX (xS (k + (17 : Nat))) (80 : Nat) (0 : Nat) (k + (17 : Nat)) false) xl80_0 (7 : Nat) (runK (xX (xS (k + (17 : Nat))) (80 : Nat) (0 : Nat) (k + (17 : Nat)) false) (bodyK (xS (k + (17 : Nat))).P Tryz.f80) xk80_0) n23) xk80_1) n ⟨[V.yld (6 : Nat),V.ptr (5 : Nat) (0 : Nat) (0 : Nat) (0 : Nat),uu,V.lit (Value.int IntKind.i64 s48),V.ptr (8 : Nat) (0 : Nat) (0 : Nat) (0 : Nat),uu,j37,V.ro (List.map taskV v0),V.lit (Value.int IntKind.i64 (↑v0.length : Int)),V.lit (Value.int IntKind.i64 s48),V.lit (Value.bool s49),V.lit (Value.int IntKind.i64 s48),V.rp [V.lit (Value.int IntKind.i64 s28),V.ro (List.map (intR IntKind.i64) s29)],V.agg [V.lit (Value.int IntKind.i64 s28),V.ro (List.map (intR IntKind.i64) s29)],V.ptr (8 : Nat) (0 : Nat) (0 : Nat) (1 : Nat),V.ro (List.map (intR IntKind.i64) s29),V.lit (Value.int IntKind.i64 s30),V.lit (Value.int IntKind.i64 s38),V.junk,V.junk,V.junk,V.junk,V.junk,V.junk,V.junk,V.junk,V.junk,V.junk],[B.box [V.ro (List.map taskV v0)],B.box [V.lit (Value.bool false)],B.rows (1 : Nat) (List.map boolR s39) (0 : Nat) true,B.rows (0 : Nat) [] (0 : Nat) true,B.box [V.own (2 : Nat) (0 : Nat) v0.length],B.box [V.ro (List.map taskV v0)],(B.loop ⟨LoopState.ready,none,(39 : Nat),[V.ro (List.map taskV v0),V.ptr (0 : Nat) (0 : Nat) (0 : Nat) (0 : Nat),V.ptr (1 : Nat) (0 : Nat) (0 : Nat) (0 : Nat),V.ptr (4 : Nat) (0 : Nat) (0 : Nat) (0 : Nat),uu,uu,V.ro (List.map taskV v0),V.lit (Value.int IntKind.i64 (↑v0.length : Int)),V.lit (Value.bool (decide ((30 : Int) < (↑v0.length : Int)))),V.lit (Value.bool false),V.ro (List.map taskV v0),V.lit (Value.bool s31),V.lit (Value.bool s31),V.ro (List.map taskV v0),V.lit (Value.int IntKind.i64 (↑v0.length : Int)),V.own (2 : Nat) (0 : Nat) v0.length,V.ro (List.map taskV v0),V.fn (Fn.func (80 : FuncId)) [] [V.ptr (5 : Nat) (0 : Nat) (0 : Nat) (0 : Nat)],uu,uu,uu,uu,uu,uu,uu,uu,uu,uu,uu,uu,uu,uu,uu,uu,uu,uu,uu,uu],[(18 : Tmp),(19 : Tmp)],xl39_0,xl39_1⟩),B.rows (0 : Nat) [] (0 : Nat) true,B.box [V.lit (Value.int IntKind.i64 s28),V.ro (List.map (intR IntKind.i64) s29)]]⟩) (rfK (runK (xX (xS (k + (18 : Nat))) (39 : Nat) (0 : Nat) (k + (18 : Nat)) false) (bodyK (xS (k + (18 : Nat))).P Tryz.f39) xk39_1) [V.ro (List.map taskV v0),V.ptr (0 : Nat) (0 : Nat) (0 : Nat) (0 : Nat),V.ptr (1 : Nat) (0 : Nat) (0 : Nat) (0 : Nat),V.ptr (4 : Nat) (0 : Nat) (0 : Nat) (0 : Nat),uu,uu,V.ro (List.map taskV v0),V.lit (Value.int IntKind.i64 (↑v0.length : Int)),V.lit (Value.bool (decide ((30 : Int) < (↑v0.length : Int)))),V.lit (Value.bool false),V.ro (List.map taskV v0),V.lit (Value.bool s31),V.lit (Value.bool s31),V.ro (List.map taskV v0),V.lit (Value.int IntKind.i64 (↑v0.length : Int)),V.own (2 : Nat) (0 : Nat) v0.length,V.ro (List.map taskV v0),V.fn (Fn.func (80 : FuncId)) [] [V.ptr (5 : Nat) (0 : Nat) (0 : Nat) (0 : Nat)],uu,uu,uu,uu,uu,uu,uu,uu,uu,uu,uu,uu,uu,uu,uu,uu,uu,uu,uu,uu] ((6 : Nat)))) = ob (g_forest_May_L1 k v0 o0 n s29 s30 s38 s39 s48) fun r => some ((.lit (.bool r)),[]) := by
  intro n
  induction n with
  | zero => intros; rfl
  | succ n ih =>
    intro s29 s30 s38 s39 s48 s28 s31 s49 j37
    rw [g_forest_May_L1]
    simp (maxSteps := 2000000) -implicitDefEqProofs only [xe39,xb39,xz39,xm39_0,xj39_1,xq39_1_1_1_0_1_0_1,xq39_1_1_1_0_1_0_0,xm39_2,xm39_3,xk39_0_ret,xk39_1_ret,xk39_2_ret,xq39_0_eq,xe60,xb60,xe61,xb61,xm61_0,xk61_0_ret,xe62,xb62,xC_eq (g := 62),xe79,xb79,xz79,xj79_0,xk79_0_ret,xe80,xb80,xz80,xj80_0,xj80_1,xk80_0_ret,xk80_1_ret,↓syP,syA,syD,Nat.reduceAdd,Nat.reduceSub,Nat.reduceMul,Nat.reduceLT,Nat.reduceLeDiff,Nat.reduceEqDiff,Nat.reduceBEq,Nat.reduceBNe,Int.reduceBEq,Int.reduceBNe,Int.reduceLT,Int.reduceLE,Int.reduceAdd,Int.reduceSub,Int.reduceNeg,syE,xQ,h_slices_ContainsFunc_apiTask_forest_May_1,xr80_1,ih,ho0]
    all_goals simp -implicitDefEqProofs only [List.map_nil]
def g_forest_May_L0 (k : Nat) (v0 : (List (Int × List Int)))  : Nat → Int → List Bool → Option Bool
 | 0,_,_ => none
 | n + 1,s42,s51 =>
 bif decide (s42 < (↑v0.length : Int)) then
 ob (idx v0 s42) fun x58 =>
 g_forest_May_L1 k v0 (fun s42 s51 => g_forest_May_L0 k v0  n s42 s51) (k + (17 : Nat)) (x58.2) ((↑x58.2.length : Int)) ((0 : Int)) (s51) (s42)
 else
 some (true)
theorem g_forest_May_L0_eq (k : Nat) (v0 : List (Int × List Int)) : ∀ (n : Nat) (s42 : Int) (s51 : List Bool) ⦃s24 : Bool⦄ ⦃j40 j41 j50 : V⦄,rt none (bq (itX (xX (xS (k + (17 : Nat))) (80 : Nat) (0 : Nat) (k + (17 : Nat)) false) xl80_0 ((7 : Nat)) (runK (xX (xS (k + (17 : Nat))) (80 : Nat) (0 : Nat) (k + (17 : Nat)) false) (bodyK (xS (k + (17 : Nat))).P Tryz.f80) xk80_0) n ⟨[V.yld (6 : Nat),V.ptr (5 : Nat) (0 : Nat) (0 : Nat) (0 : Nat),uu,j40,j41,uu,j50,V.ro (List.map taskV v0),V.lit (Value.int IntKind.i64 (↑v0.length : Int)),V.lit (Value.int IntKind.i64 s42),V.junk,V.junk,V.junk,V.junk,V.junk,V.junk,V.junk,V.junk,V.junk,V.junk,V.junk,V.junk,V.junk,V.junk,V.junk,V.junk,V.junk,V.junk],[B.box [V.ro (List.map taskV v0)],B.box [V.lit (Value.bool false)],B.rows (1 : Nat) (List.map boolR s51) (0 : Nat) true,B.rows (0 : Nat) [] (0 : Nat) true,B.box [V.own (2 : Nat) (0 : Nat) v0.length],B.box [V.ro (List.map taskV v0)],(B.loop ⟨LoopState.ready,none,(39 : Nat),[V.ro (List.map taskV v0),V.ptr (0 : Nat) (0 : Nat) (0 : Nat) (0 : Nat),V.ptr (1 : Nat) (0 : Nat) (0 : Nat) (0 : Nat),V.ptr (4 : Nat) (0 : Nat) (0 : Nat) (0 : Nat),uu,uu,V.ro (List.map taskV v0),V.lit (Value.int IntKind.i64 (↑v0.length : Int)),V.lit (Value.bool (decide ((30 : Int) < (↑v0.length : Int)))),V.lit (Value.bool false),V.ro (List.map taskV v0),V.lit (Value.bool s24),V.lit (Value.bool s24),V.ro (List.map taskV v0),V.lit (Value.int IntKind.i64 (↑v0.length : Int)),V.own (2 : Nat) (0 : Nat) v0.length,V.ro (List.map taskV v0),V.fn (Fn.func (80 : FuncId)) [] [V.ptr (5 : Nat) (0 : Nat) (0 : Nat) (0 : Nat)],uu,uu,uu,uu,uu,uu,uu,uu,uu,uu,uu,uu,uu,uu,uu,uu,uu,uu,uu,uu],[(18 : Tmp),(19 : Tmp)],xl39_0,xl39_1⟩)]⟩) (rfK (runK (xX (xS (k + (18 : Nat))) (39 : Nat) (0 : Nat) (k + (18 : Nat)) false) (bodyK (xS (k + (18 : Nat))).P Tryz.f39) xk39_1) [V.ro (List.map taskV v0),V.ptr (0 : Nat) (0 : Nat) (0 : Nat) (0 : Nat),V.ptr (1 : Nat) (0 : Nat) (0 : Nat) (0 : Nat),V.ptr (4 : Nat) (0 : Nat) (0 : Nat) (0 : Nat),uu,uu,V.ro (List.map taskV v0),V.lit (Value.int IntKind.i64 (↑v0.length : Int)),V.lit (Value.bool (decide ((30 : Int) < (↑v0.length : Int)))),V.lit (Value.bool false),V.ro (List.map taskV v0),V.lit (Value.bool s24),V.lit (Value.bool s24),V.ro (List.map taskV v0),V.lit (Value.int IntKind.i64 (↑v0.length : Int)),V.own (2 : Nat) (0 : Nat) v0.length,V.ro (List.map taskV v0),V.fn (Fn.func (80 : FuncId)) [] [V.ptr (5 : Nat) (0 : Nat) (0 : Nat) (0 : Nat)],uu,uu,uu,uu,uu,uu,uu,uu,uu,uu,uu,uu,uu,uu,uu,uu,uu,uu,uu,uu] ((6 : Nat)))) = ob (g_forest_May_L0 k v0  n s42 s51) fun r => some ((.lit (.bool r)),[]) := by
  intro n
  induction n with
  | zero => intros; rfl
  | succ n ih =>
    intro s42 s51 s24 j40 j41 j50
    rw [g_forest_May_L0]
    simp (maxSteps := 2000000) -implicitDefEqProofs only [xe39,xb39,xz39,xm39_0,xj39_1,xq39_1_1_1_0_1_0_1,xq39_1_1_1_0_1_0_0,xm39_2,xm39_3,xk39_0_ret,xk39_1_ret,xk39_2_ret,xq39_0_eq,xe60,xb60,xe61,xb61,xm61_0,xk61_0_ret,xe62,xb62,xC_eq (g := 62),xe79,xb79,xz79,xj79_0,xk79_0_ret,xe80,xb80,xz80,xj80_0,xj80_1,xk80_0_ret,xk80_1_ret,↓syP,syA,syD,Nat.reduceAdd,Nat.reduceSub,Nat.reduceMul,Nat.reduceLT,Nat.reduceLeDiff,Nat.reduceEqDiff,Nat.reduceBEq,Nat.reduceBNe,Int.reduceBEq,Int.reduceBNe,Int.reduceLT,Int.reduceLE,Int.reduceAdd,Int.reduceSub,Int.reduceNeg,syE,xQ,h_slices_ContainsFunc_apiTask_forest_May_1,xr80_0,ih,g_forest_May_L1_eq k v0 _ (fun s42 s51 => g_forest_May_L0 k v0  n s42 s51) ih]
    all_goals simp -implicitDefEqProofs only [List.map_nil]
def g_forest_May (k : Nat) (v0 : (List (Int × List Int))) : Option Bool :=
 bif decide (30 < (↑v0.length : Int)) then
 some false
 else
 ob (g_slices_ContainsFunc_apiTask_forest_May_1 k v0) fun x65 =>
 bif x65 then
 some false
 else
 bif decide (0 ≤ (↑v0.length : Int) ∧ (↑v0.length : Int) ≤ 9223372036854775807 ∧ (↑v0.length : Int) * 1 ≤ 70368744177664) then
 g_forest_May_L0 k v0 (k + 17) 0 (List.replicate v0.length false)
 else
 none
theorem h_forest_May (k : Nat) (v0 : List (Int × List Int)) : xC (k + 19) none 39 [.ro (List.map taskV v0)] = ob (g_forest_May k v0) fun r => some ((.lit (.bool r)),[]) := by
  rw [xC_eq]
  unfold g_forest_May
  simp (maxSteps := 2000000) -implicitDefEqProofs only [xe39,xb39,xz39,xm39_0,xj39_1,xq39_1_1_1_0_1_0_1,xq39_1_1_1_0_1_0_0,xm39_2,xm39_3,xk39_0_ret,xk39_1_ret,xk39_2_ret,xq39_0_eq,xe60,xb60,xe61,xb61,xm61_0,xk61_0_ret,xe62,xb62,xC_eq (g := 62),xe79,xb79,xz79,xj79_0,xk79_0_ret,xe80,xb80,xz80,xj80_0,xj80_1,xk80_0_ret,xk80_1_ret,↓syP,syA,syD,Nat.reduceAdd,Nat.reduceSub,Nat.reduceMul,Nat.reduceLT,Nat.reduceLeDiff,Nat.reduceEqDiff,Nat.reduceBEq,Nat.reduceBNe,Int.reduceBEq,Int.reduceBNe,Int.reduceLT,Int.reduceLE,Int.reduceAdd,Int.reduceSub,Int.reduceNeg,syE,xQ,h_slices_ContainsFunc_apiTask_forest_May_1,g_forest_May_L0_eq k v0]
  all_goals simp -implicitDefEqProofs only [List.map_nil]
end Go.Ab
