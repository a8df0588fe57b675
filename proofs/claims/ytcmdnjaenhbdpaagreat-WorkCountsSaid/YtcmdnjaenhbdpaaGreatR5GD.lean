/- Functions as they are walked: printed by Walk.lean. -/
import Derived.Test.YtcmdnjaenhbdpaaGreatR5GW
set_option linter.unusedVariables false
set_option linter.unusedSimpArgs false
set_option maxRecDepth 100000
set_option linter.unusedVariables false
set_option linter.unusedSimpArgs false
namespace Go.Ab
open Go.Proofs
def g_push_Step (v0 : (Int × Int × Int × Int)) (v1 : (List Int)) (v2 : (Int × Int × Int × Int × Int × Int × Int)) : Option ((List Int) × (Int × Int × Int × Int × Int × Int × Int)) :=
 ob (g_clone 8 v1) fun x13 =>
 ob (g_push_Goes v0 v1 v2 0 4) fun x14 =>
 bif x14 then
 bif v2.2.1 == 0 then
 ob (g_lay_Bottom v0 v2.2.2.1) fun x15 =>
 ob (g_cell_Load x13 x15) fun x16 =>
 some (x13,(v2.1,1,v2.2.2.1,v2.2.2.2.1,x16,v2.2.2.2.2.2))
 else
 bif v2.2.1 == 1 then
 ob (g_lay_Top v0 v2.2.2.1) fun x17 =>
 ob (g_cell_Load x13 x17) fun x18 =>
 bif decide (IntKind.u64.wrap v0.2.1 ≤ IntKind.u64.wrap (v2.2.2.2.2.1 - x18)) then
 ob (g_frame_End (v2.1,2,v2.2.2.1,v2.2.2.2.1,v2.2.2.2.2.1,x18,v2.2.2.2.2.2.2) 2 v2.2.2.2.1) fun x19 =>
 some (x13,x19)
 else
 some (x13,(v2.1,2,v2.2.2.1,v2.2.2.2.1,v2.2.2.2.2.1,x18,v2.2.2.2.2.2.2))
 else
 bif v2.2.1 == 2 then
 ob (g_lay_Slot v0 v2.2.2.1 v2.2.2.2.2.1) fun x20 =>
 ob (g_cell_Store x13 x20 v2.2.2.2.1) fun x21 =>
 some (x21,(v2.1,3,v2.2.2))
 else
 bif v2.2.1 == 3 then
 ob (g_lay_Bottom v0 v2.2.2.1) fun x22 =>
 ob (g_cell_Store x13 x22 (IntKind.u64.wrap (v2.2.2.2.2.1 + 1))) fun x23 =>
 ob (g_frame_End v2 1 v2.2.2.2.1) fun x24 =>
 some (x23,x24)
 else
 none
 else
 some (x13,v2)
theorem h_push_Step (k : Nat) (v0_0 v0_1 v0_2 v0_3 : Int) (v1 : List Int) (v2_0 v2_1 v2_2 v2_3 v2_4 v2_5 v2_6 : Int) : xC (k + 24) none 84 [.agg [.lit (.int .i64 v0_0),.lit (.int .i64 v0_1),.lit (.int .i64 v0_2),.lit (.int .i64 v0_3)],.ro (List.map (intR .u64) v1),.agg [.lit (.int .i64 v2_0),.lit (.int .i64 v2_1),.lit (.int .i64 v2_2),.lit (.int .u64 v2_3),.lit (.int .u64 v2_4),.lit (.int .u64 v2_5),.lit (.int .i64 v2_6)]] = ob (g_push_Step (v0_0,v0_1,v0_2,v0_3) v1 (v2_0,v2_1,v2_2,v2_3,v2_4,v2_5,v2_6)) fun r => some ((.tup [.ro (List.map (intR .u64) r.1),.agg [.lit (.int .i64 r.2.1),.lit (.int .i64 r.2.2.1),.lit (.int .i64 r.2.2.2.1),.lit (.int .u64 r.2.2.2.2.1),.lit (.int .u64 r.2.2.2.2.2.1),.lit (.int .u64 r.2.2.2.2.2.2.1),.lit (.int .i64 r.2.2.2.2.2.2.2)]]),[]) := by
  rw [xC_eq]
  unfold g_push_Step
  simp (maxSteps := 2000000) -implicitDefEqProofs only [xe84,xb84,xj84_0,xk84_0_ret,xe107,xb107,xe108,xb108,xe109,xb109,xe110,xb110,↓syP,syA,syD,Nat.reduceAdd,Nat.reduceSub,Nat.reduceMul,Nat.reduceLT,Nat.reduceLeDiff,Nat.reduceEqDiff,Nat.reduceBEq,Nat.reduceBNe,Int.reduceBEq,Int.reduceBNe,Int.reduceLT,Int.reduceLE,Int.reduceAdd,Int.reduceSub,Int.reduceNeg,syE,killR_cons,xQ,h_cell_Load,h_cell_Store,h_frame_End,h_push_Goes,h_lay_Top,h_lay_Bottom,h_lay_Slot]
  all_goals simp -implicitDefEqProofs only [List.map_nil]
def g_pop_Step (v0 : (Int × Int × Int × Int)) (v1 : (List Int)) (v2 : (Int × Int × Int × Int × Int × Int × Int)) : Option ((List Int) × (Int × Int × Int × Int × Int × Int × Int)) :=
 ob (g_clone 8 v1) fun x53 =>
 ob (g_push_Goes v0 v1 v2 1 7) fun x54 =>
 bif !x54 then
 some (x53,v2)
 else
 ob (g_lay_Top v0 v2.2.2.1) fun x55 =>
 ob (g_lay_Bottom v0 v2.2.2.1) fun x56 =>
 bif v2.2.1 == 0 then
 ob (g_cell_Load x53 x56) fun x57 =>
 some (x53,(v2.1,(IntKind.i64.wrap (v2.2.1 + 1)),v2.2.2.1,v2.2.2.2.1,(IntKind.u64.wrap (x57 - 1)),v2.2.2.2.2.2))
 else
 bif v2.2.1 == 1 then
 ob (g_cell_Store x53 x56 v2.2.2.2.2.1) fun x58 =>
 some (x58,(v2.1,(IntKind.i64.wrap (v2.2.1 + 1)),v2.2.2))
 else
 bif v2.2.1 == 2 then
 ob (g_cell_Load x53 x55) fun x59 =>
 ob (g_word_Far v2.2.2.2.2.1 x59) fun x60 =>
 bif decide (x60 < 0) then
 some (x53,(v2.1,6,v2.2.2.1,v2.2.2.2.1,v2.2.2.2.2.1,x59,v2.2.2.2.2.2.2))
 else
 some (x53,(v2.1,(IntKind.i64.wrap (v2.2.1 + 1)),v2.2.2.1,v2.2.2.2.1,v2.2.2.2.2.1,x59,v2.2.2.2.2.2.2))
 else
 bif v2.2.1 == 3 then
 ob (g_lay_Slot v0 v2.2.2.1 v2.2.2.2.2.1) fun x61 =>
 ob (g_cell_Load x53 x61) fun x62 =>
 bif v2.2.2.2.2.1 != v2.2.2.2.2.2.1 then
 ob (g_frame_End (v2.1,v2.2.1,v2.2.2.1,x62,v2.2.2.2.2) 1 x62) fun x63 =>
 some (x53,x63)
 else
 some (x53,(v2.1,(IntKind.i64.wrap (v2.2.1 + 1)),v2.2.2.1,x62,v2.2.2.2.2))
 else
 bif v2.2.1 == 4 then
 ob (g_cell_Cas x53 x55 v2.2.2.2.2.2.1 (IntKind.u64.wrap (v2.2.2.2.2.2.1 + 1))) fun x64 =>
 bif !x64.2 then
 some (x64.1,(v2.1,6,v2.2.2))
 else
 some (x64.1,(v2.1,(IntKind.i64.wrap (v2.2.1 + 1)),v2.2.2))
 else
 bif v2.2.1 == 5 then
 ob (g_cell_Store x53 x56 (IntKind.u64.wrap (v2.2.2.2.2.1 + 1))) fun x65 =>
 ob (g_frame_End v2 1 v2.2.2.2.1) fun x66 =>
 some (x65,x66)
 else
 ob (g_cell_Store x53 x56 (IntKind.u64.wrap (v2.2.2.2.2.1 + 1))) fun x67 =>
 ob (g_frame_End v2 3 0) fun x68 =>
 some (x67,x68)
theorem h_pop_Step (k : Nat) (v0_0 v0_1 v0_2 v0_3 : Int) (v1 : List Int) (v2_0 v2_1 v2_2 v2_3 v2_4 v2_5 v2_6 : Int) : xC (k + 24) none 85 [.agg [.lit (.int .i64 v0_0),.lit (.int .i64 v0_1),.lit (.int .i64 v0_2),.lit (.int .i64 v0_3)],.ro (List.map (intR .u64) v1),.agg [.lit (.int .i64 v2_0),.lit (.int .i64 v2_1),.lit (.int .i64 v2_2),.lit (.int .u64 v2_3),.lit (.int .u64 v2_4),.lit (.int .u64 v2_5),.lit (.int .i64 v2_6)]] = ob (g_pop_Step (v0_0,v0_1,v0_2,v0_3) v1 (v2_0,v2_1,v2_2,v2_3,v2_4,v2_5,v2_6)) fun r => some ((.tup [.ro (List.map (intR .u64) r.1),.agg [.lit (.int .i64 r.2.1),.lit (.int .i64 r.2.2.1),.lit (.int .i64 r.2.2.2.1),.lit (.int .u64 r.2.2.2.2.1),.lit (.int .u64 r.2.2.2.2.2.1),.lit (.int .u64 r.2.2.2.2.2.2.1),.lit (.int .i64 r.2.2.2.2.2.2.2)]]),[]) := by
  rw [xC_eq]
  unfold g_pop_Step
  simp (maxSteps := 2000000) -implicitDefEqProofs only [xe85,xb85,xe111,xb111,↓syP,syA,syD,Nat.reduceAdd,Nat.reduceSub,Nat.reduceMul,Nat.reduceLT,Nat.reduceLeDiff,Nat.reduceEqDiff,Nat.reduceBEq,Nat.reduceBNe,Int.reduceBEq,Int.reduceBNe,Int.reduceLT,Int.reduceLE,Int.reduceAdd,Int.reduceSub,Int.reduceNeg,syE,killR_cons,xQ,h_cell_Load,h_cell_Store,h_cell_Cas,h_frame_End,h_push_Goes,h_lay_Top,h_lay_Bottom,h_lay_Slot,h_word_Far]
  all_goals simp -implicitDefEqProofs only [List.map_nil]
def g_steal_Step_L0 (k : Nat) (v0 : (Int × Int × Int × Int)) (v1 : (List Int)) (v2 : (Int × Int × Int × Int × Int × Int × Int))  : Nat → List Int → Int → Int → Int → Option ((List Int) × (Int × Int × Int × Int × Int × Int × Int))
 | 0,_,_,_,_ => none
 | n + 1,s90,s93,s94,s116 =>
 bif decide (s116 < (4 : Int)) then
 bif decide ((0 : Int) ≤ s116 ∧ s116.toNat < (4 : Nat)) then
 bif s116.toNat == (0 : Nat) then
 bif s116 != v2.2.1 then
 g_steal_Step_L0 k v0 v1 v2  n (s90) (s93) (s94) (IntKind.i64.wrap (s116 + (1 : Int)))
 else
 ob (g_cell_Load s90 s93) fun x151 =>
 ob (g_frame_Over (v2.1,v2.2.1,v2.2.2.1,v2.2.2.2.1,v2.2.2.2.2.1,x151,v2.2.2.2.2.2.2)) fun x152 =>
 bif !x152 then
 some ((s90),((v2.1),(IntKind.i64.wrap (v2.2.1 + (1 : Int))),(v2.2.2.1),(v2.2.2.2.1),(v2.2.2.2.2.1),(x151),(v2.2.2.2.2.2.2)))
 else
 some ((s90),((v2.1),(v2.2.1),(v2.2.2.1),(v2.2.2.2.1),(v2.2.2.2.2.1),(x151),(v2.2.2.2.2.2.2)))
 else
 bif s116.toNat == (1 : Nat) then
 bif s116 != v2.2.1 then
 g_steal_Step_L0 k v0 v1 v2  n (s90) (s93) (s94) (IntKind.i64.wrap (s116 + (1 : Int)))
 else
 ob (g_cell_Load s90 s94) fun x153 =>
 ob (g_word_Far x153 v2.2.2.2.2.2.1) fun x154 =>
 bif decide (x154 ≤ (0 : Int)) then
 ob (g_frame_End (v2.1,v2.2.1,v2.2.2.1,v2.2.2.2.1,x153,v2.2.2.2.2.2.1,v2.2.2.2.2.2.2) (3 : Int) (0 : Int)) fun x155 =>
 ob (g_frame_Over (x155.1,x155.2.1,x155.2.2.1,x155.2.2.2.1,x155.2.2.2.2.1,x155.2.2.2.2.2.1,x155.2.2.2.2.2.2)) fun x156 =>
 bif !x156 then
 some ((s90),((x155.1),(IntKind.i64.wrap (x155.2.1 + (1 : Int))),(x155.2.2.1),(x155.2.2.2.1),(x155.2.2.2.2.1),(x155.2.2.2.2.2.1),(x155.2.2.2.2.2.2)))
 else
 some ((s90),((x155.1),(x155.2.1),(x155.2.2.1),(x155.2.2.2.1),(x155.2.2.2.2.1),(x155.2.2.2.2.2.1),(x155.2.2.2.2.2.2)))
 else
 ob (g_frame_Over (v2.1,v2.2.1,v2.2.2.1,v2.2.2.2.1,x153,v2.2.2.2.2.2.1,v2.2.2.2.2.2.2)) fun x157 =>
 bif !x157 then
 some ((s90),((v2.1),(IntKind.i64.wrap (v2.2.1 + (1 : Int))),(v2.2.2.1),(v2.2.2.2.1),(x153),(v2.2.2.2.2.2.1),(v2.2.2.2.2.2.2)))
 else
 some ((s90),((v2.1),(v2.2.1),(v2.2.2.1),(v2.2.2.2.1),(x153),(v2.2.2.2.2.2.1),(v2.2.2.2.2.2.2)))
 else
 bif s116.toNat == (2 : Nat) then
 bif s116 != v2.2.1 then
 g_steal_Step_L0 k v0 v1 v2  n (s90) (s93) (s94) (IntKind.i64.wrap (s116 + (1 : Int)))
 else
 ob (g_lay_Slot (v0.1,v0.2.1,v0.2.2.1,v0.2.2.2) v2.2.2.1 v2.2.2.2.2.2.1) fun x158 =>
 ob (g_cell_Load s90 x158) fun x159 =>
 ob (g_frame_Over (v2.1,v2.2.1,v2.2.2.1,x159,v2.2.2.2.2.1,v2.2.2.2.2.2.1,v2.2.2.2.2.2.2)) fun x160 =>
 bif !x160 then
 some ((s90),((v2.1),(IntKind.i64.wrap (v2.2.1 + (1 : Int))),(v2.2.2.1),(x159),(v2.2.2.2.2.1),(v2.2.2.2.2.2.1),(v2.2.2.2.2.2.2)))
 else
 some ((s90),((v2.1),(v2.2.1),(v2.2.2.1),(x159),(v2.2.2.2.2.1),(v2.2.2.2.2.2.1),(v2.2.2.2.2.2.2)))
 else
 bif s116.toNat == (3 : Nat) then
 bif s116 != v2.2.1 then
 g_steal_Step_L0 k v0 v1 v2  n (s90) (s93) (s94) (IntKind.i64.wrap (s116 + (1 : Int)))
 else
 ob (g_cell_Cas s90 s93 v2.2.2.2.2.2.1 (IntKind.u64.wrap (v2.2.2.2.2.2.1 + (1 : Int)))) fun x161 =>
 bif x161.2 then
 ob (g_frame_End (v2.1,v2.2.1,v2.2.2.1,v2.2.2.2.1,v2.2.2.2.2.1,v2.2.2.2.2.2.1,v2.2.2.2.2.2.2) (1 : Int) v2.2.2.2.1) fun x162 =>
 ob (g_frame_Over (x162.1,x162.2.1,x162.2.2.1,x162.2.2.2.1,x162.2.2.2.2.1,x162.2.2.2.2.2.1,x162.2.2.2.2.2.2)) fun x163 =>
 bif !x163 then
 some ((x161.1),((x162.1),(IntKind.i64.wrap (x162.2.1 + (1 : Int))),(x162.2.2.1),(x162.2.2.2.1),(x162.2.2.2.2.1),(x162.2.2.2.2.2.1),(x162.2.2.2.2.2.2)))
 else
 some ((x161.1),((x162.1),(x162.2.1),(x162.2.2.1),(x162.2.2.2.1),(x162.2.2.2.2.1),(x162.2.2.2.2.2.1),(x162.2.2.2.2.2.2)))
 else
 ob (g_frame_End (v2.1,v2.2.1,v2.2.2.1,v2.2.2.2.1,v2.2.2.2.2.1,v2.2.2.2.2.2.1,v2.2.2.2.2.2.2) (4 : Int) (0 : Int)) fun x164 =>
 ob (g_frame_Over (x164.1,x164.2.1,x164.2.2.1,x164.2.2.2.1,x164.2.2.2.2.1,x164.2.2.2.2.2.1,x164.2.2.2.2.2.2)) fun x165 =>
 bif !x165 then
 some ((x161.1),((x164.1),(IntKind.i64.wrap (x164.2.1 + (1 : Int))),(x164.2.2.1),(x164.2.2.2.1),(x164.2.2.2.2.1),(x164.2.2.2.2.2.1),(x164.2.2.2.2.2.2)))
 else
 some ((x161.1),((x164.1),(x164.2.1),(x164.2.2.1),(x164.2.2.2.1),(x164.2.2.2.2.1),(x164.2.2.2.2.2.1),(x164.2.2.2.2.2.2)))
 else
 none
 else
 none
 else
 some ((s90),((v2.1),(v2.2.1),(v2.2.2.1),(v2.2.2.2.1),(v2.2.2.2.2.1),(v2.2.2.2.2.2.1),(v2.2.2.2.2.2.2)))
theorem g_steal_Step_L0_eq (k : Nat) (v0_0 v0_1 v0_2 v0_3 : Int) (v1 : List Int) (v2_0 v2_1 v2_2 v2_3 v2_4 v2_5 v2_6 : Int) : ∀ (n : Nat) (s90 : List Int) (s93 : Int) (s94 : Int) (s116 : Int) ⦃s91 : Bool⦄ ⦃s92 : Bool⦄ ⦃j114 j115 : V⦄,rt none (itX (xX (xS (k + (23 : Nat))) (86 : Nat) (0 : Nat) (k + (23 : Nat)) false) xl86_0 ((9 : Nat)) (runK (xX (xS (k + (23 : Nat))) (86 : Nat) (0 : Nat) (k + (23 : Nat)) false) (bodyK (xS (k + (23 : Nat))).P Tryz.f86) xk86_0) n ⟨[V.agg [V.lit (Value.int IntKind.i64 v0_0),V.lit (Value.int IntKind.i64 v0_1),V.lit (Value.int IntKind.i64 v0_2),V.lit (Value.int IntKind.i64 v0_3)],V.ro (List.map (intR IntKind.u64) v1),V.agg [V.lit (Value.int IntKind.i64 v2_0),V.lit (Value.int IntKind.i64 v2_1),V.lit (Value.int IntKind.i64 v2_2),V.lit (Value.int IntKind.u64 v2_3),V.lit (Value.int IntKind.u64 v2_4),V.lit (Value.int IntKind.u64 v2_5),V.lit (Value.int IntKind.i64 v2_6)],V.ptr (0 : Nat) (0 : Nat) (0 : Nat) (0 : Nat),uu,V.ptr (1 : Nat) (0 : Nat) (0 : Nat) (0 : Nat),V.own (2 : Nat) (0 : Nat) (0 : Nat),V.ptr (3 : Nat) (0 : Nat) (0 : Nat) (0 : Nat),V.ptr (5 : Nat) (0 : Nat) (0 : Nat) (0 : Nat),V.ptr (6 : Nat) (0 : Nat) (0 : Nat) (0 : Nat),V.ptr (7 : Nat) (0 : Nat) (0 : Nat) (0 : Nat),V.own (8 : Nat) (0 : Nat) (4 : Nat),j114,j115,V.ro (List.map (intR IntKind.u64) v1),V.ro (List.map (intR IntKind.u64) s90),V.agg [V.lit (Value.int IntKind.i64 v0_0),V.lit (Value.int IntKind.i64 v0_1),V.lit (Value.int IntKind.i64 v0_2),V.lit (Value.int IntKind.i64 v0_3)],V.ro (List.map (intR IntKind.u64) v1),V.agg [V.lit (Value.int IntKind.i64 v2_0),V.lit (Value.int IntKind.i64 v2_1),V.lit (Value.int IntKind.i64 v2_2),V.lit (Value.int IntKind.u64 v2_3),V.lit (Value.int IntKind.u64 v2_4),V.lit (Value.int IntKind.u64 v2_5),V.lit (Value.int IntKind.i64 v2_6)],V.lit (Value.bool s91),V.lit (Value.bool s92),uu,uu,V.agg [V.lit (Value.int IntKind.i64 v0_0),V.lit (Value.int IntKind.i64 v0_1),V.lit (Value.int IntKind.i64 v0_2),V.lit (Value.int IntKind.i64 v0_3)],V.ptr (1 : Nat) (0 : Nat) (0 : Nat) (2 : Nat),V.lit (Value.int IntKind.i64 v2_2),V.lit (Value.int IntKind.i64 s93),V.agg [V.lit (Value.int IntKind.i64 v0_0),V.lit (Value.int IntKind.i64 v0_1),V.lit (Value.int IntKind.i64 v0_2),V.lit (Value.int IntKind.i64 v0_3)],V.ptr (1 : Nat) (0 : Nat) (0 : Nat) (2 : Nat),V.lit (Value.int IntKind.i64 v2_2),V.lit (Value.int IntKind.i64 s94),V.fn (Fn.func (114 : FuncId)) [] [V.ptr (5 : Nat) (0 : Nat) (0 : Nat) (0 : Nat),V.ptr (6 : Nat) (0 : Nat) (0 : Nat) (0 : Nat),V.ptr (1 : Nat) (0 : Nat) (0 : Nat) (0 : Nat)],V.fn (Fn.func (115 : FuncId)) [] [V.ptr (5 : Nat) (0 : Nat) (0 : Nat) (0 : Nat),V.ptr (7 : Nat) (0 : Nat) (0 : Nat) (0 : Nat),V.ptr (1 : Nat) (0 : Nat) (0 : Nat) (0 : Nat)],V.fn (Fn.func (116 : FuncId)) [] [V.ptr (5 : Nat) (0 : Nat) (0 : Nat) (0 : Nat),V.ptr (0 : Nat) (0 : Nat) (0 : Nat) (0 : Nat),V.ptr (1 : Nat) (0 : Nat) (0 : Nat) (0 : Nat)],V.fn (Fn.func (117 : FuncId)) [] [V.ptr (5 : Nat) (0 : Nat) (0 : Nat) (0 : Nat),V.ptr (6 : Nat) (0 : Nat) (0 : Nat) (0 : Nat),V.ptr (1 : Nat) (0 : Nat) (0 : Nat) (0 : Nat)],V.own (8 : Nat) (0 : Nat) (4 : Nat),V.own (8 : Nat) (0 : Nat) (4 : Nat),V.lit (Value.int IntKind.i64 (4 : Int)),V.lit (Value.int IntKind.i64 s116),V.junk,V.junk,V.junk,V.junk,V.junk,V.junk,V.junk,V.junk,V.junk,V.junk,V.junk,V.junk,V.junk,V.junk,V.junk,V.junk,V.junk,V.junk,uu,uu],[B.box [V.lit (Value.int IntKind.i64 v0_0),V.lit (Value.int IntKind.i64 v0_1),V.lit (Value.int IntKind.i64 v0_2),V.lit (Value.int IntKind.i64 v0_3)],B.box [V.lit (Value.int IntKind.i64 v2_0),V.lit (Value.int IntKind.i64 v2_1),V.lit (Value.int IntKind.i64 v2_2),V.lit (Value.int IntKind.u64 v2_3),V.lit (Value.int IntKind.u64 v2_4),V.lit (Value.int IntKind.u64 v2_5),V.lit (Value.int IntKind.i64 v2_6)],B.rows (0 : Nat) [] (0 : Nat) true,B.box [V.lit (Value.int IntKind.i64 (0 : Int)),V.lit (Value.int IntKind.i64 (0 : Int)),V.lit (Value.int IntKind.i64 (0 : Int)),V.lit (Value.int IntKind.u64 (0 : Int)),V.lit (Value.int IntKind.u64 (0 : Int)),V.lit (Value.int IntKind.u64 (0 : Int)),V.lit (Value.int IntKind.i64 (0 : Int))],B.rows (0 : Nat) [] (0 : Nat) true,B.box [V.ro (List.map (intR IntKind.u64) s90)],B.box [V.lit (Value.int IntKind.i64 s93)],B.box [V.lit (Value.int IntKind.i64 s94)],B.rows (1 : Nat) [[V.fn (Fn.func (114 : FuncId)) [] [V.ptr (5 : Nat) (0 : Nat) (0 : Nat) (0 : Nat),V.ptr (6 : Nat) (0 : Nat) (0 : Nat) (0 : Nat),V.ptr (1 : Nat) (0 : Nat) (0 : Nat) (0 : Nat)]],[V.fn (Fn.func (115 : FuncId)) [] [V.ptr (5 : Nat) (0 : Nat) (0 : Nat) (0 : Nat),V.ptr (7 : Nat) (0 : Nat) (0 : Nat) (0 : Nat),V.ptr (1 : Nat) (0 : Nat) (0 : Nat) (0 : Nat)]],[V.fn (Fn.func (116 : FuncId)) [] [V.ptr (5 : Nat) (0 : Nat) (0 : Nat) (0 : Nat),V.ptr (0 : Nat) (0 : Nat) (0 : Nat) (0 : Nat),V.ptr (1 : Nat) (0 : Nat) (0 : Nat) (0 : Nat)]],[V.fn (Fn.func (117 : FuncId)) [] [V.ptr (5 : Nat) (0 : Nat) (0 : Nat) (0 : Nat),V.ptr (6 : Nat) (0 : Nat) (0 : Nat) (0 : Nat),V.ptr (1 : Nat) (0 : Nat) (0 : Nat) (0 : Nat)]]] (0 : Nat) true]⟩) = ob (g_steal_Step_L0 k (v0_0,v0_1,v0_2,v0_3) v1 (v2_0,v2_1,v2_2,v2_3,v2_4,v2_5,v2_6)  n s90 s93 s94 s116) fun r => some ((.tup [.ro (List.map (intR .u64) r.1),.agg [.lit (.int .i64 r.2.1),.lit (.int .i64 r.2.2.1),.lit (.int .i64 r.2.2.2.1),.lit (.int .u64 r.2.2.2.2.1),.lit (.int .u64 r.2.2.2.2.2.1),.lit (.int .u64 r.2.2.2.2.2.2.1),.lit (.int .i64 r.2.2.2.2.2.2.2)]]),[]) := by
  intro n
  induction n with
  | zero => intros; rfl
  | succ n ih =>
    intro s90 s93 s94 s116 s91 s92 j114 j115
    rw [g_steal_Step_L0]
    simp (maxSteps := 2000000) -implicitDefEqProofs only [xe86,xb86,xz86,xj86_0,xk86_0_ret,xe114,xb114,xe115,xb115,xe116,xb116,xe117,xb117,↓syP,syA,syD,Nat.reduceAdd,Nat.reduceSub,Nat.reduceMul,Nat.reduceLT,Nat.reduceLeDiff,Nat.reduceEqDiff,Nat.reduceBEq,Nat.reduceBNe,Int.reduceBEq,Int.reduceBNe,Int.reduceLT,Int.reduceLE,Int.reduceAdd,Int.reduceSub,Int.reduceNeg,syE,killR_cons,xQ,h_cell_Load,h_frame_Over,h_cell_Cas,h_frame_End,h_push_Goes,h_lay_Top,h_lay_Bottom,h_lay_Slot,h_word_Far,xr86_0,ih]
    all_goals simp -implicitDefEqProofs only [List.map_nil]
def g_steal_Step (k : Nat) (v0 : (Int × Int × Int × Int)) (v1 : (List Int)) (v2 : (Int × Int × Int × Int × Int × Int × Int)) : Option ((List Int) × (Int × Int × Int × Int × Int × Int × Int)) :=
 ob (g_clone 8 v1) fun x166 =>
 ob (g_push_Goes v0 v1 v2 2 4) fun x167 =>
 bif !x167 then
 some (x166,v2)
 else
 ob (g_lay_Top v0 v2.2.2.1) fun x168 =>
 ob (g_lay_Bottom v0 v2.2.2.1) fun x169 =>
 g_steal_Step_L0 k v0 v1 v2 (k + 23) x166 x168 x169 0
theorem h_steal_Step (k : Nat) (v0_0 v0_1 v0_2 v0_3 : Int) (v1 : List Int) (v2_0 v2_1 v2_2 v2_3 v2_4 v2_5 v2_6 : Int) : xC (k + 24) none 86 [.agg [.lit (.int .i64 v0_0),.lit (.int .i64 v0_1),.lit (.int .i64 v0_2),.lit (.int .i64 v0_3)],.ro (List.map (intR .u64) v1),.agg [.lit (.int .i64 v2_0),.lit (.int .i64 v2_1),.lit (.int .i64 v2_2),.lit (.int .u64 v2_3),.lit (.int .u64 v2_4),.lit (.int .u64 v2_5),.lit (.int .i64 v2_6)]] = ob (g_steal_Step k (v0_0,v0_1,v0_2,v0_3) v1 (v2_0,v2_1,v2_2,v2_3,v2_4,v2_5,v2_6)) fun r => some ((.tup [.ro (List.map (intR .u64) r.1),.agg [.lit (.int .i64 r.2.1),.lit (.int .i64 r.2.2.1),.lit (.int .i64 r.2.2.2.1),.lit (.int .u64 r.2.2.2.2.1),.lit (.int .u64 r.2.2.2.2.2.1),.lit (.int .u64 r.2.2.2.2.2.2.1),.lit (.int .i64 r.2.2.2.2.2.2.2)]]),[]) := by
  rw [xC_eq]
  unfold g_steal_Step
  simp (maxSteps := 2000000) -implicitDefEqProofs only [xe86,xb86,xz86,xj86_0,xk86_0_ret,xe114,xb114,xe115,xb115,xe116,xb116,xe117,xb117,↓syP,syA,syD,Nat.reduceAdd,Nat.reduceSub,Nat.reduceMul,Nat.reduceLT,Nat.reduceLeDiff,Nat.reduceEqDiff,Nat.reduceBEq,Nat.reduceBNe,Int.reduceBEq,Int.reduceBNe,Int.reduceLT,Int.reduceLE,Int.reduceAdd,Int.reduceSub,Int.reduceNeg,syE,killR_cons,xQ,h_push_Goes,h_lay_Top,h_lay_Bottom,g_steal_Step_L0_eq k v0_0 v0_1 v0_2 v0_3 v1 v2_0 v2_1 v2_2 v2_3 v2_4 v2_5 v2_6]
  all_goals simp -implicitDefEqProofs only [List.map_nil]
def g_deque_Step (k : Nat) (v0 : (Int × Int × Int × Int)) (v1 : (List Int)) (v2 : (Int × Int × Int × Int × Int × Int × Int)) : Option ((List Int) × (Int × Int × Int × Int × Int × Int × Int)) :=
 bif v2.1 == 0 then
 ob (g_push_Step v0 v1 v2) fun x178 =>
 some x178
 else
 bif v2.1 == 1 then
 ob (g_pop_Step v0 v1 v2) fun x179 =>
 some x179
 else
 bif v2.1 == 2 then
 ob (g_steal_Step (k + 1) v0 v1 v2) fun x180 =>
 some x180
 else
 ob (g_clone 8 v1) fun x181 =>
 some (x181,v2)
theorem h_deque_Step (k : Nat) (v0_0 v0_1 v0_2 v0_3 : Int) (v1 : List Int) (v2_0 v2_1 v2_2 v2_3 v2_4 v2_5 v2_6 : Int) : xC (k + 26) none 70 [.agg [.lit (.int .i64 v0_0),.lit (.int .i64 v0_1),.lit (.int .i64 v0_2),.lit (.int .i64 v0_3)],.ro (List.map (intR .u64) v1),.agg [.lit (.int .i64 v2_0),.lit (.int .i64 v2_1),.lit (.int .i64 v2_2),.lit (.int .u64 v2_3),.lit (.int .u64 v2_4),.lit (.int .u64 v2_5),.lit (.int .i64 v2_6)]] = ob (g_deque_Step k (v0_0,v0_1,v0_2,v0_3) v1 (v2_0,v2_1,v2_2,v2_3,v2_4,v2_5,v2_6)) fun r => some ((.tup [.ro (List.map (intR .u64) r.1),.agg [.lit (.int .i64 r.2.1),.lit (.int .i64 r.2.2.1),.lit (.int .i64 r.2.2.2.1),.lit (.int .u64 r.2.2.2.2.1),.lit (.int .u64 r.2.2.2.2.2.1),.lit (.int .u64 r.2.2.2.2.2.2.1),.lit (.int .i64 r.2.2.2.2.2.2.2)]]),[]) := by
  rw [xC_eq]
  unfold g_deque_Step
  simp (maxSteps := 2000000) -implicitDefEqProofs only [xe70,xb70,↓syP,syA,syD,Nat.reduceAdd,Nat.reduceSub,Nat.reduceMul,Nat.reduceLT,Nat.reduceLeDiff,Nat.reduceEqDiff,Nat.reduceBEq,Nat.reduceBNe,Int.reduceBEq,Int.reduceBNe,Int.reduceLT,Int.reduceLE,Int.reduceAdd,Int.reduceSub,Int.reduceNeg,syE,killR_cons,xQ,h_push_Step,h_pop_Step,h_steal_Step]
  all_goals simp -implicitDefEqProofs only [List.map_nil]
end Go.Ab
