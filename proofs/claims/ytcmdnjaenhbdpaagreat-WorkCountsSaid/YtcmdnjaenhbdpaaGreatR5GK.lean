/- Functions as they are walked: printed by Walk.lean. -/
import Derived.Test.YtcmdnjaenhbdpaaGreatR5GV
set_option linter.unusedVariables false
set_option linter.unusedSimpArgs false
set_option maxRecDepth 100000
set_option linter.unusedVariables false
set_option linter.unusedSimpArgs false
namespace Go.Ab
open Go.Proofs
def callG {β : Type} (k : Nat) (c : Int × Int × Int × Int) (m : List Int) (f : Int × Int × Int × Int × Int × Int × Int) (K : List Int × (Int × Int × Int × Int × Int × Int × Int) → Option β) : Option β :=
 (bif f.1 == 0 then (bif f.1 == 0 then ob (g_deque_Step (k + 31) c m f) K else (bif f.1 == 3 then (bif f.1 == 3 then ob (g_inject_Step c m f) K else ob (g_event_Step (k + 40) c m f) K) else (bif f.1 == 4 then ob (g_inject_Step c m f) K else ob (g_event_Step (k + 40) c m f) K))) else (bif f.1 == 1 then (bif f.1 == 1 then ob (g_deque_Step (k + 31) c m f) K else (bif f.1 == 3 then (bif f.1 == 3 then ob (g_inject_Step c m f) K else ob (g_event_Step (k + 40) c m f) K) else (bif f.1 == 4 then ob (g_inject_Step c m f) K else ob (g_event_Step (k + 40) c m f) K))) else (bif f.1 == 2 then ob (g_deque_Step (k + 31) c m f) K else (bif f.1 == 3 then (bif f.1 == 3 then ob (g_inject_Step c m f) K else ob (g_event_Step (k + 40) c m f) K) else (bif f.1 == 4 then ob (g_inject_Step c m f) K else ob (g_event_Step (k + 40) c m f) K)))))
def g_work_Step (k : Nat) (v0 : (Int × Int × Int × Int)) (v1 : (List (Int × List Int))) (v2 : (List Int)) (v3 : Int) (v4 : (Int × List (Int × Int × Int) × (Int × Int × Int × Int × Int × Int × Int) × Int × Int)) (v5 : Int) : Option ((List Int) × (Int × List (Int × Int × Int) × (Int × Int × Int × Int × Int × Int × Int) × Int × Int) × (List (Int × Int × Int))) :=
 ob (g_clone 8 v2) fun x470 =>
 ob (g_clone 24 v4.2.1) fun x471 =>
 ob (g_work_May (k + 35) v0 v1 v2 v3 v4) fun x472 =>
 bif !x472 then
 some (x470,(v4.1,x471,v4.2.2),[])
 else
 bif v4.1 == 0 then
 callG k v0 x470 v4.2.2.1 fun x473 =>
 ob (g_frame_Over x473.2) fun x474 =>
 bif !x474 then
 some (x473.1,(v4.1,x471,x473.2,v4.2.2.2),[])
 else
 bif x473.2.2.2.2.2.2.2 != 1 then
 some (x473.1,(1,x471,(0,0,0,0,0,0,0),v4.2.2.2),[])
 else
 ob (g_think_Start (k + 36) v1 x471 (IntKind.i64.wrap x473.2.2.2.2.1)) fun x475 =>
 bif room 1 24 then
 some (x473.1,(9,x475,(0,0,0,0,0,0,0),v4.2.2.2),([(2,IntKind.i64.wrap x473.2.2.2.2.1,v3)]))
 else
 none
 else
 bif v4.1 == 1 then
 ob (g_cell_Add x470 1 1) fun x518 =>
 ob (g_frame_Begin 4 v3 0) fun x519 =>
 some (x518.1,(2,x471,x519,v0.2.2.2,v4.2.2.2.2),[])
 else
 bif v4.1 == 2 then
 ob (g_draw_Victim v5 v3 v0.1) fun x520 =>
 callG k v0 x470 v4.2.2.1 fun x521 =>
 ob (g_frame_Over x521.2) fun x522 =>
 bif !x522 then
 some (x521.1,(v4.1,x471,x521.2,v4.2.2.2),[])
 else
 bif x521.2.2.2.2.2.2.2 == 1 then
 some (x521.1,(4,x471,x521.2,v4.2.2.2),[])
 else
 bif v4.1 == 2 then
 bif decide (0 ≤ x520) then
 ob (g_frame_Begin 2 x520 0) fun x523 =>
 some (x521.1,(3,x471,x523,v4.2.2.2),[])
 else
 bif decide (v4.2.2.2.1 ≤ 0) then
 ob (g_frame_Begin 5 v3 0) fun x524 =>
 some (x521.1,(5,x471,x524,v4.2.2.2),[])
 else
 ob (g_frame_Begin 4 v3 0) fun x525 =>
 some (x521.1,(2,x471,x525,(IntKind.i64.wrap (v4.2.2.2.1 - 1)),v4.2.2.2.2),[])
 else
 bif decide (v4.2.2.2.1 ≤ 0) then
 ob (g_frame_Begin 5 v3 0) fun x526 =>
 some (x521.1,(5,x471,x526,v4.2.2.2),[])
 else
 ob (g_frame_Begin 4 v3 0) fun x527 =>
 some (x521.1,(2,x471,x527,(IntKind.i64.wrap (v4.2.2.2.1 - 1)),v4.2.2.2.2),[])
 else
 bif v4.1 == 3 then
 ob (g_draw_Victim v5 v3 v0.1) fun x626 =>
 callG k v0 x470 v4.2.2.1 fun x627 =>
 ob (g_frame_Over x627.2) fun x628 =>
 bif !x628 then
 some (x627.1,(v4.1,x471,x627.2,v4.2.2.2),[])
 else
 bif x627.2.2.2.2.2.2.2 == 1 then
 some (x627.1,(4,x471,x627.2,v4.2.2.2),[])
 else
 bif v4.1 == 2 then
 bif decide (0 ≤ x626) then
 ob (g_frame_Begin 2 x626 0) fun x629 =>
 some (x627.1,(3,x471,x629,v4.2.2.2),[])
 else
 bif decide (v4.2.2.2.1 ≤ 0) then
 ob (g_frame_Begin 5 v3 0) fun x630 =>
 some (x627.1,(5,x471,x630,v4.2.2.2),[])
 else
 ob (g_frame_Begin 4 v3 0) fun x631 =>
 some (x627.1,(2,x471,x631,(IntKind.i64.wrap (v4.2.2.2.1 - 1)),v4.2.2.2.2),[])
 else
 bif decide (v4.2.2.2.1 ≤ 0) then
 ob (g_frame_Begin 5 v3 0) fun x632 =>
 some (x627.1,(5,x471,x632,v4.2.2.2),[])
 else
 ob (g_frame_Begin 4 v3 0) fun x633 =>
 some (x627.1,(2,x471,x633,(IntKind.i64.wrap (v4.2.2.2.1 - 1)),v4.2.2.2.2),[])
 else
 bif v4.1 == 4 then
 ob (g_cell_Add x470 1 18446744073709551615) fun x732 =>
 bif x732.2 == 1 then
 ob (g_frame_Begin 6 v3 0) fun x733 =>
 ob (g_think_Start (k + 36) v1 x471 (IntKind.i64.wrap v4.2.2.1.2.2.2.1)) fun x734 =>
 bif room 1 24 then
 some (x732.1,(14,x734,x733,v4.2.2.2),([(2,IntKind.i64.wrap v4.2.2.1.2.2.2.1,v3)]))
 else
 none
 else
 ob (g_think_Start (k + 36) v1 x471 (IntKind.i64.wrap v4.2.2.1.2.2.2.1)) fun x735 =>
 bif room 1 24 then
 some (x732.1,(9,x735,(0,0,0,0,0,0,0),v4.2.2.2),([(2,IntKind.i64.wrap v4.2.2.1.2.2.2.1,v3)]))
 else
 none
 else
 bif v4.1 == 5 then
 callG k v0 x470 v4.2.2.1 fun x736 =>
 ob (g_frame_Over x736.2) fun x737 =>
 some (x736.1,(6,x471,x736.2,v4.2.2.2),[])
 else
 bif v4.1 == 6 then
 ob (g_cell_Add x470 1 18446744073709551615) fun x766 =>
 some (x766.1,(7,x471,v4.2.2.1,v4.2.2.2.1,0),[])
 else
 bif v4.1 == 7 then
 bif decide (v4.2.2.2.2 < 0) then
 some (x470,(8,x471,(v4.2.2.1.1,v4.2.2.1.2.1,v4.2.2.1.2.2.1,0,v4.2.2.1.2.2.2.2),v4.2.2.2.1,0),[])
 else
 bif decide (IntKind.i64.wrap (2 + IntKind.i64.wrap (2 * v0.1)) ≤ v4.2.2.2.2) then
 some (x470,(8,x471,(v4.2.2.1.1,v4.2.2.1.2.1,v4.2.2.1.2.2.1,0,v4.2.2.1.2.2.2.2),v4.2.2.2.1,0),[])
 else
 bif v4.2.2.2.2 == 0 then
 ob (g_cell_Load x470 4) fun x767 =>
 bif IntKind.i64.wrap (v4.2.2.2.2 + 1) == IntKind.i64.wrap (2 + IntKind.i64.wrap (2 * v0.1)) then
 some (x470,(8,x471,(v4.2.2.1.1,v4.2.2.1.2.1,v4.2.2.1.2.2.1,0,v4.2.2.1.2.2.2.2),v4.2.2.2.1,0),[])
 else
 some (x470,(v4.1,x471,(v4.2.2.1.1,v4.2.2.1.2.1,v4.2.2.1.2.2.1,x767,v4.2.2.1.2.2.2.2),v4.2.2.2.1,(IntKind.i64.wrap (v4.2.2.2.2 + 1))),[])
 else
 bif v4.2.2.2.2 == 1 then
 ob (g_cell_Load x470 5) fun x768 =>
 bif x768 != v4.2.2.1.2.2.2.1 then
 some (x470,(1,x471,(0,0,0,0,0,0,0),v4.2.2.2),[])
 else
 bif IntKind.i64.wrap (v4.2.2.2.2 + 1) == IntKind.i64.wrap (2 + IntKind.i64.wrap (2 * v0.1)) then
 some (x470,(8,x471,(v4.2.2.1.1,v4.2.2.1.2.1,v4.2.2.1.2.2.1,0,v4.2.2.1.2.2.2.2),v4.2.2.2.1,0),[])
 else
 some (x470,(v4.1,x471,v4.2.2.1,v4.2.2.2.1,(IntKind.i64.wrap (v4.2.2.2.2 + 1))),[])
 else
 bif v4.2.2.2.2.tmod 2 == 0 then
 ob (g_lay_Top v0 (IntKind.i64.wrap ((IntKind.i64.wrap (v4.2.2.2.2 - 2)).tdiv 2))) fun x769 =>
 ob (g_cell_Load x470 x769) fun x770 =>
 bif IntKind.i64.wrap (v4.2.2.2.2 + 1) == IntKind.i64.wrap (2 + IntKind.i64.wrap (2 * v0.1)) then
 some (x470,(8,x471,(v4.2.2.1.1,v4.2.2.1.2.1,v4.2.2.1.2.2.1,0,v4.2.2.1.2.2.2.2),v4.2.2.2.1,0),[])
 else
 some (x470,(v4.1,x471,(v4.2.2.1.1,v4.2.2.1.2.1,v4.2.2.1.2.2.1,x770,v4.2.2.1.2.2.2.2),v4.2.2.2.1,(IntKind.i64.wrap (v4.2.2.2.2 + 1))),[])
 else
 ob (g_lay_Bottom v0 (IntKind.i64.wrap ((IntKind.i64.wrap (v4.2.2.2.2 - 2)).tdiv 2))) fun x771 =>
 ob (g_cell_Load x470 x771) fun x772 =>
 ob (g_word_Far x772 v4.2.2.1.2.2.2.1) fun x773 =>
 bif decide (0 < x773) then
 some (x470,(1,x471,(0,0,0,0,0,0,0),v4.2.2.2),[])
 else
 bif IntKind.i64.wrap (v4.2.2.2.2 + 1) == IntKind.i64.wrap (2 + IntKind.i64.wrap (2 * v0.1)) then
 some (x470,(8,x471,(v4.2.2.1.1,v4.2.2.1.2.1,v4.2.2.1.2.2.1,0,v4.2.2.1.2.2.2.2),v4.2.2.2.1,0),[])
 else
 some (x470,(v4.1,x471,v4.2.2.1,v4.2.2.2.1,(IntKind.i64.wrap (v4.2.2.2.2 + 1))),[])
 else
 bif v4.1 == 8 then
 callG k v0 x470 v4.2.2.1 fun x774 =>
 ob (g_frame_Over x774.2) fun x775 =>
 bif x775 then
 some (x774.1,(1,x471,(0,0,0,0,0,0,0),v4.2.2.2),[])
 else
 some (x774.1,(v4.1,x471,x774.2,v4.2.2.2),[])
 else
 bif v4.1 == 9 then
 ob (g_think_Next (k + 37) v1 x471) fun x804 =>
 bif x804.1 == 1 then
 ob (g_think_Do (k + 36) v1 x471) fun x805 =>
 some (x470,(v4.1,x805,v4.2.2),[])
 else
 bif x804.1 == 2 then
 some (x470,(10,x471,v4.2.2),[])
 else
 bif x804.1 == 3 then
 some (x470,(15,x471,v4.2.2),[])
 else
 ob (g_frame_Begin 1 v3 0) fun x806 =>
 some (x470,(0,x471,x806,v4.2.2.2),[])
 else
 bif v4.1 == 10 then
 ob (g_think_Next (k + 37) v1 x471) fun x807 =>
 bif x807.1 != 2 then
 some (x470,(9,x471,(0,0,0,0,0,0,0),v4.2.2.2),[])
 else
 ob (g_cell_Add x470 0 1) fun x808 =>
 bif room 1 24 then
 ob (g_think_Do (k + 36) v1 x471) fun x809 =>
 ob (g_frame_Begin 0 v3 (IntKind.u64.wrap x807.2)) fun x810 =>
 some (x808.1,(11,x809,x810,v4.2.2.2),([(3,x807.2,v3)]))
 else
 none
 else
 bif v4.1 == 11 then
 callG k v0 x470 v4.2.2.1 fun x811 =>
 ob (g_frame_Over x811.2) fun x812 =>
 bif !x812 then
 some (x811.1,(v4.1,x471,x811.2,v4.2.2.2),[])
 else
 bif x811.2.2.2.2.2.2.2 == 2 then
 ob (g_frame_Begin 3 v3 x811.2.2.2.2.1) fun x813 =>
 some (x811.1,(12,x471,x813,v4.2.2.2),[])
 else
 some (x811.1,(13,x471,(0,0,0,0,0,0,0),v4.2.2.2),[])
 else
 bif v4.1 == 12 then
 callG k v0 x470 v4.2.2.1 fun x856 =>
 ob (g_frame_Over x856.2) fun x857 =>
 bif !x857 then
 some (x856.1,(v4.1,x471,x856.2,v4.2.2.2),[])
 else
 bif x856.2.2.2.2.2.2.2 == 2 then
 ob (g_think_Start (k + 36) v1 x471 (IntKind.i64.wrap x856.2.2.2.2.1)) fun x858 =>
 bif room 1 24 then
 some (x856.1,(9,x858,(0,0,0,0,0,0,0),v4.2.2.2),([(2,IntKind.i64.wrap x856.2.2.2.2.1,v3)]))
 else
 none
 else
 some (x856.1,(13,x471,(0,0,0,0,0,0,0),v4.2.2.2),[])
 else
 bif v4.1 == 13 then
 ob (g_cell_Load x470 1) fun x901 =>
 bif x901 == 0 then
 ob (g_frame_Begin 6 v3 0) fun x902 =>
 some (x470,(14,x471,x902,v4.2.2.2),[])
 else
 some (x470,(9,x471,(0,0,0,0,0,0,0),v4.2.2.2),[])
 else
 bif v4.1 == 14 then
 callG k v0 x470 v4.2.2.1 fun x903 =>
 ob (g_frame_Over x903.2) fun x904 =>
 bif x904 then
 some (x903.1,(9,x471,(0,0,0,0,0,0,0),v4.2.2.2),[])
 else
 some (x903.1,(v4.1,x471,x903.2,v4.2.2.2),[])
 else
 bif v4.1 == 15 then
 ob (g_think_Next (k + 37) v1 x471) fun x933 =>
 bif x933.1 != 3 then
 some (x470,(9,x471,(0,0,0,0,0,0,0),v4.2.2.2),[])
 else
 ob (g_cell_Add x470 0 18446744073709551615) fun x934 =>
 bif room 1 24 then
 bif x934.2 == 1 then
 bif room 2 24 then
 ob (g_think_Do (k + 36) v1 x471) fun x935 =>
 bif (↑x935.length : Int) == 0 then
 ob (g_frame_Begin 1 v3 0) fun x936 =>
 some (x934.1,(0,x935,x936,v4.2.2.2),([(4,x933.2,v3),(5,0,v3)]))
 else
 some (x934.1,(9,x935,(0,0,0,0,0,0,0),v4.2.2.2),([(4,x933.2,v3),(5,0,v3)]))
 else
 none
 else
 ob (g_think_Do (k + 36) v1 x471) fun x937 =>
 bif (↑x937.length : Int) == 0 then
 ob (g_frame_Begin 1 v3 0) fun x938 =>
 some (x934.1,(0,x937,x938,v4.2.2.2),([(4,x933.2,v3)]))
 else
 some (x934.1,(9,x937,(0,0,0,0,0,0,0),v4.2.2.2),([(4,x933.2,v3)]))
 else
 none
 else
 none
theorem h_work_Step (k : Nat) (v0_0 v0_1 v0_2 v0_3 : Int) (v1 : List (Int × List Int)) (v2 : List Int) (v3 v4_0 : Int) (v4_1 : List (Int × Int × Int)) (v4_2_0 v4_2_1 v4_2_2 v4_2_3 v4_2_4 v4_2_5 v4_2_6 v4_3 v4_4 v5 : Int) : xC (k + 60) none 10 [.agg [.lit (.int .i64 v0_0),.lit (.int .i64 v0_1),.lit (.int .i64 v0_2),.lit (.int .i64 v0_3)],.ro (List.map taskV v1),.ro (List.map (intR .u64) v2),.lit (.int .i64 v3),.agg [.lit (.int .i64 v4_0),.ro (List.map threeV v4_1),.lit (.int .i64 v4_2_0),.lit (.int .i64 v4_2_1),.lit (.int .i64 v4_2_2),.lit (.int .u64 v4_2_3),.lit (.int .u64 v4_2_4),.lit (.int .u64 v4_2_5),.lit (.int .i64 v4_2_6),.lit (.int .i64 v4_3),.lit (.int .i64 v4_4)],.lit (.int .u64 v5)] = ob (g_work_Step k (v0_0,v0_1,v0_2,v0_3) v1 v2 v3 (v4_0,v4_1,(v4_2_0,v4_2_1,v4_2_2,v4_2_3,v4_2_4,v4_2_5,v4_2_6),v4_3,v4_4) v5) fun r => some ((.tup [.ro (List.map (intR .u64) r.1),.agg [.lit (.int .i64 r.2.1.1),.ro (List.map threeV r.2.1.2.1),.lit (.int .i64 r.2.1.2.2.1.1),.lit (.int .i64 r.2.1.2.2.1.2.1),.lit (.int .i64 r.2.1.2.2.1.2.2.1),.lit (.int .u64 r.2.1.2.2.1.2.2.2.1),.lit (.int .u64 r.2.1.2.2.1.2.2.2.2.1),.lit (.int .u64 r.2.1.2.2.1.2.2.2.2.2.1),.lit (.int .i64 r.2.1.2.2.1.2.2.2.2.2.2),.lit (.int .i64 r.2.1.2.2.2.1),.lit (.int .i64 r.2.1.2.2.2.2)],.ro (List.map threeV r.2.2)]),[]) := by
  rw [xC_eq]
  unfold g_work_Step callG
  simp (maxSteps := 2000000) -implicitDefEqProofs only [xe10,xb10,xe22,xb22,xe23,xb23,xe24,xb24,xm24_0,xk24_0_ret,xe25,xb25,xj25_0,xk25_0_ret,xe26,xb26,xe27,xb27,xe28,xb28,xm28_0,xj28_1,xk28_0_ret,xk28_1_ret,xe29,xb29,xe30,xb30,xe31,xb31,xe32,xb32,xe33,xb33,xe34,xb34,xe35,xb35,xe36,xb36,xj36_0,xk36_0_ret,xe46,xb46,xj46_0,xj46_1,xk46_0_ret,xk46_1_ret,xe47,xb47,xe48,xb48,xe49,xb49,xe50,xb50,xe57,xb57,↓syP,syA,syD,Nat.reduceAdd,Nat.reduceSub,Nat.reduceMul,Nat.reduceLT,Nat.reduceLeDiff,Nat.reduceEqDiff,Nat.reduceBEq,Nat.reduceBNe,Int.reduceBEq,Int.reduceBNe,Int.reduceLT,Int.reduceLE,Int.reduceAdd,Int.reduceSub,Int.reduceNeg,syE,killR_cons,retype_intC,retype_threeC,xQ,h_cell_Load,h_frame_Over,h_cell_Add,h_frame_Begin,h_lay_Top,h_lay_Bottom,h_word_Far,h_draw_Victim,h_event_Step,h_inject_Step,h_deque_Step,h_think_Next,h_think_Do,h_think_Start,h_work_May]
  all_goals simp -implicitDefEqProofs only [List.map_nil]
end Go.Ab
