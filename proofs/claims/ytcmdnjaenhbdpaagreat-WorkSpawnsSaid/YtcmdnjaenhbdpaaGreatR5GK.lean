/- Functions as they are walked: printed by Walk.lean. -/
import Derived.Test.YtcmdnjaenhbdpaaGreatR5GV
set_option linter.unusedVariables false
set_option linter.unusedSimpArgs false
set_option maxRecDepth 100000
set_option linter.unusedVariables false
set_option linter.unusedSimpArgs false
namespace Go.Ab
open Go.Proofs
def g_work_Step (k : Nat) (v0 : (Int × Int × Int × Int)) (v1 : (List (Int × List Int))) (v2 : (List Int)) (v3 : Int) (v4 : (Int × List (Int × Int × Int) × (Int × Int × Int × Int × Int × Int × Int) × Int × Int)) (v5 : Int) : Option ((List Int) × (Int × List (Int × Int × Int) × (Int × Int × Int × Int × Int × Int × Int) × Int × Int) × (List (Int × Int × Int))) :=
 ob (g_clone 8 v2) fun x470 =>
 ob (g_clone 24 v4.2.1) fun x471 =>
 ob (g_work_May (k + 35) v0 v1 v2 v3 v4) fun x472 =>
 bif !x472 then
 some (x470,(v4.1,x471,v4.2.2),[])
 else
 bif v4.1 == 0 then
 bif v4.2.2.1.1 == 0 then
 bif v4.2.2.1.1 == 0 then
 ob (g_deque_Step (k + 31) v0 x470 v4.2.2.1) fun x473 =>
 ob (g_frame_Over x473.2) fun x474 =>
 bif !x474 then
 some (x473.1,(v4.1,x471,x473.2,v4.2.2.2),[])
 else
 bif x473.2.2.2.2.2.2.2 != 1 then
 some (x473.1,(1,x471,(0,0,0,0,0,0,0),v4.2.2.2),[])
 else
 ob (g_think_Start (k + 36) v1 x471 (IntKind.i64.wrap x473.2.2.2.2.1)) fun x475 =>
 bif room 1 24 then
 some (x473.1,(9,x475,(0,0,0,0,0,0,0),v4.2.2.2),([(2,IntKind.i64.wrap x473.2.2.2.2.1,v3)]))
 else
 none
 else
 bif v4.2.2.1.1 == 3 then
 bif v4.2.2.1.1 == 3 then
 ob (g_inject_Step v0 x470 v4.2.2.1) fun x476 =>
 ob (g_frame_Over x476.2) fun x477 =>
 bif !x477 then
 some (x476.1,(v4.1,x471,x476.2,v4.2.2.2),[])
 else
 bif x476.2.2.2.2.2.2.2 != 1 then
 some (x476.1,(1,x471,(0,0,0,0,0,0,0),v4.2.2.2),[])
 else
 ob (g_think_Start (k + 36) v1 x471 (IntKind.i64.wrap x476.2.2.2.2.1)) fun x478 =>
 bif room 1 24 then
 some (x476.1,(9,x478,(0,0,0,0,0,0,0),v4.2.2.2),([(2,IntKind.i64.wrap x476.2.2.2.2.1,v3)]))
 else
 none
 else
 ob (g_event_Step (k + 40) v0 x470 v4.2.2.1) fun x479 =>
 ob (g_frame_Over x479.2) fun x480 =>
 bif !x480 then
 some (x479.1,(v4.1,x471,x479.2,v4.2.2.2),[])
 else
 bif x479.2.2.2.2.2.2.2 != 1 then
 some (x479.1,(1,x471,(0,0,0,0,0,0,0),v4.2.2.2),[])
 else
 ob (g_think_Start (k + 36) v1 x471 (IntKind.i64.wrap x479.2.2.2.2.1)) fun x481 =>
 bif room 1 24 then
 some (x479.1,(9,x481,(0,0,0,0,0,0,0),v4.2.2.2),([(2,IntKind.i64.wrap x479.2.2.2.2.1,v3)]))
 else
 none
 else
 bif v4.2.2.1.1 == 4 then
 ob (g_inject_Step v0 x470 v4.2.2.1) fun x482 =>
 ob (g_frame_Over x482.2) fun x483 =>
 bif !x483 then
 some (x482.1,(v4.1,x471,x482.2,v4.2.2.2),[])
 else
 bif x482.2.2.2.2.2.2.2 != 1 then
 some (x482.1,(1,x471,(0,0,0,0,0,0,0),v4.2.2.2),[])
 else
 ob (g_think_Start (k + 36) v1 x471 (IntKind.i64.wrap x482.2.2.2.2.1)) fun x484 =>
 bif room 1 24 then
 some (x482.1,(9,x484,(0,0,0,0,0,0,0),v4.2.2.2),([(2,IntKind.i64.wrap x482.2.2.2.2.1,v3)]))
 else
 none
 else
 ob (g_event_Step (k + 40) v0 x470 v4.2.2.1) fun x485 =>
 ob (g_frame_Over x485.2) fun x486 =>
 bif !x486 then
 some (x485.1,(v4.1,x471,x485.2,v4.2.2.2),[])
 else
 bif x485.2.2.2.2.2.2.2 != 1 then
 some (x485.1,(1,x471,(0,0,0,0,0,0,0),v4.2.2.2),[])
 else
 ob (g_think_Start (k + 36) v1 x471 (IntKind.i64.wrap x485.2.2.2.2.1)) fun x487 =>
 bif room 1 24 then
 some (x485.1,(9,x487,(0,0,0,0,0,0,0),v4.2.2.2),([(2,IntKind.i64.wrap x485.2.2.2.2.1,v3)]))
 else
 none
 else
 bif v4.2.2.1.1 == 1 then
 bif v4.2.2.1.1 == 1 then
 ob (g_deque_Step (k + 31) v0 x470 v4.2.2.1) fun x488 =>
 ob (g_frame_Over x488.2) fun x489 =>
 bif !x489 then
 some (x488.1,(v4.1,x471,x488.2,v4.2.2.2),[])
 else
 bif x488.2.2.2.2.2.2.2 != 1 then
 some (x488.1,(1,x471,(0,0,0,0,0,0,0),v4.2.2.2),[])
 else
 ob (g_think_Start (k + 36) v1 x471 (IntKind.i64.wrap x488.2.2.2.2.1)) fun x490 =>
 bif room 1 24 then
 some (x488.1,(9,x490,(0,0,0,0,0,0,0),v4.2.2.2),([(2,IntKind.i64.wrap x488.2.2.2.2.1,v3)]))
 else
 none
 else
 bif v4.2.2.1.1 == 3 then
 bif v4.2.2.1.1 == 3 then
 ob (g_inject_Step v0 x470 v4.2.2.1) fun x491 =>
 ob (g_frame_Over x491.2) fun x492 =>
 bif !x492 then
 some (x491.1,(v4.1,x471,x491.2,v4.2.2.2),[])
 else
 bif x491.2.2.2.2.2.2.2 != 1 then
 some (x491.1,(1,x471,(0,0,0,0,0,0,0),v4.2.2.2),[])
 else
 ob (g_think_Start (k + 36) v1 x471 (IntKind.i64.wrap x491.2.2.2.2.1)) fun x493 =>
 bif room 1 24 then
 some (x491.1,(9,x493,(0,0,0,0,0,0,0),v4.2.2.2),([(2,IntKind.i64.wrap x491.2.2.2.2.1,v3)]))
 else
 none
 else
 ob (g_event_Step (k + 40) v0 x470 v4.2.2.1) fun x494 =>
 ob (g_frame_Over x494.2) fun x495 =>
 bif !x495 then
 some (x494.1,(v4.1,x471,x494.2,v4.2.2.2),[])
 else
 bif x494.2.2.2.2.2.2.2 != 1 then
 some (x494.1,(1,x471,(0,0,0,0,0,0,0),v4.2.2.2),[])
 else
 ob (g_think_Start (k + 36) v1 x471 (IntKind.i64.wrap x494.2.2.2.2.1)) fun x496 =>
 bif room 1 24 then
 some (x494.1,(9,x496,(0,0,0,0,0,0,0),v4.2.2.2),([(2,IntKind.i64.wrap x494.2.2.2.2.1,v3)]))
 else
 none
 else
 bif v4.2.2.1.1 == 4 then
 ob (g_inject_Step v0 x470 v4.2.2.1) fun x497 =>
 ob (g_frame_Over x497.2) fun x498 =>
 bif !x498 then
 some (x497.1,(v4.1,x471,x497.2,v4.2.2.2),[])
 else
 bif x497.2.2.2.2.2.2.2 != 1 then
 some (x497.1,(1,x471,(0,0,0,0,0,0,0),v4.2.2.2),[])
 else
 ob (g_think_Start (k + 36) v1 x471 (IntKind.i64.wrap x497.2.2.2.2.1)) fun x499 =>
 bif room 1 24 then
 some (x497.1,(9,x499,(0,0,0,0,0,0,0),v4.2.2.2),([(2,IntKind.i64.wrap x497.2.2.2.2.1,v3)]))
 else
 none
 else
 ob (g_event_Step (k + 40) v0 x470 v4.2.2.1) fun x500 =>
 ob (g_frame_Over x500.2) fun x501 =>
 bif !x501 then
 some (x500.1,(v4.1,x471,x500.2,v4.2.2.2),[])
 else
 bif x500.2.2.2.2.2.2.2 != 1 then
 some (x500.1,(1,x471,(0,0,0,0,0,0,0),v4.2.2.2),[])
 else
 ob (g_think_Start (k + 36) v1 x471 (IntKind.i64.wrap x500.2.2.2.2.1)) fun x502 =>
 bif room 1 24 then
 some (x500.1,(9,x502,(0,0,0,0,0,0,0),v4.2.2.2),([(2,IntKind.i64.wrap x500.2.2.2.2.1,v3)]))
 else
 none
 else
 bif v4.2.2.1.1 == 2 then
 ob (g_deque_Step (k + 31) v0 x470 v4.2.2.1) fun x503 =>
 ob (g_frame_Over x503.2) fun x504 =>
 bif !x504 then
 some (x503.1,(v4.1,x471,x503.2,v4.2.2.2),[])
 else
 bif x503.2.2.2.2.2.2.2 != 1 then
 some (x503.1,(1,x471,(0,0,0,0,0,0,0),v4.2.2.2),[])
 else
 ob (g_think_Start (k + 36) v1 x471 (IntKind.i64.wrap x503.2.2.2.2.1)) fun x505 =>
 bif room 1 24 then
 some (x503.1,(9,x505,(0,0,0,0,0,0,0),v4.2.2.2),([(2,IntKind.i64.wrap x503.2.2.2.2.1,v3)]))
 else
 none
 else
 bif v4.2.2.1.1 == 3 then
 bif v4.2.2.1.1 == 3 then
 ob (g_inject_Step v0 x470 v4.2.2.1) fun x506 =>
 ob (g_frame_Over x506.2) fun x507 =>
 bif !x507 then
 some (x506.1,(v4.1,x471,x506.2,v4.2.2.2),[])
 else
 bif x506.2.2.2.2.2.2.2 != 1 then
 some (x506.1,(1,x471,(0,0,0,0,0,0,0),v4.2.2.2),[])
 else
 ob (g_think_Start (k + 36) v1 x471 (IntKind.i64.wrap x506.2.2.2.2.1)) fun x508 =>
 bif room 1 24 then
 some (x506.1,(9,x508,(0,0,0,0,0,0,0),v4.2.2.2),([(2,IntKind.i64.wrap x506.2.2.2.2.1,v3)]))
 else
 none
 else
 ob (g_event_Step (k + 40) v0 x470 v4.2.2.1) fun x509 =>
 ob (g_frame_Over x509.2) fun x510 =>
 bif !x510 then
 some (x509.1,(v4.1,x471,x509.2,v4.2.2.2),[])
 else
 bif x509.2.2.2.2.2.2.2 != 1 then
 some (x509.1,(1,x471,(0,0,0,0,0,0,0),v4.2.2.2),[])
 else
 ob (g_think_Start (k + 36) v1 x471 (IntKind.i64.wrap x509.2.2.2.2.1)) fun x511 =>
 bif room 1 24 then
 some (x509.1,(9,x511,(0,0,0,0,0,0,0),v4.2.2.2),([(2,IntKind.i64.wrap x509.2.2.2.2.1,v3)]))
 else
 none
 else
 bif v4.2.2.1.1 == 4 then
 ob (g_inject_Step v0 x470 v4.2.2.1) fun x512 =>
 ob (g_frame_Over x512.2) fun x513 =>
 bif !x513 then
 some (x512.1,(v4.1,x471,x512.2,v4.2.2.2),[])
 else
 bif x512.2.2.2.2.2.2.2 != 1 then
 some (x512.1,(1,x471,(0,0,0,0,0,0,0),v4.2.2.2),[])
 else
 ob (g_think_Start (k + 36) v1 x471 (IntKind.i64.wrap x512.2.2.2.2.1)) fun x514 =>
 bif room 1 24 then
 some (x512.1,(9,x514,(0,0,0,0,0,0,0),v4.2.2.2),([(2,IntKind.i64.wrap x512.2.2.2.2.1,v3)]))
 else
 none
 else
 ob (g_event_Step (k + 40) v0 x470 v4.2.2.1) fun x515 =>
 ob (g_frame_Over x515.2) fun x516 =>
 bif !x516 then
 some (x515.1,(v4.1,x471,x515.2,v4.2.2.2),[])
 else
 bif x515.2.2.2.2.2.2.2 != 1 then
 some (x515.1,(1,x471,(0,0,0,0,0,0,0),v4.2.2.2),[])
 else
 ob (g_think_Start (k + 36) v1 x471 (IntKind.i64.wrap x515.2.2.2.2.1)) fun x517 =>
 bif room 1 24 then
 some (x515.1,(9,x517,(0,0,0,0,0,0,0),v4.2.2.2),([(2,IntKind.i64.wrap x515.2.2.2.2.1,v3)]))
 else
 none
 else
 bif v4.1 == 1 then
 ob (g_cell_Add x470 1 1) fun x518 =>
 ob (g_frame_Begin 4 v3 0) fun x519 =>
 some (x518.1,(2,x471,x519,v0.2.2.2,v4.2.2.2.2),[])
 else
 bif v4.1 == 2 then
 ob (g_draw_Victim v5 v3 v0.1) fun x520 =>
 bif v4.2.2.1.1 == 0 then
 bif v4.2.2.1.1 == 0 then
 ob (g_deque_Step (k + 31) v0 x470 v4.2.2.1) fun x521 =>
 ob (g_frame_Over x521.2) fun x522 =>
 bif !x522 then
 some (x521.1,(v4.1,x471,x521.2,v4.2.2.2),[])
 else
 bif x521.2.2.2.2.2.2.2 == 1 then
 some (x521.1,(4,x471,x521.2,v4.2.2.2),[])
 else
 bif v4.1 == 2 then
 bif decide (0 ≤ x520) then
 ob (g_frame_Begin 2 x520 0) fun x523 =>
 some (x521.1,(3,x471,x523,v4.2.2.2),[])
 else
 bif decide (v4.2.2.2.1 ≤ 0) then
 ob (g_frame_Begin 5 v3 0) fun x524 =>
 some (x521.1,(5,x471,x524,v4.2.2.2),[])
 else
 ob (g_frame_Begin 4 v3 0) fun x525 =>
 some (x521.1,(2,x471,x525,(IntKind.i64.wrap (v4.2.2.2.1 - 1)),v4.2.2.2.2),[])
 else
 bif decide (v4.2.2.2.1 ≤ 0) then
 ob (g_frame_Begin 5 v3 0) fun x526 =>
 some (x521.1,(5,x471,x526,v4.2.2.2),[])
 else
 ob (g_frame_Begin 4 v3 0) fun x527 =>
 some (x521.1,(2,x471,x527,(IntKind.i64.wrap (v4.2.2.2.1 - 1)),v4.2.2.2.2),[])
 else
 bif v4.2.2.1.1 == 3 then
 bif v4.2.2.1.1 == 3 then
 ob (g_inject_Step v0 x470 v4.2.2.1) fun x528 =>
 ob (g_frame_Over x528.2) fun x529 =>
 bif !x529 then
 some (x528.1,(v4.1,x471,x528.2,v4.2.2.2),[])
 else
 bif x528.2.2.2.2.2.2.2 == 1 then
 some (x528.1,(4,x471,x528.2,v4.2.2.2),[])
 else
 bif v4.1 == 2 then
 bif decide (0 ≤ x520) then
 ob (g_frame_Begin 2 x520 0) fun x530 =>
 some (x528.1,(3,x471,x530,v4.2.2.2),[])
 else
 bif decide (v4.2.2.2.1 ≤ 0) then
 ob (g_frame_Begin 5 v3 0) fun x531 =>
 some (x528.1,(5,x471,x531,v4.2.2.2),[])
 else
 ob (g_frame_Begin 4 v3 0) fun x532 =>
 some (x528.1,(2,x471,x532,(IntKind.i64.wrap (v4.2.2.2.1 - 1)),v4.2.2.2.2),[])
 else
 bif decide (v4.2.2.2.1 ≤ 0) then
 ob (g_frame_Begin 5 v3 0) fun x533 =>
 some (x528.1,(5,x471,x533,v4.2.2.2),[])
 else
 ob (g_frame_Begin 4 v3 0) fun x534 =>
 some (x528.1,(2,x471,x534,(IntKind.i64.wrap (v4.2.2.2.1 - 1)),v4.2.2.2.2),[])
 else
 ob (g_event_Step (k + 40) v0 x470 v4.2.2.1) fun x535 =>
 ob (g_frame_Over x535.2) fun x536 =>
 bif !x536 then
 some (x535.1,(v4.1,x471,x535.2,v4.2.2.2),[])
 else
 bif x535.2.2.2.2.2.2.2 == 1 then
 some (x535.1,(4,x471,x535.2,v4.2.2.2),[])
 else
 bif v4.1 == 2 then
 bif decide (0 ≤ x520) then
 ob (g_frame_Begin 2 x520 0) fun x537 =>
 some (x535.1,(3,x471,x537,v4.2.2.2),[])
 else
 bif decide (v4.2.2.2.1 ≤ 0) then
 ob (g_frame_Begin 5 v3 0) fun x538 =>
 some (x535.1,(5,x471,x538,v4.2.2.2),[])
 else
 ob (g_frame_Begin 4 v3 0) fun x539 =>
 some (x535.1,(2,x471,x539,(IntKind.i64.wrap (v4.2.2.2.1 - 1)),v4.2.2.2.2),[])
 else
 bif decide (v4.2.2.2.1 ≤ 0) then
 ob (g_frame_Begin 5 v3 0) fun x540 =>
 some (x535.1,(5,x471,x540,v4.2.2.2),[])
 else
 ob (g_frame_Begin 4 v3 0) fun x541 =>
 some (x535.1,(2,x471,x541,(IntKind.i64.wrap (v4.2.2.2.1 - 1)),v4.2.2.2.2),[])
 else
 bif v4.2.2.1.1 == 4 then
 ob (g_inject_Step v0 x470 v4.2.2.1) fun x542 =>
 ob (g_frame_Over x542.2) fun x543 =>
 bif !x543 then
 some (x542.1,(v4.1,x471,x542.2,v4.2.2.2),[])
 else
 bif x542.2.2.2.2.2.2.2 == 1 then
 some (x542.1,(4,x471,x542.2,v4.2.2.2),[])
 else
 bif v4.1 == 2 then
 bif decide (0 ≤ x520) then
 ob (g_frame_Begin 2 x520 0) fun x544 =>
 some (x542.1,(3,x471,x544,v4.2.2.2),[])
 else
 bif decide (v4.2.2.2.1 ≤ 0) then
 ob (g_frame_Begin 5 v3 0) fun x545 =>
 some (x542.1,(5,x471,x545,v4.2.2.2),[])
 else
 ob (g_frame_Begin 4 v3 0) fun x546 =>
 some (x542.1,(2,x471,x546,(IntKind.i64.wrap (v4.2.2.2.1 - 1)),v4.2.2.2.2),[])
 else
 bif decide (v4.2.2.2.1 ≤ 0) then
 ob (g_frame_Begin 5 v3 0) fun x547 =>
 some (x542.1,(5,x471,x547,v4.2.2.2),[])
 else
 ob (g_frame_Begin 4 v3 0) fun x548 =>
 some (x542.1,(2,x471,x548,(IntKind.i64.wrap (v4.2.2.2.1 - 1)),v4.2.2.2.2),[])
 else
 ob (g_event_Step (k + 40) v0 x470 v4.2.2.1) fun x549 =>
 ob (g_frame_Over x549.2) fun x550 =>
 bif !x550 then
 some (x549.1,(v4.1,x471,x549.2,v4.2.2.2),[])
 else
 bif x549.2.2.2.2.2.2.2 == 1 then
 some (x549.1,(4,x471,x549.2,v4.2.2.2),[])
 else
 bif v4.1 == 2 then
 bif decide (0 ≤ x520) then
 ob (g_frame_Begin 2 x520 0) fun x551 =>
 some (x549.1,(3,x471,x551,v4.2.2.2),[])
 else
 bif decide (v4.2.2.2.1 ≤ 0) then
 ob (g_frame_Begin 5 v3 0) fun x552 =>
 some (x549.1,(5,x471,x552,v4.2.2.2),[])
 else
 ob (g_frame_Begin 4 v3 0) fun x553 =>
 some (x549.1,(2,x471,x553,(IntKind.i64.wrap (v4.2.2.2.1 - 1)),v4.2.2.2.2),[])
 else
 bif decide (v4.2.2.2.1 ≤ 0) then
 ob (g_frame_Begin 5 v3 0) fun x554 =>
 some (x549.1,(5,x471,x554,v4.2.2.2),[])
 else
 ob (g_frame_Begin 4 v3 0) fun x555 =>
 some (x549.1,(2,x471,x555,(IntKind.i64.wrap (v4.2.2.2.1 - 1)),v4.2.2.2.2),[])
 else
 bif v4.2.2.1.1 == 1 then
 bif v4.2.2.1.1 == 1 then
 ob (g_deque_Step (k + 31) v0 x470 v4.2.2.1) fun x556 =>
 ob (g_frame_Over x556.2) fun x557 =>
 bif !x557 then
 some (x556.1,(v4.1,x471,x556.2,v4.2.2.2),[])
 else
 bif x556.2.2.2.2.2.2.2 == 1 then
 some (x556.1,(4,x471,x556.2,v4.2.2.2),[])
 else
 bif v4.1 == 2 then
 bif decide (0 ≤ x520) then
 ob (g_frame_Begin 2 x520 0) fun x558 =>
 some (x556.1,(3,x471,x558,v4.2.2.2),[])
 else
 bif decide (v4.2.2.2.1 ≤ 0) then
 ob (g_frame_Begin 5 v3 0) fun x559 =>
 some (x556.1,(5,x471,x559,v4.2.2.2),[])
 else
 ob (g_frame_Begin 4 v3 0) fun x560 =>
 some (x556.1,(2,x471,x560,(IntKind.i64.wrap (v4.2.2.2.1 - 1)),v4.2.2.2.2),[])
 else
 bif decide (v4.2.2.2.1 ≤ 0) then
 ob (g_frame_Begin 5 v3 0) fun x561 =>
 some (x556.1,(5,x471,x561,v4.2.2.2),[])
 else
 ob (g_frame_Begin 4 v3 0) fun x562 =>
 some (x556.1,(2,x471,x562,(IntKind.i64.wrap (v4.2.2.2.1 - 1)),v4.2.2.2.2),[])
 else
 bif v4.2.2.1.1 == 3 then
 bif v4.2.2.1.1 == 3 then
 ob (g_inject_Step v0 x470 v4.2.2.1) fun x563 =>
 ob (g_frame_Over x563.2) fun x564 =>
 bif !x564 then
 some (x563.1,(v4.1,x471,x563.2,v4.2.2.2),[])
 else
 bif x563.2.2.2.2.2.2.2 == 1 then
 some (x563.1,(4,x471,x563.2,v4.2.2.2),[])
 else
 bif v4.1 == 2 then
 bif decide (0 ≤ x520) then
 ob (g_frame_Begin 2 x520 0) fun x565 =>
 some (x563.1,(3,x471,x565,v4.2.2.2),[])
 else
 bif decide (v4.2.2.2.1 ≤ 0) then
 ob (g_frame_Begin 5 v3 0) fun x566 =>
 some (x563.1,(5,x471,x566,v4.2.2.2),[])
 else
 ob (g_frame_Begin 4 v3 0) fun x567 =>
 some (x563.1,(2,x471,x567,(IntKind.i64.wrap (v4.2.2.2.1 - 1)),v4.2.2.2.2),[])
 else
 bif decide (v4.2.2.2.1 ≤ 0) then
 ob (g_frame_Begin 5 v3 0) fun x568 =>
 some (x563.1,(5,x471,x568,v4.2.2.2),[])
 else
 ob (g_frame_Begin 4 v3 0) fun x569 =>
 some (x563.1,(2,x471,x569,(IntKind.i64.wrap (v4.2.2.2.1 - 1)),v4.2.2.2.2),[])
 else
 ob (g_event_Step (k + 40) v0 x470 v4.2.2.1) fun x570 =>
 ob (g_frame_Over x570.2) fun x571 =>
 bif !x571 then
 some (x570.1,(v4.1,x471,x570.2,v4.2.2.2),[])
 else
 bif x570.2.2.2.2.2.2.2 == 1 then
 some (x570.1,(4,x471,x570.2,v4.2.2.2),[])
 else
 bif v4.1 == 2 then
 bif decide (0 ≤ x520) then
 ob (g_frame_Begin 2 x520 0) fun x572 =>
 some (x570.1,(3,x471,x572,v4.2.2.2),[])
 else
 bif decide (v4.2.2.2.1 ≤ 0) then
 ob (g_frame_Begin 5 v3 0) fun x573 =>
 some (x570.1,(5,x471,x573,v4.2.2.2),[])
 else
 ob (g_frame_Begin 4 v3 0) fun x574 =>
 some (x570.1,(2,x471,x574,(IntKind.i64.wrap (v4.2.2.2.1 - 1)),v4.2.2.2.2),[])
 else
 bif decide (v4.2.2.2.1 ≤ 0) then
 ob (g_frame_Begin 5 v3 0) fun x575 =>
 some (x570.1,(5,x471,x575,v4.2.2.2),[])
 else
 ob (g_frame_Begin 4 v3 0) fun x576 =>
 some (x570.1,(2,x471,x576,(IntKind.i64.wrap (v4.2.2.2.1 - 1)),v4.2.2.2.2),[])
 else
 bif v4.2.2.1.1 == 4 then
 ob (g_inject_Step v0 x470 v4.2.2.1) fun x577 =>
 ob (g_frame_Over x577.2) fun x578 =>
 bif !x578 then
 some (x577.1,(v4.1,x471,x577.2,v4.2.2.2),[])
 else
 bif x577.2.2.2.2.2.2.2 == 1 then
 some (x577.1,(4,x471,x577.2,v4.2.2.2),[])
 else
 bif v4.1 == 2 then
 bif decide (0 ≤ x520) then
 ob (g_frame_Begin 2 x520 0) fun x579 =>
 some (x577.1,(3,x471,x579,v4.2.2.2),[])
 else
 bif decide (v4.2.2.2.1 ≤ 0) then
 ob (g_frame_Begin 5 v3 0) fun x580 =>
 some (x577.1,(5,x471,x580,v4.2.2.2),[])
 else
 ob (g_frame_Begin 4 v3 0) fun x581 =>
 some (x577.1,(2,x471,x581,(IntKind.i64.wrap (v4.2.2.2.1 - 1)),v4.2.2.2.2),[])
 else
 bif decide (v4.2.2.2.1 ≤ 0) then
 ob (g_frame_Begin 5 v3 0) fun x582 =>
 some (x577.1,(5,x471,x582,v4.2.2.2),[])
 else
 ob (g_frame_Begin 4 v3 0) fun x583 =>
 some (x577.1,(2,x471,x583,(IntKind.i64.wrap (v4.2.2.2.1 - 1)),v4.2.2.2.2),[])
 else
 ob (g_event_Step (k + 40) v0 x470 v4.2.2.1) fun x584 =>
 ob (g_frame_Over x584.2) fun x585 =>
 bif !x585 then
 some (x584.1,(v4.1,x471,x584.2,v4.2.2.2),[])
 else
 bif x584.2.2.2.2.2.2.2 == 1 then
 some (x584.1,(4,x471,x584.2,v4.2.2.2),[])
 else
 bif v4.1 == 2 then
 bif decide (0 ≤ x520) then
 ob (g_frame_Begin 2 x520 0) fun x586 =>
 some (x584.1,(3,x471,x586,v4.2.2.2),[])
 else
 bif decide (v4.2.2.2.1 ≤ 0) then
 ob (g_frame_Begin 5 v3 0) fun x587 =>
 some (x584.1,(5,x471,x587,v4.2.2.2),[])
 else
 ob (g_frame_Begin 4 v3 0) fun x588 =>
 some (x584.1,(2,x471,x588,(IntKind.i64.wrap (v4.2.2.2.1 - 1)),v4.2.2.2.2),[])
 else
 bif decide (v4.2.2.2.1 ≤ 0) then
 ob (g_frame_Begin 5 v3 0) fun x589 =>
 some (x584.1,(5,x471,x589,v4.2.2.2),[])
 else
 ob (g_frame_Begin 4 v3 0) fun x590 =>
 some (x584.1,(2,x471,x590,(IntKind.i64.wrap (v4.2.2.2.1 - 1)),v4.2.2.2.2),[])
 else
 bif v4.2.2.1.1 == 2 then
 ob (g_deque_Step (k + 31) v0 x470 v4.2.2.1) fun x591 =>
 ob (g_frame_Over x591.2) fun x592 =>
 bif !x592 then
 some (x591.1,(v4.1,x471,x591.2,v4.2.2.2),[])
 else
 bif x591.2.2.2.2.2.2.2 == 1 then
 some (x591.1,(4,x471,x591.2,v4.2.2.2),[])
 else
 bif v4.1 == 2 then
 bif decide (0 ≤ x520) then
 ob (g_frame_Begin 2 x520 0) fun x593 =>
 some (x591.1,(3,x471,x593,v4.2.2.2),[])
 else
 bif decide (v4.2.2.2.1 ≤ 0) then
 ob (g_frame_Begin 5 v3 0) fun x594 =>
 some (x591.1,(5,x471,x594,v4.2.2.2),[])
 else
 ob (g_frame_Begin 4 v3 0) fun x595 =>
 some (x591.1,(2,x471,x595,(IntKind.i64.wrap (v4.2.2.2.1 - 1)),v4.2.2.2.2),[])
 else
 bif decide (v4.2.2.2.1 ≤ 0) then
 ob (g_frame_Begin 5 v3 0) fun x596 =>
 some (x591.1,(5,x471,x596,v4.2.2.2),[])
 else
 ob (g_frame_Begin 4 v3 0) fun x597 =>
 some (x591.1,(2,x471,x597,(IntKind.i64.wrap (v4.2.2.2.1 - 1)),v4.2.2.2.2),[])
 else
 bif v4.2.2.1.1 == 3 then
 bif v4.2.2.1.1 == 3 then
 ob (g_inject_Step v0 x470 v4.2.2.1) fun x598 =>
 ob (g_frame_Over x598.2) fun x599 =>
 bif !x599 then
 some (x598.1,(v4.1,x471,x598.2,v4.2.2.2),[])
 else
 bif x598.2.2.2.2.2.2.2 == 1 then
 some (x598.1,(4,x471,x598.2,v4.2.2.2),[])
 else
 bif v4.1 == 2 then
 bif decide (0 ≤ x520) then
 ob (g_frame_Begin 2 x520 0) fun x600 =>
 some (x598.1,(3,x471,x600,v4.2.2.2),[])
 else
 bif decide (v4.2.2.2.1 ≤ 0) then
 ob (g_frame_Begin 5 v3 0) fun x601 =>
 some (x598.1,(5,x471,x601,v4.2.2.2),[])
 else
 ob (g_frame_Begin 4 v3 0) fun x602 =>
 some (x598.1,(2,x471,x602,(IntKind.i64.wrap (v4.2.2.2.1 - 1)),v4.2.2.2.2),[])
 else
 bif decide (v4.2.2.2.1 ≤ 0) then
 ob (g_frame_Begin 5 v3 0) fun x603 =>
 some (x598.1,(5,x471,x603,v4.2.2.2),[])
 else
 ob (g_frame_Begin 4 v3 0) fun x604 =>
 some (x598.1,(2,x471,x604,(IntKind.i64.wrap (v4.2.2.2.1 - 1)),v4.2.2.2.2),[])
 else
 ob (g_event_Step (k + 40) v0 x470 v4.2.2.1) fun x605 =>
 ob (g_frame_Over x605.2) fun x606 =>
 bif !x606 then
 some (x605.1,(v4.1,x471,x605.2,v4.2.2.2),[])
 else
 bif x605.2.2.2.2.2.2.2 == 1 then
 some (x605.1,(4,x471,x605.2,v4.2.2.2),[])
 else
 bif v4.1 == 2 then
 bif decide (0 ≤ x520) then
 ob (g_frame_Begin 2 x520 0) fun x607 =>
 some (x605.1,(3,x471,x607,v4.2.2.2),[])
 else
 bif decide (v4.2.2.2.1 ≤ 0) then
 ob (g_frame_Begin 5 v3 0) fun x608 =>
 some (x605.1,(5,x471,x608,v4.2.2.2),[])
 else
 ob (g_frame_Begin 4 v3 0) fun x609 =>
 some (x605.1,(2,x471,x609,(IntKind.i64.wrap (v4.2.2.2.1 - 1)),v4.2.2.2.2),[])
 else
 bif decide (v4.2.2.2.1 ≤ 0) then
 ob (g_frame_Begin 5 v3 0) fun x610 =>
 some (x605.1,(5,x471,x610,v4.2.2.2),[])
 else
 ob (g_frame_Begin 4 v3 0) fun x611 =>
 some (x605.1,(2,x471,x611,(IntKind.i64.wrap (v4.2.2.2.1 - 1)),v4.2.2.2.2),[])
 else
 bif v4.2.2.1.1 == 4 then
 ob (g_inject_Step v0 x470 v4.2.2.1) fun x612 =>
 ob (g_frame_Over x612.2) fun x613 =>
 bif !x613 then
 some (x612.1,(v4.1,x471,x612.2,v4.2.2.2),[])
 else
 bif x612.2.2.2.2.2.2.2 == 1 then
 some (x612.1,(4,x471,x612.2,v4.2.2.2),[])
 else
 bif v4.1 == 2 then
 bif decide (0 ≤ x520) then
 ob (g_frame_Begin 2 x520 0) fun x614 =>
 some (x612.1,(3,x471,x614,v4.2.2.2),[])
 else
 bif decide (v4.2.2.2.1 ≤ 0) then
 ob (g_frame_Begin 5 v3 0) fun x615 =>
 some (x612.1,(5,x471,x615,v4.2.2.2),[])
 else
 ob (g_frame_Begin 4 v3 0) fun x616 =>
 some (x612.1,(2,x471,x616,(IntKind.i64.wrap (v4.2.2.2.1 - 1)),v4.2.2.2.2),[])
 else
 bif decide (v4.2.2.2.1 ≤ 0) then
 ob (g_frame_Begin 5 v3 0) fun x617 =>
 some (x612.1,(5,x471,x617,v4.2.2.2),[])
 else
 ob (g_frame_Begin 4 v3 0) fun x618 =>
 some (x612.1,(2,x471,x618,(IntKind.i64.wrap (v4.2.2.2.1 - 1)),v4.2.2.2.2),[])
 else
 ob (g_event_Step (k + 40) v0 x470 v4.2.2.1) fun x619 =>
 ob (g_frame_Over x619.2) fun x620 =>
 bif !x620 then
 some (x619.1,(v4.1,x471,x619.2,v4.2.2.2),[])
 else
 bif x619.2.2.2.2.2.2.2 == 1 then
 some (x619.1,(4,x471,x619.2,v4.2.2.2),[])
 else
 bif v4.1 == 2 then
 bif decide (0 ≤ x520) then
 ob (g_frame_Begin 2 x520 0) fun x621 =>
 some (x619.1,(3,x471,x621,v4.2.2.2),[])
 else
 bif decide (v4.2.2.2.1 ≤ 0) then
 ob (g_frame_Begin 5 v3 0) fun x622 =>
 some (x619.1,(5,x471,x622,v4.2.2.2),[])
 else
 ob (g_frame_Begin 4 v3 0) fun x623 =>
 some (x619.1,(2,x471,x623,(IntKind.i64.wrap (v4.2.2.2.1 - 1)),v4.2.2.2.2),[])
 else
 bif decide (v4.2.2.2.1 ≤ 0) then
 ob (g_frame_Begin 5 v3 0) fun x624 =>
 some (x619.1,(5,x471,x624,v4.2.2.2),[])
 else
 ob (g_frame_Begin 4 v3 0) fun x625 =>
 some (x619.1,(2,x471,x625,(IntKind.i64.wrap (v4.2.2.2.1 - 1)),v4.2.2.2.2),[])
 else
 bif v4.1 == 3 then
 ob (g_draw_Victim v5 v3 v0.1) fun x626 =>
 bif v4.2.2.1.1 == 0 then
 bif v4.2.2.1.1 == 0 then
 ob (g_deque_Step (k + 31) v0 x470 v4.2.2.1) fun x627 =>
 ob (g_frame_Over x627.2) fun x628 =>
 bif !x628 then
 some (x627.1,(v4.1,x471,x627.2,v4.2.2.2),[])
 else
 bif x627.2.2.2.2.2.2.2 == 1 then
 some (x627.1,(4,x471,x627.2,v4.2.2.2),[])
 else
 bif v4.1 == 2 then
 bif decide (0 ≤ x626) then
 ob (g_frame_Begin 2 x626 0) fun x629 =>
 some (x627.1,(3,x471,x629,v4.2.2.2),[])
 else
 bif decide (v4.2.2.2.1 ≤ 0) then
 ob (g_frame_Begin 5 v3 0) fun x630 =>
 some (x627.1,(5,x471,x630,v4.2.2.2),[])
 else
 ob (g_frame_Begin 4 v3 0) fun x631 =>
 some (x627.1,(2,x471,x631,(IntKind.i64.wrap (v4.2.2.2.1 - 1)),v4.2.2.2.2),[])
 else
 bif decide (v4.2.2.2.1 ≤ 0) then
 ob (g_frame_Begin 5 v3 0) fun x632 =>
 some (x627.1,(5,x471,x632,v4.2.2.2),[])
 else
 ob (g_frame_Begin 4 v3 0) fun x633 =>
 some (x627.1,(2,x471,x633,(IntKind.i64.wrap (v4.2.2.2.1 - 1)),v4.2.2.2.2),[])
 else
 bif v4.2.2.1.1 == 3 then
 bif v4.2.2.1.1 == 3 then
 ob (g_inject_Step v0 x470 v4.2.2.1) fun x634 =>
 ob (g_frame_Over x634.2) fun x635 =>
 bif !x635 then
 some (x634.1,(v4.1,x471,x634.2,v4.2.2.2),[])
 else
 bif x634.2.2.2.2.2.2.2 == 1 then
 some (x634.1,(4,x471,x634.2,v4.2.2.2),[])
 else
 bif v4.1 == 2 then
 bif decide (0 ≤ x626) then
 ob (g_frame_Begin 2 x626 0) fun x636 =>
 some (x634.1,(3,x471,x636,v4.2.2.2),[])
 else
 bif decide (v4.2.2.2.1 ≤ 0) then
 ob (g_frame_Begin 5 v3 0) fun x637 =>
 some (x634.1,(5,x471,x637,v4.2.2.2),[])
 else
 ob (g_frame_Begin 4 v3 0) fun x638 =>
 some (x634.1,(2,x471,x638,(IntKind.i64.wrap (v4.2.2.2.1 - 1)),v4.2.2.2.2),[])
 else
 bif decide (v4.2.2.2.1 ≤ 0) then
 ob (g_frame_Begin 5 v3 0) fun x639 =>
 some (x634.1,(5,x471,x639,v4.2.2.2),[])
 else
 ob (g_frame_Begin 4 v3 0) fun x640 =>
 some (x634.1,(2,x471,x640,(IntKind.i64.wrap (v4.2.2.2.1 - 1)),v4.2.2.2.2),[])
 else
 ob (g_event_Step (k + 40) v0 x470 v4.2.2.1) fun x641 =>
 ob (g_frame_Over x641.2) fun x642 =>
 bif !x642 then
 some (x641.1,(v4.1,x471,x641.2,v4.2.2.2),[])
 else
 bif x641.2.2.2.2.2.2.2 == 1 then
 some (x641.1,(4,x471,x641.2,v4.2.2.2),[])
 else
 bif v4.1 == 2 then
 bif decide (0 ≤ x626) then
 ob (g_frame_Begin 2 x626 0) fun x643 =>
 some (x641.1,(3,x471,x643,v4.2.2.2),[])
 else
 bif decide (v4.2.2.2.1 ≤ 0) then
 ob (g_frame_Begin 5 v3 0) fun x644 =>
 some (x641.1,(5,x471,x644,v4.2.2.2),[])
 else
 ob (g_frame_Begin 4 v3 0) fun x645 =>
 some (x641.1,(2,x471,x645,(IntKind.i64.wrap (v4.2.2.2.1 - 1)),v4.2.2.2.2),[])
 else
 bif decide (v4.2.2.2.1 ≤ 0) then
 ob (g_frame_Begin 5 v3 0) fun x646 =>
 some (x641.1,(5,x471,x646,v4.2.2.2),[])
 else
 ob (g_frame_Begin 4 v3 0) fun x647 =>
 some (x641.1,(2,x471,x647,(IntKind.i64.wrap (v4.2.2.2.1 - 1)),v4.2.2.2.2),[])
 else
 bif v4.2.2.1.1 == 4 then
 ob (g_inject_Step v0 x470 v4.2.2.1) fun x648 =>
 ob (g_frame_Over x648.2) fun x649 =>
 bif !x649 then
 some (x648.1,(v4.1,x471,x648.2,v4.2.2.2),[])
 else
 bif x648.2.2.2.2.2.2.2 == 1 then
 some (x648.1,(4,x471,x648.2,v4.2.2.2),[])
 else
 bif v4.1 == 2 then
 bif decide (0 ≤ x626) then
 ob (g_frame_Begin 2 x626 0) fun x650 =>
 some (x648.1,(3,x471,x650,v4.2.2.2),[])
 else
 bif decide (v4.2.2.2.1 ≤ 0) then
 ob (g_frame_Begin 5 v3 0) fun x651 =>
 some (x648.1,(5,x471,x651,v4.2.2.2),[])
 else
 ob (g_frame_Begin 4 v3 0) fun x652 =>
 some (x648.1,(2,x471,x652,(IntKind.i64.wrap (v4.2.2.2.1 - 1)),v4.2.2.2.2),[])
 else
 bif decide (v4.2.2.2.1 ≤ 0) then
 ob (g_frame_Begin 5 v3 0) fun x653 =>
 some (x648.1,(5,x471,x653,v4.2.2.2),[])
 else
 ob (g_frame_Begin 4 v3 0) fun x654 =>
 some (x648.1,(2,x471,x654,(IntKind.i64.wrap (v4.2.2.2.1 - 1)),v4.2.2.2.2),[])
 else
 ob (g_event_Step (k + 40) v0 x470 v4.2.2.1) fun x655 =>
 ob (g_frame_Over x655.2) fun x656 =>
 bif !x656 then
 some (x655.1,(v4.1,x471,x655.2,v4.2.2.2),[])
 else
 bif x655.2.2.2.2.2.2.2 == 1 then
 some (x655.1,(4,x471,x655.2,v4.2.2.2),[])
 else
 bif v4.1 == 2 then
 bif decide (0 ≤ x626) then
 ob (g_frame_Begin 2 x626 0) fun x657 =>
 some (x655.1,(3,x471,x657,v4.2.2.2),[])
 else
 bif decide (v4.2.2.2.1 ≤ 0) then
 ob (g_frame_Begin 5 v3 0) fun x658 =>
 some (x655.1,(5,x471,x658,v4.2.2.2),[])
 else
 ob (g_frame_Begin 4 v3 0) fun x659 =>
 some (x655.1,(2,x471,x659,(IntKind.i64.wrap (v4.2.2.2.1 - 1)),v4.2.2.2.2),[])
 else
 bif decide (v4.2.2.2.1 ≤ 0) then
 ob (g_frame_Begin 5 v3 0) fun x660 =>
 some (x655.1,(5,x471,x660,v4.2.2.2),[])
 else
 ob (g_frame_Begin 4 v3 0) fun x661 =>
 some (x655.1,(2,x471,x661,(IntKind.i64.wrap (v4.2.2.2.1 - 1)),v4.2.2.2.2),[])
 else
 bif v4.2.2.1.1 == 1 then
 bif v4.2.2.1.1 == 1 then
 ob (g_deque_Step (k + 31) v0 x470 v4.2.2.1) fun x662 =>
 ob (g_frame_Over x662.2) fun x663 =>
 bif !x663 then
 some (x662.1,(v4.1,x471,x662.2,v4.2.2.2),[])
 else
 bif x662.2.2.2.2.2.2.2 == 1 then
 some (x662.1,(4,x471,x662.2,v4.2.2.2),[])
 else
 bif v4.1 == 2 then
 bif decide (0 ≤ x626) then
 ob (g_frame_Begin 2 x626 0) fun x664 =>
 some (x662.1,(3,x471,x664,v4.2.2.2),[])
 else
 bif decide (v4.2.2.2.1 ≤ 0) then
 ob (g_frame_Begin 5 v3 0) fun x665 =>
 some (x662.1,(5,x471,x665,v4.2.2.2),[])
 else
 ob (g_frame_Begin 4 v3 0) fun x666 =>
 some (x662.1,(2,x471,x666,(IntKind.i64.wrap (v4.2.2.2.1 - 1)),v4.2.2.2.2),[])
 else
 bif decide (v4.2.2.2.1 ≤ 0) then
 ob (g_frame_Begin 5 v3 0) fun x667 =>
 some (x662.1,(5,x471,x667,v4.2.2.2),[])
 else
 ob (g_frame_Begin 4 v3 0) fun x668 =>
 some (x662.1,(2,x471,x668,(IntKind.i64.wrap (v4.2.2.2.1 - 1)),v4.2.2.2.2),[])
 else
 bif v4.2.2.1.1 == 3 then
 bif v4.2.2.1.1 == 3 then
 ob (g_inject_Step v0 x470 v4.2.2.1) fun x669 =>
 ob (g_frame_Over x669.2) fun x670 =>
 bif !x670 then
 some (x669.1,(v4.1,x471,x669.2,v4.2.2.2),[])
 else
 bif x669.2.2.2.2.2.2.2 == 1 then
 some (x669.1,(4,x471,x669.2,v4.2.2.2),[])
 else
 bif v4.1 == 2 then
 bif decide (0 ≤ x626) then
 ob (g_frame_Begin 2 x626 0) fun x671 =>
 some (x669.1,(3,x471,x671,v4.2.2.2),[])
 else
 bif decide (v4.2.2.2.1 ≤ 0) then
 ob (g_frame_Begin 5 v3 0) fun x672 =>
 some (x669.1,(5,x471,x672,v4.2.2.2),[])
 else
 ob (g_frame_Begin 4 v3 0) fun x673 =>
 some (x669.1,(2,x471,x673,(IntKind.i64.wrap (v4.2.2.2.1 - 1)),v4.2.2.2.2),[])
 else
 bif decide (v4.2.2.2.1 ≤ 0) then
 ob (g_frame_Begin 5 v3 0) fun x674 =>
 some (x669.1,(5,x471,x674,v4.2.2.2),[])
 else
 ob (g_frame_Begin 4 v3 0) fun x675 =>
 some (x669.1,(2,x471,x675,(IntKind.i64.wrap (v4.2.2.2.1 - 1)),v4.2.2.2.2),[])
 else
 ob (g_event_Step (k + 40) v0 x470 v4.2.2.1) fun x676 =>
 ob (g_frame_Over x676.2) fun x677 =>
 bif !x677 then
 some (x676.1,(v4.1,x471,x676.2,v4.2.2.2),[])
 else
 bif x676.2.2.2.2.2.2.2 == 1 then
 some (x676.1,(4,x471,x676.2,v4.2.2.2),[])
 else
 bif v4.1 == 2 then
 bif decide (0 ≤ x626) then
 ob (g_frame_Begin 2 x626 0) fun x678 =>
 some (x676.1,(3,x471,x678,v4.2.2.2),[])
 else
 bif decide (v4.2.2.2.1 ≤ 0) then
 ob (g_frame_Begin 5 v3 0) fun x679 =>
 some (x676.1,(5,x471,x679,v4.2.2.2),[])
 else
 ob (g_frame_Begin 4 v3 0) fun x680 =>
 some (x676.1,(2,x471,x680,(IntKind.i64.wrap (v4.2.2.2.1 - 1)),v4.2.2.2.2),[])
 else
 bif decide (v4.2.2.2.1 ≤ 0) then
 ob (g_frame_Begin 5 v3 0) fun x681 =>
 some (x676.1,(5,x471,x681,v4.2.2.2),[])
 else
 ob (g_frame_Begin 4 v3 0) fun x682 =>
 some (x676.1,(2,x471,x682,(IntKind.i64.wrap (v4.2.2.2.1 - 1)),v4.2.2.2.2),[])
 else
 bif v4.2.2.1.1 == 4 then
 ob (g_inject_Step v0 x470 v4.2.2.1) fun x683 =>
 ob (g_frame_Over x683.2) fun x684 =>
 bif !x684 then
 some (x683.1,(v4.1,x471,x683.2,v4.2.2.2),[])
 else
 bif x683.2.2.2.2.2.2.2 == 1 then
 some (x683.1,(4,x471,x683.2,v4.2.2.2),[])
 else
 bif v4.1 == 2 then
 bif decide (0 ≤ x626) then
 ob (g_frame_Begin 2 x626 0) fun x685 =>
 some (x683.1,(3,x471,x685,v4.2.2.2),[])
 else
 bif decide (v4.2.2.2.1 ≤ 0) then
 ob (g_frame_Begin 5 v3 0) fun x686 =>
 some (x683.1,(5,x471,x686,v4.2.2.2),[])
 else
 ob (g_frame_Begin 4 v3 0) fun x687 =>
 some (x683.1,(2,x471,x687,(IntKind.i64.wrap (v4.2.2.2.1 - 1)),v4.2.2.2.2),[])
 else
 bif decide (v4.2.2.2.1 ≤ 0) then
 ob (g_frame_Begin 5 v3 0) fun x688 =>
 some (x683.1,(5,x471,x688,v4.2.2.2),[])
 else
 ob (g_frame_Begin 4 v3 0) fun x689 =>
 some (x683.1,(2,x471,x689,(IntKind.i64.wrap (v4.2.2.2.1 - 1)),v4.2.2.2.2),[])
 else
 ob (g_event_Step (k + 40) v0 x470 v4.2.2.1) fun x690 =>
 ob (g_frame_Over x690.2) fun x691 =>
 bif !x691 then
 some (x690.1,(v4.1,x471,x690.2,v4.2.2.2),[])
 else
 bif x690.2.2.2.2.2.2.2 == 1 then
 some (x690.1,(4,x471,x690.2,v4.2.2.2),[])
 else
 bif v4.1 == 2 then
 bif decide (0 ≤ x626) then
 ob (g_frame_Begin 2 x626 0) fun x692 =>
 some (x690.1,(3,x471,x692,v4.2.2.2),[])
 else
 bif decide (v4.2.2.2.1 ≤ 0) then
 ob (g_frame_Begin 5 v3 0) fun x693 =>
 some (x690.1,(5,x471,x693,v4.2.2.2),[])
 else
 ob (g_frame_Begin 4 v3 0) fun x694 =>
 some (x690.1,(2,x471,x694,(IntKind.i64.wrap (v4.2.2.2.1 - 1)),v4.2.2.2.2),[])
 else
 bif decide (v4.2.2.2.1 ≤ 0) then
 ob (g_frame_Begin 5 v3 0) fun x695 =>
 some (x690.1,(5,x471,x695,v4.2.2.2),[])
 else
 ob (g_frame_Begin 4 v3 0) fun x696 =>
 some (x690.1,(2,x471,x696,(IntKind.i64.wrap (v4.2.2.2.1 - 1)),v4.2.2.2.2),[])
 else
 bif v4.2.2.1.1 == 2 then
 ob (g_deque_Step (k + 31) v0 x470 v4.2.2.1) fun x697 =>
 ob (g_frame_Over x697.2) fun x698 =>
 bif !x698 then
 some (x697.1,(v4.1,x471,x697.2,v4.2.2.2),[])
 else
 bif x697.2.2.2.2.2.2.2 == 1 then
 some (x697.1,(4,x471,x697.2,v4.2.2.2),[])
 else
 bif v4.1 == 2 then
 bif decide (0 ≤ x626) then
 ob (g_frame_Begin 2 x626 0) fun x699 =>
 some (x697.1,(3,x471,x699,v4.2.2.2),[])
 else
 bif decide (v4.2.2.2.1 ≤ 0) then
 ob (g_frame_Begin 5 v3 0) fun x700 =>
 some (x697.1,(5,x471,x700,v4.2.2.2),[])
 else
 ob (g_frame_Begin 4 v3 0) fun x701 =>
 some (x697.1,(2,x471,x701,(IntKind.i64.wrap (v4.2.2.2.1 - 1)),v4.2.2.2.2),[])
 else
 bif decide (v4.2.2.2.1 ≤ 0) then
 ob (g_frame_Begin 5 v3 0) fun x702 =>
 some (x697.1,(5,x471,x702,v4.2.2.2),[])
 else
 ob (g_frame_Begin 4 v3 0) fun x703 =>
 some (x697.1,(2,x471,x703,(IntKind.i64.wrap (v4.2.2.2.1 - 1)),v4.2.2.2.2),[])
 else
 bif v4.2.2.1.1 == 3 then
 bif v4.2.2.1.1 == 3 then
 ob (g_inject_Step v0 x470 v4.2.2.1) fun x704 =>
 ob (g_frame_Over x704.2) fun x705 =>
 bif !x705 then
 some (x704.1,(v4.1,x471,x704.2,v4.2.2.2),[])
 else
 bif x704.2.2.2.2.2.2.2 == 1 then
 some (x704.1,(4,x471,x704.2,v4.2.2.2),[])
 else
 bif v4.1 == 2 then
 bif decide (0 ≤ x626) then
 ob (g_frame_Begin 2 x626 0) fun x706 =>
 some (x704.1,(3,x471,x706,v4.2.2.2),[])
 else
 bif decide (v4.2.2.2.1 ≤ 0) then
 ob (g_frame_Begin 5 v3 0) fun x707 =>
 some (x704.1,(5,x471,x707,v4.2.2.2),[])
 else
 ob (g_frame_Begin 4 v3 0) fun x708 =>
 some (x704.1,(2,x471,x708,(IntKind.i64.wrap (v4.2.2.2.1 - 1)),v4.2.2.2.2),[])
 else
 bif decide (v4.2.2.2.1 ≤ 0) then
 ob (g_frame_Begin 5 v3 0) fun x709 =>
 some (x704.1,(5,x471,x709,v4.2.2.2),[])
 else
 ob (g_frame_Begin 4 v3 0) fun x710 =>
 some (x704.1,(2,x471,x710,(IntKind.i64.wrap (v4.2.2.2.1 - 1)),v4.2.2.2.2),[])
 else
 ob (g_event_Step (k + 40) v0 x470 v4.2.2.1) fun x711 =>
 ob (g_frame_Over x711.2) fun x712 =>
 bif !x712 then
 some (x711.1,(v4.1,x471,x711.2,v4.2.2.2),[])
 else
 bif x711.2.2.2.2.2.2.2 == 1 then
 some (x711.1,(4,x471,x711.2,v4.2.2.2),[])
 else
 bif v4.1 == 2 then
 bif decide (0 ≤ x626) then
 ob (g_frame_Begin 2 x626 0) fun x713 =>
 some (x711.1,(3,x471,x713,v4.2.2.2),[])
 else
 bif decide (v4.2.2.2.1 ≤ 0) then
 ob (g_frame_Begin 5 v3 0) fun x714 =>
 some (x711.1,(5,x471,x714,v4.2.2.2),[])
 else
 ob (g_frame_Begin 4 v3 0) fun x715 =>
 some (x711.1,(2,x471,x715,(IntKind.i64.wrap (v4.2.2.2.1 - 1)),v4.2.2.2.2),[])
 else
 bif decide (v4.2.2.2.1 ≤ 0) then
 ob (g_frame_Begin 5 v3 0) fun x716 =>
 some (x711.1,(5,x471,x716,v4.2.2.2),[])
 else
 ob (g_frame_Begin 4 v3 0) fun x717 =>
 some (x711.1,(2,x471,x717,(IntKind.i64.wrap (v4.2.2.2.1 - 1)),v4.2.2.2.2),[])
 else
 bif v4.2.2.1.1 == 4 then
 ob (g_inject_Step v0 x470 v4.2.2.1) fun x718 =>
 ob (g_frame_Over x718.2) fun x719 =>
 bif !x719 then
 some (x718.1,(v4.1,x471,x718.2,v4.2.2.2),[])
 else
 bif x718.2.2.2.2.2.2.2 == 1 then
 some (x718.1,(4,x471,x718.2,v4.2.2.2),[])
 else
 bif v4.1 == 2 then
 bif decide (0 ≤ x626) then
 ob (g_frame_Begin 2 x626 0) fun x720 =>
 some (x718.1,(3,x471,x720,v4.2.2.2),[])
 else
 bif decide (v4.2.2.2.1 ≤ 0) then
 ob (g_frame_Begin 5 v3 0) fun x721 =>
 some (x718.1,(5,x471,x721,v4.2.2.2),[])
 else
 ob (g_frame_Begin 4 v3 0) fun x722 =>
 some (x718.1,(2,x471,x722,(IntKind.i64.wrap (v4.2.2.2.1 - 1)),v4.2.2.2.2),[])
 else
 bif decide (v4.2.2.2.1 ≤ 0) then
 ob (g_frame_Begin 5 v3 0) fun x723 =>
 some (x718.1,(5,x471,x723,v4.2.2.2),[])
 else
 ob (g_frame_Begin 4 v3 0) fun x724 =>
 some (x718.1,(2,x471,x724,(IntKind.i64.wrap (v4.2.2.2.1 - 1)),v4.2.2.2.2),[])
 else
 ob (g_event_Step (k + 40) v0 x470 v4.2.2.1) fun x725 =>
 ob (g_frame_Over x725.2) fun x726 =>
 bif !x726 then
 some (x725.1,(v4.1,x471,x725.2,v4.2.2.2),[])
 else
 bif x725.2.2.2.2.2.2.2 == 1 then
 some (x725.1,(4,x471,x725.2,v4.2.2.2),[])
 else
 bif v4.1 == 2 then
 bif decide (0 ≤ x626) then
 ob (g_frame_Begin 2 x626 0) fun x727 =>
 some (x725.1,(3,x471,x727,v4.2.2.2),[])
 else
 bif decide (v4.2.2.2.1 ≤ 0) then
 ob (g_frame_Begin 5 v3 0) fun x728 =>
 some (x725.1,(5,x471,x728,v4.2.2.2),[])
 else
 ob (g_frame_Begin 4 v3 0) fun x729 =>
 some (x725.1,(2,x471,x729,(IntKind.i64.wrap (v4.2.2.2.1 - 1)),v4.2.2.2.2),[])
 else
 bif decide (v4.2.2.2.1 ≤ 0) then
 ob (g_frame_Begin 5 v3 0) fun x730 =>
 some (x725.1,(5,x471,x730,v4.2.2.2),[])
 else
 ob (g_frame_Begin 4 v3 0) fun x731 =>
 some (x725.1,(2,x471,x731,(IntKind.i64.wrap (v4.2.2.2.1 - 1)),v4.2.2.2.2),[])
 else
 bif v4.1 == 4 then
 ob (g_cell_Add x470 1 18446744073709551615) fun x732 =>
 bif x732.2 == 1 then
 ob (g_frame_Begin 6 v3 0) fun x733 =>
 ob (g_think_Start (k + 36) v1 x471 (IntKind.i64.wrap v4.2.2.1.2.2.2.1)) fun x734 =>
 bif room 1 24 then
 some (x732.1,(14,x734,x733,v4.2.2.2),([(2,IntKind.i64.wrap v4.2.2.1.2.2.2.1,v3)]))
 else
 none
 else
 ob (g_think_Start (k + 36) v1 x471 (IntKind.i64.wrap v4.2.2.1.2.2.2.1)) fun x735 =>
 bif room 1 24 then
 some (x732.1,(9,x735,(0,0,0,0,0,0,0),v4.2.2.2),([(2,IntKind.i64.wrap v4.2.2.1.2.2.2.1,v3)]))
 else
 none
 else
 bif v4.1 == 5 then
 bif v4.2.2.1.1 == 0 then
 bif v4.2.2.1.1 == 0 then
 ob (g_deque_Step (k + 31) v0 x470 v4.2.2.1) fun x736 =>
 ob (g_frame_Over x736.2) fun x737 =>
 some (x736.1,(6,x471,x736.2,v4.2.2.2),[])
 else
 bif v4.2.2.1.1 == 3 then
 bif v4.2.2.1.1 == 3 then
 ob (g_inject_Step v0 x470 v4.2.2.1) fun x738 =>
 ob (g_frame_Over x738.2) fun x739 =>
 some (x738.1,(6,x471,x738.2,v4.2.2.2),[])
 else
 ob (g_event_Step (k + 40) v0 x470 v4.2.2.1) fun x740 =>
 ob (g_frame_Over x740.2) fun x741 =>
 some (x740.1,(6,x471,x740.2,v4.2.2.2),[])
 else
 bif v4.2.2.1.1 == 4 then
 ob (g_inject_Step v0 x470 v4.2.2.1) fun x742 =>
 ob (g_frame_Over x742.2) fun x743 =>
 some (x742.1,(6,x471,x742.2,v4.2.2.2),[])
 else
 ob (g_event_Step (k + 40) v0 x470 v4.2.2.1) fun x744 =>
 ob (g_frame_Over x744.2) fun x745 =>
 some (x744.1,(6,x471,x744.2,v4.2.2.2),[])
 else
 bif v4.2.2.1.1 == 1 then
 bif v4.2.2.1.1 == 1 then
 ob (g_deque_Step (k + 31) v0 x470 v4.2.2.1) fun x746 =>
 ob (g_frame_Over x746.2) fun x747 =>
 some (x746.1,(6,x471,x746.2,v4.2.2.2),[])
 else
 bif v4.2.2.1.1 == 3 then
 bif v4.2.2.1.1 == 3 then
 ob (g_inject_Step v0 x470 v4.2.2.1) fun x748 =>
 ob (g_frame_Over x748.2) fun x749 =>
 some (x748.1,(6,x471,x748.2,v4.2.2.2),[])
 else
 ob (g_event_Step (k + 40) v0 x470 v4.2.2.1) fun x750 =>
 ob (g_frame_Over x750.2) fun x751 =>
 some (x750.1,(6,x471,x750.2,v4.2.2.2),[])
 else
 bif v4.2.2.1.1 == 4 then
 ob (g_inject_Step v0 x470 v4.2.2.1) fun x752 =>
 ob (g_frame_Over x752.2) fun x753 =>
 some (x752.1,(6,x471,x752.2,v4.2.2.2),[])
 else
 ob (g_event_Step (k + 40) v0 x470 v4.2.2.1) fun x754 =>
 ob (g_frame_Over x754.2) fun x755 =>
 some (x754.1,(6,x471,x754.2,v4.2.2.2),[])
 else
 bif v4.2.2.1.1 == 2 then
 ob (g_deque_Step (k + 31) v0 x470 v4.2.2.1) fun x756 =>
 ob (g_frame_Over x756.2) fun x757 =>
 some (x756.1,(6,x471,x756.2,v4.2.2.2),[])
 else
 bif v4.2.2.1.1 == 3 then
 bif v4.2.2.1.1 == 3 then
 ob (g_inject_Step v0 x470 v4.2.2.1) fun x758 =>
 ob (g_frame_Over x758.2) fun x759 =>
 some (x758.1,(6,x471,x758.2,v4.2.2.2),[])
 else
 ob (g_event_Step (k + 40) v0 x470 v4.2.2.1) fun x760 =>
 ob (g_frame_Over x760.2) fun x761 =>
 some (x760.1,(6,x471,x760.2,v4.2.2.2),[])
 else
 bif v4.2.2.1.1 == 4 then
 ob (g_inject_Step v0 x470 v4.2.2.1) fun x762 =>
 ob (g_frame_Over x762.2) fun x763 =>
 some (x762.1,(6,x471,x762.2,v4.2.2.2),[])
 else
 ob (g_event_Step (k + 40) v0 x470 v4.2.2.1) fun x764 =>
 ob (g_frame_Over x764.2) fun x765 =>
 some (x764.1,(6,x471,x764.2,v4.2.2.2),[])
 else
 bif v4.1 == 6 then
 ob (g_cell_Add x470 1 18446744073709551615) fun x766 =>
 some (x766.1,(7,x471,v4.2.2.1,v4.2.2.2.1,0),[])
 else
 bif v4.1 == 7 then
 bif decide (v4.2.2.2.2 < 0) then
 some (x470,(8,x471,(v4.2.2.1.1,v4.2.2.1.2.1,v4.2.2.1.2.2.1,0,v4.2.2.1.2.2.2.2),v4.2.2.2.1,0),[])
 else
 bif decide (IntKind.i64.wrap (2 + IntKind.i64.wrap (2 * v0.1)) ≤ v4.2.2.2.2) then
 some (x470,(8,x471,(v4.2.2.1.1,v4.2.2.1.2.1,v4.2.2.1.2.2.1,0,v4.2.2.1.2.2.2.2),v4.2.2.2.1,0),[])
 else
 bif v4.2.2.2.2 == 0 then
 ob (g_cell_Load x470 4) fun x767 =>
 bif IntKind.i64.wrap (v4.2.2.2.2 + 1) == IntKind.i64.wrap (2 + IntKind.i64.wrap (2 * v0.1)) then
 some (x470,(8,x471,(v4.2.2.1.1,v4.2.2.1.2.1,v4.2.2.1.2.2.1,0,v4.2.2.1.2.2.2.2),v4.2.2.2.1,0),[])
 else
 some (x470,(v4.1,x471,(v4.2.2.1.1,v4.2.2.1.2.1,v4.2.2.1.2.2.1,x767,v4.2.2.1.2.2.2.2),v4.2.2.2.1,(IntKind.i64.wrap (v4.2.2.2.2 + 1))),[])
 else
 bif v4.2.2.2.2 == 1 then
 ob (g_cell_Load x470 5) fun x768 =>
 bif x768 != v4.2.2.1.2.2.2.1 then
 some (x470,(1,x471,(0,0,0,0,0,0,0),v4.2.2.2),[])
 else
 bif IntKind.i64.wrap (v4.2.2.2.2 + 1) == IntKind.i64.wrap (2 + IntKind.i64.wrap (2 * v0.1)) then
 some (x470,(8,x471,(v4.2.2.1.1,v4.2.2.1.2.1,v4.2.2.1.2.2.1,0,v4.2.2.1.2.2.2.2),v4.2.2.2.1,0),[])
 else
 some (x470,(v4.1,x471,v4.2.2.1,v4.2.2.2.1,(IntKind.i64.wrap (v4.2.2.2.2 + 1))),[])
 else
 bif v4.2.2.2.2.tmod 2 == 0 then
 ob (g_lay_Top v0 (IntKind.i64.wrap ((IntKind.i64.wrap (v4.2.2.2.2 - 2)).tdiv 2))) fun x769 =>
 ob (g_cell_Load x470 x769) fun x770 =>
 bif IntKind.i64.wrap (v4.2.2.2.2 + 1) == IntKind.i64.wrap (2 + IntKind.i64.wrap (2 * v0.1)) then
 some (x470,(8,x471,(v4.2.2.1.1,v4.2.2.1.2.1,v4.2.2.1.2.2.1,0,v4.2.2.1.2.2.2.2),v4.2.2.2.1,0),[])
 else
 some (x470,(v4.1,x471,(v4.2.2.1.1,v4.2.2.1.2.1,v4.2.2.1.2.2.1,x770,v4.2.2.1.2.2.2.2),v4.2.2.2.1,(IntKind.i64.wrap (v4.2.2.2.2 + 1))),[])
 else
 ob (g_lay_Bottom v0 (IntKind.i64.wrap ((IntKind.i64.wrap (v4.2.2.2.2 - 2)).tdiv 2))) fun x771 =>
 ob (g_cell_Load x470 x771) fun x772 =>
 ob (g_word_Far x772 v4.2.2.1.2.2.2.1) fun x773 =>
 bif decide (0 < x773) then
 some (x470,(1,x471,(0,0,0,0,0,0,0),v4.2.2.2),[])
 else
 bif IntKind.i64.wrap (v4.2.2.2.2 + 1) == IntKind.i64.wrap (2 + IntKind.i64.wrap (2 * v0.1)) then
 some (x470,(8,x471,(v4.2.2.1.1,v4.2.2.1.2.1,v4.2.2.1.2.2.1,0,v4.2.2.1.2.2.2.2),v4.2.2.2.1,0),[])
 else
 some (x470,(v4.1,x471,v4.2.2.1,v4.2.2.2.1,(IntKind.i64.wrap (v4.2.2.2.2 + 1))),[])
 else
 bif v4.1 == 8 then
 bif v4.2.2.1.1 == 0 then
 bif v4.2.2.1.1 == 0 then
 ob (g_deque_Step (k + 31) v0 x470 v4.2.2.1) fun x774 =>
 ob (g_frame_Over x774.2) fun x775 =>
 bif x775 then
 some (x774.1,(1,x471,(0,0,0,0,0,0,0),v4.2.2.2),[])
 else
 some (x774.1,(v4.1,x471,x774.2,v4.2.2.2),[])
 else
 bif v4.2.2.1.1 == 3 then
 bif v4.2.2.1.1 == 3 then
 ob (g_inject_Step v0 x470 v4.2.2.1) fun x776 =>
 ob (g_frame_Over x776.2) fun x777 =>
 bif x777 then
 some (x776.1,(1,x471,(0,0,0,0,0,0,0),v4.2.2.2),[])
 else
 some (x776.1,(v4.1,x471,x776.2,v4.2.2.2),[])
 else
 ob (g_event_Step (k + 40) v0 x470 v4.2.2.1) fun x778 =>
 ob (g_frame_Over x778.2) fun x779 =>
 bif x779 then
 some (x778.1,(1,x471,(0,0,0,0,0,0,0),v4.2.2.2),[])
 else
 some (x778.1,(v4.1,x471,x778.2,v4.2.2.2),[])
 else
 bif v4.2.2.1.1 == 4 then
 ob (g_inject_Step v0 x470 v4.2.2.1) fun x780 =>
 ob (g_frame_Over x780.2) fun x781 =>
 bif x781 then
 some (x780.1,(1,x471,(0,0,0,0,0,0,0),v4.2.2.2),[])
 else
 some (x780.1,(v4.1,x471,x780.2,v4.2.2.2),[])
 else
 ob (g_event_Step (k + 40) v0 x470 v4.2.2.1) fun x782 =>
 ob (g_frame_Over x782.2) fun x783 =>
 bif x783 then
 some (x782.1,(1,x471,(0,0,0,0,0,0,0),v4.2.2.2),[])
 else
 some (x782.1,(v4.1,x471,x782.2,v4.2.2.2),[])
 else
 bif v4.2.2.1.1 == 1 then
 bif v4.2.2.1.1 == 1 then
 ob (g_deque_Step (k + 31) v0 x470 v4.2.2.1) fun x784 =>
 ob (g_frame_Over x784.2) fun x785 =>
 bif x785 then
 some (x784.1,(1,x471,(0,0,0,0,0,0,0),v4.2.2.2),[])
 else
 some (x784.1,(v4.1,x471,x784.2,v4.2.2.2),[])
 else
 bif v4.2.2.1.1 == 3 then
 bif v4.2.2.1.1 == 3 then
 ob (g_inject_Step v0 x470 v4.2.2.1) fun x786 =>
 ob (g_frame_Over x786.2) fun x787 =>
 bif x787 then
 some (x786.1,(1,x471,(0,0,0,0,0,0,0),v4.2.2.2),[])
 else
 some (x786.1,(v4.1,x471,x786.2,v4.2.2.2),[])
 else
 ob (g_event_Step (k + 40) v0 x470 v4.2.2.1) fun x788 =>
 ob (g_frame_Over x788.2) fun x789 =>
 bif x789 then
 some (x788.1,(1,x471,(0,0,0,0,0,0,0),v4.2.2.2),[])
 else
 some (x788.1,(v4.1,x471,x788.2,v4.2.2.2),[])
 else
 bif v4.2.2.1.1 == 4 then
 ob (g_inject_Step v0 x470 v4.2.2.1) fun x790 =>
 ob (g_frame_Over x790.2) fun x791 =>
 bif x791 then
 some (x790.1,(1,x471,(0,0,0,0,0,0,0),v4.2.2.2),[])
 else
 some (x790.1,(v4.1,x471,x790.2,v4.2.2.2),[])
 else
 ob (g_event_Step (k + 40) v0 x470 v4.2.2.1) fun x792 =>
 ob (g_frame_Over x792.2) fun x793 =>
 bif x793 then
 some (x792.1,(1,x471,(0,0,0,0,0,0,0),v4.2.2.2),[])
 else
 some (x792.1,(v4.1,x471,x792.2,v4.2.2.2),[])
 else
 bif v4.2.2.1.1 == 2 then
 ob (g_deque_Step (k + 31) v0 x470 v4.2.2.1) fun x794 =>
 ob (g_frame_Over x794.2) fun x795 =>
 bif x795 then
 some (x794.1,(1,x471,(0,0,0,0,0,0,0),v4.2.2.2),[])
 else
 some (x794.1,(v4.1,x471,x794.2,v4.2.2.2),[])
 else
 bif v4.2.2.1.1 == 3 then
 bif v4.2.2.1.1 == 3 then
 ob (g_inject_Step v0 x470 v4.2.2.1) fun x796 =>
 ob (g_frame_Over x796.2) fun x797 =>
 bif x797 then
 some (x796.1,(1,x471,(0,0,0,0,0,0,0),v4.2.2.2),[])
 else
 some (x796.1,(v4.1,x471,x796.2,v4.2.2.2),[])
 else
 ob (g_event_Step (k + 40) v0 x470 v4.2.2.1) fun x798 =>
 ob (g_frame_Over x798.2) fun x799 =>
 bif x799 then
 some (x798.1,(1,x471,(0,0,0,0,0,0,0),v4.2.2.2),[])
 else
 some (x798.1,(v4.1,x471,x798.2,v4.2.2.2),[])
 else
 bif v4.2.2.1.1 == 4 then
 ob (g_inject_Step v0 x470 v4.2.2.1) fun x800 =>
 ob (g_frame_Over x800.2) fun x801 =>
 bif x801 then
 some (x800.1,(1,x471,(0,0,0,0,0,0,0),v4.2.2.2),[])
 else
 some (x800.1,(v4.1,x471,x800.2,v4.2.2.2),[])
 else
 ob (g_event_Step (k + 40) v0 x470 v4.2.2.1) fun x802 =>
 ob (g_frame_Over x802.2) fun x803 =>
 bif x803 then
 some (x802.1,(1,x471,(0,0,0,0,0,0,0),v4.2.2.2),[])
 else
 some (x802.1,(v4.1,x471,x802.2,v4.2.2.2),[])
 else
 bif v4.1 == 9 then
 ob (g_think_Next (k + 37) v1 x471) fun x804 =>
 bif x804.1 == 1 then
 ob (g_think_Do (k + 36) v1 x471) fun x805 =>
 some (x470,(v4.1,x805,v4.2.2),[])
 else
 bif x804.1 == 2 then
 some (x470,(10,x471,v4.2.2),[])
 else
 bif x804.1 == 3 then
 some (x470,(15,x471,v4.2.2),[])
 else
 ob (g_frame_Begin 1 v3 0) fun x806 =>
 some (x470,(0,x471,x806,v4.2.2.2),[])
 else
 bif v4.1 == 10 then
 ob (g_think_Next (k + 37) v1 x471) fun x807 =>
 bif x807.1 != 2 then
 some (x470,(9,x471,(0,0,0,0,0,0,0),v4.2.2.2),[])
 else
 ob (g_cell_Add x470 0 1) fun x808 =>
 bif room 1 24 then
 ob (g_think_Do (k + 36) v1 x471) fun x809 =>
 ob (g_frame_Begin 0 v3 (IntKind.u64.wrap x807.2)) fun x810 =>
 some (x808.1,(11,x809,x810,v4.2.2.2),([(3,x807.2,v3)]))
 else
 none
 else
 bif v4.1 == 11 then
 bif v4.2.2.1.1 == 0 then
 bif v4.2.2.1.1 == 0 then
 ob (g_deque_Step (k + 31) v0 x470 v4.2.2.1) fun x811 =>
 ob (g_frame_Over x811.2) fun x812 =>
 bif !x812 then
 some (x811.1,(v4.1,x471,x811.2,v4.2.2.2),[])
 else
 bif x811.2.2.2.2.2.2.2 == 2 then
 ob (g_frame_Begin 3 v3 x811.2.2.2.2.1) fun x813 =>
 some (x811.1,(12,x471,x813,v4.2.2.2),[])
 else
 some (x811.1,(13,x471,(0,0,0,0,0,0,0),v4.2.2.2),[])
 else
 bif v4.2.2.1.1 == 3 then
 bif v4.2.2.1.1 == 3 then
 ob (g_inject_Step v0 x470 v4.2.2.1) fun x814 =>
 ob (g_frame_Over x814.2) fun x815 =>
 bif !x815 then
 some (x814.1,(v4.1,x471,x814.2,v4.2.2.2),[])
 else
 bif x814.2.2.2.2.2.2.2 == 2 then
 ob (g_frame_Begin 3 v3 x814.2.2.2.2.1) fun x816 =>
 some (x814.1,(12,x471,x816,v4.2.2.2),[])
 else
 some (x814.1,(13,x471,(0,0,0,0,0,0,0),v4.2.2.2),[])
 else
 ob (g_event_Step (k + 40) v0 x470 v4.2.2.1) fun x817 =>
 ob (g_frame_Over x817.2) fun x818 =>
 bif !x818 then
 some (x817.1,(v4.1,x471,x817.2,v4.2.2.2),[])
 else
 bif x817.2.2.2.2.2.2.2 == 2 then
 ob (g_frame_Begin 3 v3 x817.2.2.2.2.1) fun x819 =>
 some (x817.1,(12,x471,x819,v4.2.2.2),[])
 else
 some (x817.1,(13,x471,(0,0,0,0,0,0,0),v4.2.2.2),[])
 else
 bif v4.2.2.1.1 == 4 then
 ob (g_inject_Step v0 x470 v4.2.2.1) fun x820 =>
 ob (g_frame_Over x820.2) fun x821 =>
 bif !x821 then
 some (x820.1,(v4.1,x471,x820.2,v4.2.2.2),[])
 else
 bif x820.2.2.2.2.2.2.2 == 2 then
 ob (g_frame_Begin 3 v3 x820.2.2.2.2.1) fun x822 =>
 some (x820.1,(12,x471,x822,v4.2.2.2),[])
 else
 some (x820.1,(13,x471,(0,0,0,0,0,0,0),v4.2.2.2),[])
 else
 ob (g_event_Step (k + 40) v0 x470 v4.2.2.1) fun x823 =>
 ob (g_frame_Over x823.2) fun x824 =>
 bif !x824 then
 some (x823.1,(v4.1,x471,x823.2,v4.2.2.2),[])
 else
 bif x823.2.2.2.2.2.2.2 == 2 then
 ob (g_frame_Begin 3 v3 x823.2.2.2.2.1) fun x825 =>
 some (x823.1,(12,x471,x825,v4.2.2.2),[])
 else
 some (x823.1,(13,x471,(0,0,0,0,0,0,0),v4.2.2.2),[])
 else
 bif v4.2.2.1.1 == 1 then
 bif v4.2.2.1.1 == 1 then
 ob (g_deque_Step (k + 31) v0 x470 v4.2.2.1) fun x826 =>
 ob (g_frame_Over x826.2) fun x827 =>
 bif !x827 then
 some (x826.1,(v4.1,x471,x826.2,v4.2.2.2),[])
 else
 bif x826.2.2.2.2.2.2.2 == 2 then
 ob (g_frame_Begin 3 v3 x826.2.2.2.2.1) fun x828 =>
 some (x826.1,(12,x471,x828,v4.2.2.2),[])
 else
 some (x826.1,(13,x471,(0,0,0,0,0,0,0),v4.2.2.2),[])
 else
 bif v4.2.2.1.1 == 3 then
 bif v4.2.2.1.1 == 3 then
 ob (g_inject_Step v0 x470 v4.2.2.1) fun x829 =>
 ob (g_frame_Over x829.2) fun x830 =>
 bif !x830 then
 some (x829.1,(v4.1,x471,x829.2,v4.2.2.2),[])
 else
 bif x829.2.2.2.2.2.2.2 == 2 then
 ob (g_frame_Begin 3 v3 x829.2.2.2.2.1) fun x831 =>
 some (x829.1,(12,x471,x831,v4.2.2.2),[])
 else
 some (x829.1,(13,x471,(0,0,0,0,0,0,0),v4.2.2.2),[])
 else
 ob (g_event_Step (k + 40) v0 x470 v4.2.2.1) fun x832 =>
 ob (g_frame_Over x832.2) fun x833 =>
 bif !x833 then
 some (x832.1,(v4.1,x471,x832.2,v4.2.2.2),[])
 else
 bif x832.2.2.2.2.2.2.2 == 2 then
 ob (g_frame_Begin 3 v3 x832.2.2.2.2.1) fun x834 =>
 some (x832.1,(12,x471,x834,v4.2.2.2),[])
 else
 some (x832.1,(13,x471,(0,0,0,0,0,0,0),v4.2.2.2),[])
 else
 bif v4.2.2.1.1 == 4 then
 ob (g_inject_Step v0 x470 v4.2.2.1) fun x835 =>
 ob (g_frame_Over x835.2) fun x836 =>
 bif !x836 then
 some (x835.1,(v4.1,x471,x835.2,v4.2.2.2),[])
 else
 bif x835.2.2.2.2.2.2.2 == 2 then
 ob (g_frame_Begin 3 v3 x835.2.2.2.2.1) fun x837 =>
 some (x835.1,(12,x471,x837,v4.2.2.2),[])
 else
 some (x835.1,(13,x471,(0,0,0,0,0,0,0),v4.2.2.2),[])
 else
 ob (g_event_Step (k + 40) v0 x470 v4.2.2.1) fun x838 =>
 ob (g_frame_Over x838.2) fun x839 =>
 bif !x839 then
 some (x838.1,(v4.1,x471,x838.2,v4.2.2.2),[])
 else
 bif x838.2.2.2.2.2.2.2 == 2 then
 ob (g_frame_Begin 3 v3 x838.2.2.2.2.1) fun x840 =>
 some (x838.1,(12,x471,x840,v4.2.2.2),[])
 else
 some (x838.1,(13,x471,(0,0,0,0,0,0,0),v4.2.2.2),[])
 else
 bif v4.2.2.1.1 == 2 then
 ob (g_deque_Step (k + 31) v0 x470 v4.2.2.1) fun x841 =>
 ob (g_frame_Over x841.2) fun x842 =>
 bif !x842 then
 some (x841.1,(v4.1,x471,x841.2,v4.2.2.2),[])
 else
 bif x841.2.2.2.2.2.2.2 == 2 then
 ob (g_frame_Begin 3 v3 x841.2.2.2.2.1) fun x843 =>
 some (x841.1,(12,x471,x843,v4.2.2.2),[])
 else
 some (x841.1,(13,x471,(0,0,0,0,0,0,0),v4.2.2.2),[])
 else
 bif v4.2.2.1.1 == 3 then
 bif v4.2.2.1.1 == 3 then
 ob (g_inject_Step v0 x470 v4.2.2.1) fun x844 =>
 ob (g_frame_Over x844.2) fun x845 =>
 bif !x845 then
 some (x844.1,(v4.1,x471,x844.2,v4.2.2.2),[])
 else
 bif x844.2.2.2.2.2.2.2 == 2 then
 ob (g_frame_Begin 3 v3 x844.2.2.2.2.1) fun x846 =>
 some (x844.1,(12,x471,x846,v4.2.2.2),[])
 else
 some (x844.1,(13,x471,(0,0,0,0,0,0,0),v4.2.2.2),[])
 else
 ob (g_event_Step (k + 40) v0 x470 v4.2.2.1) fun x847 =>
 ob (g_frame_Over x847.2) fun x848 =>
 bif !x848 then
 some (x847.1,(v4.1,x471,x847.2,v4.2.2.2),[])
 else
 bif x847.2.2.2.2.2.2.2 == 2 then
 ob (g_frame_Begin 3 v3 x847.2.2.2.2.1) fun x849 =>
 some (x847.1,(12,x471,x849,v4.2.2.2),[])
 else
 some (x847.1,(13,x471,(0,0,0,0,0,0,0),v4.2.2.2),[])
 else
 bif v4.2.2.1.1 == 4 then
 ob (g_inject_Step v0 x470 v4.2.2.1) fun x850 =>
 ob (g_frame_Over x850.2) fun x851 =>
 bif !x851 then
 some (x850.1,(v4.1,x471,x850.2,v4.2.2.2),[])
 else
 bif x850.2.2.2.2.2.2.2 == 2 then
 ob (g_frame_Begin 3 v3 x850.2.2.2.2.1) fun x852 =>
 some (x850.1,(12,x471,x852,v4.2.2.2),[])
 else
 some (x850.1,(13,x471,(0,0,0,0,0,0,0),v4.2.2.2),[])
 else
 ob (g_event_Step (k + 40) v0 x470 v4.2.2.1) fun x853 =>
 ob (g_frame_Over x853.2) fun x854 =>
 bif !x854 then
 some (x853.1,(v4.1,x471,x853.2,v4.2.2.2),[])
 else
 bif x853.2.2.2.2.2.2.2 == 2 then
 ob (g_frame_Begin 3 v3 x853.2.2.2.2.1) fun x855 =>
 some (x853.1,(12,x471,x855,v4.2.2.2),[])
 else
 some (x853.1,(13,x471,(0,0,0,0,0,0,0),v4.2.2.2),[])
 else
 bif v4.1 == 12 then
 bif v4.2.2.1.1 == 0 then
 bif v4.2.2.1.1 == 0 then
 ob (g_deque_Step (k + 31) v0 x470 v4.2.2.1) fun x856 =>
 ob (g_frame_Over x856.2) fun x857 =>
 bif !x857 then
 some (x856.1,(v4.1,x471,x856.2,v4.2.2.2),[])
 else
 bif x856.2.2.2.2.2.2.2 == 2 then
 ob (g_think_Start (k + 36) v1 x471 (IntKind.i64.wrap x856.2.2.2.2.1)) fun x858 =>
 bif room 1 24 then
 some (x856.1,(9,x858,(0,0,0,0,0,0,0),v4.2.2.2),([(2,IntKind.i64.wrap x856.2.2.2.2.1,v3)]))
 else
 none
 else
 some (x856.1,(13,x471,(0,0,0,0,0,0,0),v4.2.2.2),[])
 else
 bif v4.2.2.1.1 == 3 then
 bif v4.2.2.1.1 == 3 then
 ob (g_inject_Step v0 x470 v4.2.2.1) fun x859 =>
 ob (g_frame_Over x859.2) fun x860 =>
 bif !x860 then
 some (x859.1,(v4.1,x471,x859.2,v4.2.2.2),[])
 else
 bif x859.2.2.2.2.2.2.2 == 2 then
 ob (g_think_Start (k + 36) v1 x471 (IntKind.i64.wrap x859.2.2.2.2.1)) fun x861 =>
 bif room 1 24 then
 some (x859.1,(9,x861,(0,0,0,0,0,0,0),v4.2.2.2),([(2,IntKind.i64.wrap x859.2.2.2.2.1,v3)]))
 else
 none
 else
 some (x859.1,(13,x471,(0,0,0,0,0,0,0),v4.2.2.2),[])
 else
 ob (g_event_Step (k + 40) v0 x470 v4.2.2.1) fun x862 =>
 ob (g_frame_Over x862.2) fun x863 =>
 bif !x863 then
 some (x862.1,(v4.1,x471,x862.2,v4.2.2.2),[])
 else
 bif x862.2.2.2.2.2.2.2 == 2 then
 ob (g_think_Start (k + 36) v1 x471 (IntKind.i64.wrap x862.2.2.2.2.1)) fun x864 =>
 bif room 1 24 then
 some (x862.1,(9,x864,(0,0,0,0,0,0,0),v4.2.2.2),([(2,IntKind.i64.wrap x862.2.2.2.2.1,v3)]))
 else
 none
 else
 some (x862.1,(13,x471,(0,0,0,0,0,0,0),v4.2.2.2),[])
 else
 bif v4.2.2.1.1 == 4 then
 ob (g_inject_Step v0 x470 v4.2.2.1) fun x865 =>
 ob (g_frame_Over x865.2) fun x866 =>
 bif !x866 then
 some (x865.1,(v4.1,x471,x865.2,v4.2.2.2),[])
 else
 bif x865.2.2.2.2.2.2.2 == 2 then
 ob (g_think_Start (k + 36) v1 x471 (IntKind.i64.wrap x865.2.2.2.2.1)) fun x867 =>
 bif room 1 24 then
 some (x865.1,(9,x867,(0,0,0,0,0,0,0),v4.2.2.2),([(2,IntKind.i64.wrap x865.2.2.2.2.1,v3)]))
 else
 none
 else
 some (x865.1,(13,x471,(0,0,0,0,0,0,0),v4.2.2.2),[])
 else
 ob (g_event_Step (k + 40) v0 x470 v4.2.2.1) fun x868 =>
 ob (g_frame_Over x868.2) fun x869 =>
 bif !x869 then
 some (x868.1,(v4.1,x471,x868.2,v4.2.2.2),[])
 else
 bif x868.2.2.2.2.2.2.2 == 2 then
 ob (g_think_Start (k + 36) v1 x471 (IntKind.i64.wrap x868.2.2.2.2.1)) fun x870 =>
 bif room 1 24 then
 some (x868.1,(9,x870,(0,0,0,0,0,0,0),v4.2.2.2),([(2,IntKind.i64.wrap x868.2.2.2.2.1,v3)]))
 else
 none
 else
 some (x868.1,(13,x471,(0,0,0,0,0,0,0),v4.2.2.2),[])
 else
 bif v4.2.2.1.1 == 1 then
 bif v4.2.2.1.1 == 1 then
 ob (g_deque_Step (k + 31) v0 x470 v4.2.2.1) fun x871 =>
 ob (g_frame_Over x871.2) fun x872 =>
 bif !x872 then
 some (x871.1,(v4.1,x471,x871.2,v4.2.2.2),[])
 else
 bif x871.2.2.2.2.2.2.2 == 2 then
 ob (g_think_Start (k + 36) v1 x471 (IntKind.i64.wrap x871.2.2.2.2.1)) fun x873 =>
 bif room 1 24 then
 some (x871.1,(9,x873,(0,0,0,0,0,0,0),v4.2.2.2),([(2,IntKind.i64.wrap x871.2.2.2.2.1,v3)]))
 else
 none
 else
 some (x871.1,(13,x471,(0,0,0,0,0,0,0),v4.2.2.2),[])
 else
 bif v4.2.2.1.1 == 3 then
 bif v4.2.2.1.1 == 3 then
 ob (g_inject_Step v0 x470 v4.2.2.1) fun x874 =>
 ob (g_frame_Over x874.2) fun x875 =>
 bif !x875 then
 some (x874.1,(v4.1,x471,x874.2,v4.2.2.2),[])
 else
 bif x874.2.2.2.2.2.2.2 == 2 then
 ob (g_think_Start (k + 36) v1 x471 (IntKind.i64.wrap x874.2.2.2.2.1)) fun x876 =>
 bif room 1 24 then
 some (x874.1,(9,x876,(0,0,0,0,0,0,0),v4.2.2.2),([(2,IntKind.i64.wrap x874.2.2.2.2.1,v3)]))
 else
 none
 else
 some (x874.1,(13,x471,(0,0,0,0,0,0,0),v4.2.2.2),[])
 else
 ob (g_event_Step (k + 40) v0 x470 v4.2.2.1) fun x877 =>
 ob (g_frame_Over x877.2) fun x878 =>
 bif !x878 then
 some (x877.1,(v4.1,x471,x877.2,v4.2.2.2),[])
 else
 bif x877.2.2.2.2.2.2.2 == 2 then
 ob (g_think_Start (k + 36) v1 x471 (IntKind.i64.wrap x877.2.2.2.2.1)) fun x879 =>
 bif room 1 24 then
 some (x877.1,(9,x879,(0,0,0,0,0,0,0),v4.2.2.2),([(2,IntKind.i64.wrap x877.2.2.2.2.1,v3)]))
 else
 none
 else
 some (x877.1,(13,x471,(0,0,0,0,0,0,0),v4.2.2.2),[])
 else
 bif v4.2.2.1.1 == 4 then
 ob (g_inject_Step v0 x470 v4.2.2.1) fun x880 =>
 ob (g_frame_Over x880.2) fun x881 =>
 bif !x881 then
 some (x880.1,(v4.1,x471,x880.2,v4.2.2.2),[])
 else
 bif x880.2.2.2.2.2.2.2 == 2 then
 ob (g_think_Start (k + 36) v1 x471 (IntKind.i64.wrap x880.2.2.2.2.1)) fun x882 =>
 bif room 1 24 then
 some (x880.1,(9,x882,(0,0,0,0,0,0,0),v4.2.2.2),([(2,IntKind.i64.wrap x880.2.2.2.2.1,v3)]))
 else
 none
 else
 some (x880.1,(13,x471,(0,0,0,0,0,0,0),v4.2.2.2),[])
 else
 ob (g_event_Step (k + 40) v0 x470 v4.2.2.1) fun x883 =>
 ob (g_frame_Over x883.2) fun x884 =>
 bif !x884 then
 some (x883.1,(v4.1,x471,x883.2,v4.2.2.2),[])
 else
 bif x883.2.2.2.2.2.2.2 == 2 then
 ob (g_think_Start (k + 36) v1 x471 (IntKind.i64.wrap x883.2.2.2.2.1)) fun x885 =>
 bif room 1 24 then
 some (x883.1,(9,x885,(0,0,0,0,0,0,0),v4.2.2.2),([(2,IntKind.i64.wrap x883.2.2.2.2.1,v3)]))
 else
 none
 else
 some (x883.1,(13,x471,(0,0,0,0,0,0,0),v4.2.2.2),[])
 else
 bif v4.2.2.1.1 == 2 then
 ob (g_deque_Step (k + 31) v0 x470 v4.2.2.1) fun x886 =>
 ob (g_frame_Over x886.2) fun x887 =>
 bif !x887 then
 some (x886.1,(v4.1,x471,x886.2,v4.2.2.2),[])
 else
 bif x886.2.2.2.2.2.2.2 == 2 then
 ob (g_think_Start (k + 36) v1 x471 (IntKind.i64.wrap x886.2.2.2.2.1)) fun x888 =>
 bif room 1 24 then
 some (x886.1,(9,x888,(0,0,0,0,0,0,0),v4.2.2.2),([(2,IntKind.i64.wrap x886.2.2.2.2.1,v3)]))
 else
 none
 else
 some (x886.1,(13,x471,(0,0,0,0,0,0,0),v4.2.2.2),[])
 else
 bif v4.2.2.1.1 == 3 then
 bif v4.2.2.1.1 == 3 then
 ob (g_inject_Step v0 x470 v4.2.2.1) fun x889 =>
 ob (g_frame_Over x889.2) fun x890 =>
 bif !x890 then
 some (x889.1,(v4.1,x471,x889.2,v4.2.2.2),[])
 else
 bif x889.2.2.2.2.2.2.2 == 2 then
 ob (g_think_Start (k + 36) v1 x471 (IntKind.i64.wrap x889.2.2.2.2.1)) fun x891 =>
 bif room 1 24 then
 some (x889.1,(9,x891,(0,0,0,0,0,0,0),v4.2.2.2),([(2,IntKind.i64.wrap x889.2.2.2.2.1,v3)]))
 else
 none
 else
 some (x889.1,(13,x471,(0,0,0,0,0,0,0),v4.2.2.2),[])
 else
 ob (g_event_Step (k + 40) v0 x470 v4.2.2.1) fun x892 =>
 ob (g_frame_Over x892.2) fun x893 =>
 bif !x893 then
 some (x892.1,(v4.1,x471,x892.2,v4.2.2.2),[])
 else
 bif x892.2.2.2.2.2.2.2 == 2 then
 ob (g_think_Start (k + 36) v1 x471 (IntKind.i64.wrap x892.2.2.2.2.1)) fun x894 =>
 bif room 1 24 then
 some (x892.1,(9,x894,(0,0,0,0,0,0,0),v4.2.2.2),([(2,IntKind.i64.wrap x892.2.2.2.2.1,v3)]))
 else
 none
 else
 some (x892.1,(13,x471,(0,0,0,0,0,0,0),v4.2.2.2),[])
 else
 bif v4.2.2.1.1 == 4 then
 ob (g_inject_Step v0 x470 v4.2.2.1) fun x895 =>
 ob (g_frame_Over x895.2) fun x896 =>
 bif !x896 then
 some (x895.1,(v4.1,x471,x895.2,v4.2.2.2),[])
 else
 bif x895.2.2.2.2.2.2.2 == 2 then
 ob (g_think_Start (k + 36) v1 x471 (IntKind.i64.wrap x895.2.2.2.2.1)) fun x897 =>
 bif room 1 24 then
 some (x895.1,(9,x897,(0,0,0,0,0,0,0),v4.2.2.2),([(2,IntKind.i64.wrap x895.2.2.2.2.1,v3)]))
 else
 none
 else
 some (x895.1,(13,x471,(0,0,0,0,0,0,0),v4.2.2.2),[])
 else
 ob (g_event_Step (k + 40) v0 x470 v4.2.2.1) fun x898 =>
 ob (g_frame_Over x898.2) fun x899 =>
 bif !x899 then
 some (x898.1,(v4.1,x471,x898.2,v4.2.2.2),[])
 else
 bif x898.2.2.2.2.2.2.2 == 2 then
 ob (g_think_Start (k + 36) v1 x471 (IntKind.i64.wrap x898.2.2.2.2.1)) fun x900 =>
 bif room 1 24 then
 some (x898.1,(9,x900,(0,0,0,0,0,0,0),v4.2.2.2),([(2,IntKind.i64.wrap x898.2.2.2.2.1,v3)]))
 else
 none
 else
 some (x898.1,(13,x471,(0,0,0,0,0,0,0),v4.2.2.2),[])
 else
 bif v4.1 == 13 then
 ob (g_cell_Load x470 1) fun x901 =>
 bif x901 == 0 then
 ob (g_frame_Begin 6 v3 0) fun x902 =>
 some (x470,(14,x471,x902,v4.2.2.2),[])
 else
 some (x470,(9,x471,(0,0,0,0,0,0,0),v4.2.2.2),[])
 else
 bif v4.1 == 14 then
 bif v4.2.2.1.1 == 0 then
 bif v4.2.2.1.1 == 0 then
 ob (g_deque_Step (k + 31) v0 x470 v4.2.2.1) fun x903 =>
 ob (g_frame_Over x903.2) fun x904 =>
 bif x904 then
 some (x903.1,(9,x471,(0,0,0,0,0,0,0),v4.2.2.2),[])
 else
 some (x903.1,(v4.1,x471,x903.2,v4.2.2.2),[])
 else
 bif v4.2.2.1.1 == 3 then
 bif v4.2.2.1.1 == 3 then
 ob (g_inject_Step v0 x470 v4.2.2.1) fun x905 =>
 ob (g_frame_Over x905.2) fun x906 =>
 bif x906 then
 some (x905.1,(9,x471,(0,0,0,0,0,0,0),v4.2.2.2),[])
 else
 some (x905.1,(v4.1,x471,x905.2,v4.2.2.2),[])
 else
 ob (g_event_Step (k + 40) v0 x470 v4.2.2.1) fun x907 =>
 ob (g_frame_Over x907.2) fun x908 =>
 bif x908 then
 some (x907.1,(9,x471,(0,0,0,0,0,0,0),v4.2.2.2),[])
 else
 some (x907.1,(v4.1,x471,x907.2,v4.2.2.2),[])
 else
 bif v4.2.2.1.1 == 4 then
 ob (g_inject_Step v0 x470 v4.2.2.1) fun x909 =>
 ob (g_frame_Over x909.2) fun x910 =>
 bif x910 then
 some (x909.1,(9,x471,(0,0,0,0,0,0,0),v4.2.2.2),[])
 else
 some (x909.1,(v4.1,x471,x909.2,v4.2.2.2),[])
 else
 ob (g_event_Step (k + 40) v0 x470 v4.2.2.1) fun x911 =>
 ob (g_frame_Over x911.2) fun x912 =>
 bif x912 then
 some (x911.1,(9,x471,(0,0,0,0,0,0,0),v4.2.2.2),[])
 else
 some (x911.1,(v4.1,x471,x911.2,v4.2.2.2),[])
 else
 bif v4.2.2.1.1 == 1 then
 bif v4.2.2.1.1 == 1 then
 ob (g_deque_Step (k + 31) v0 x470 v4.2.2.1) fun x913 =>
 ob (g_frame_Over x913.2) fun x914 =>
 bif x914 then
 some (x913.1,(9,x471,(0,0,0,0,0,0,0),v4.2.2.2),[])
 else
 some (x913.1,(v4.1,x471,x913.2,v4.2.2.2),[])
 else
 bif v4.2.2.1.1 == 3 then
 bif v4.2.2.1.1 == 3 then
 ob (g_inject_Step v0 x470 v4.2.2.1) fun x915 =>
 ob (g_frame_Over x915.2) fun x916 =>
 bif x916 then
 some (x915.1,(9,x471,(0,0,0,0,0,0,0),v4.2.2.2),[])
 else
 some (x915.1,(v4.1,x471,x915.2,v4.2.2.2),[])
 else
 ob (g_event_Step (k + 40) v0 x470 v4.2.2.1) fun x917 =>
 ob (g_frame_Over x917.2) fun x918 =>
 bif x918 then
 some (x917.1,(9,x471,(0,0,0,0,0,0,0),v4.2.2.2),[])
 else
 some (x917.1,(v4.1,x471,x917.2,v4.2.2.2),[])
 else
 bif v4.2.2.1.1 == 4 then
 ob (g_inject_Step v0 x470 v4.2.2.1) fun x919 =>
 ob (g_frame_Over x919.2) fun x920 =>
 bif x920 then
 some (x919.1,(9,x471,(0,0,0,0,0,0,0),v4.2.2.2),[])
 else
 some (x919.1,(v4.1,x471,x919.2,v4.2.2.2),[])
 else
 ob (g_event_Step (k + 40) v0 x470 v4.2.2.1) fun x921 =>
 ob (g_frame_Over x921.2) fun x922 =>
 bif x922 then
 some (x921.1,(9,x471,(0,0,0,0,0,0,0),v4.2.2.2),[])
 else
 some (x921.1,(v4.1,x471,x921.2,v4.2.2.2),[])
 else
 bif v4.2.2.1.1 == 2 then
 ob (g_deque_Step (k + 31) v0 x470 v4.2.2.1) fun x923 =>
 ob (g_frame_Over x923.2) fun x924 =>
 bif x924 then
 some (x923.1,(9,x471,(0,0,0,0,0,0,0),v4.2.2.2),[])
 else
 some (x923.1,(v4.1,x471,x923.2,v4.2.2.2),[])
 else
 bif v4.2.2.1.1 == 3 then
 bif v4.2.2.1.1 == 3 then
 ob (g_inject_Step v0 x470 v4.2.2.1) fun x925 =>
 ob (g_frame_Over x925.2) fun x926 =>
 bif x926 then
 some (x925.1,(9,x471,(0,0,0,0,0,0,0),v4.2.2.2),[])
 else
 some (x925.1,(v4.1,x471,x925.2,v4.2.2.2),[])
 else
 ob (g_event_Step (k + 40) v0 x470 v4.2.2.1) fun x927 =>
 ob (g_frame_Over x927.2) fun x928 =>
 bif x928 then
 some (x927.1,(9,x471,(0,0,0,0,0,0,0),v4.2.2.2),[])
 else
 some (x927.1,(v4.1,x471,x927.2,v4.2.2.2),[])
 else
 bif v4.2.2.1.1 == 4 then
 ob (g_inject_Step v0 x470 v4.2.2.1) fun x929 =>
 ob (g_frame_Over x929.2) fun x930 =>
 bif x930 then
 some (x929.1,(9,x471,(0,0,0,0,0,0,0),v4.2.2.2),[])
 else
 some (x929.1,(v4.1,x471,x929.2,v4.2.2.2),[])
 else
 ob (g_event_Step (k + 40) v0 x470 v4.2.2.1) fun x931 =>
 ob (g_frame_Over x931.2) fun x932 =>
 bif x932 then
 some (x931.1,(9,x471,(0,0,0,0,0,0,0),v4.2.2.2),[])
 else
 some (x931.1,(v4.1,x471,x931.2,v4.2.2.2),[])
 else
 bif v4.1 == 15 then
 ob (g_think_Next (k + 37) v1 x471) fun x933 =>
 bif x933.1 != 3 then
 some (x470,(9,x471,(0,0,0,0,0,0,0),v4.2.2.2),[])
 else
 ob (g_cell_Add x470 0 18446744073709551615) fun x934 =>
 bif room 1 24 then
 bif x934.2 == 1 then
 bif room 2 24 then
 ob (g_think_Do (k + 36) v1 x471) fun x935 =>
 bif (↑x935.length : Int) == 0 then
 ob (g_frame_Begin 1 v3 0) fun x936 =>
 some (x934.1,(0,x935,x936,v4.2.2.2),([(4,x933.2,v3),(5,0,v3)]))
 else
 some (x934.1,(9,x935,(0,0,0,0,0,0,0),v4.2.2.2),([(4,x933.2,v3),(5,0,v3)]))
 else
 none
 else
 ob (g_think_Do (k + 36) v1 x471) fun x937 =>
 bif (↑x937.length : Int) == 0 then
 ob (g_frame_Begin 1 v3 0) fun x938 =>
 some (x934.1,(0,x937,x938,v4.2.2.2),([(4,x933.2,v3)]))
 else
 some (x934.1,(9,x937,(0,0,0,0,0,0,0),v4.2.2.2),([(4,x933.2,v3)]))
 else
 none
 else
 none
theorem h_work_Step (k : Nat) (v0_0 v0_1 v0_2 v0_3 : Int) (v1 : List (Int × List Int)) (v2 : List Int) (v3 v4_0 : Int) (v4_1 : List (Int × Int × Int)) (v4_2_0 v4_2_1 v4_2_2 v4_2_3 v4_2_4 v4_2_5 v4_2_6 v4_3 v4_4 v5 : Int) : xC (k + 60) none 10 [.agg [.lit (.int .i64 v0_0),.lit (.int .i64 v0_1),.lit (.int .i64 v0_2),.lit (.int .i64 v0_3)],.ro (List.map taskV v1),.ro (List.map (intR .u64) v2),.lit (.int .i64 v3),.agg [.lit (.int .i64 v4_0),.ro (List.map threeV v4_1),.lit (.int .i64 v4_2_0),.lit (.int .i64 v4_2_1),.lit (.int .i64 v4_2_2),.lit (.int .u64 v4_2_3),.lit (.int .u64 v4_2_4),.lit (.int .u64 v4_2_5),.lit (.int .i64 v4_2_6),.lit (.int .i64 v4_3),.lit (.int .i64 v4_4)],.lit (.int .u64 v5)] = ob (g_work_Step k (v0_0,v0_1,v0_2,v0_3) v1 v2 v3 (v4_0,v4_1,(v4_2_0,v4_2_1,v4_2_2,v4_2_3,v4_2_4,v4_2_5,v4_2_6),v4_3,v4_4) v5) fun r => some ((.tup [.ro (List.map (intR .u64) r.1),.agg [.lit (.int .i64 r.2.1.1),.ro (List.map threeV r.2.1.2.1),.lit (.int .i64 r.2.1.2.2.1.1),.lit (.int .i64 r.2.1.2.2.1.2.1),.lit (.int .i64 r.2.1.2.2.1.2.2.1),.lit (.int .u64 r.2.1.2.2.1.2.2.2.1),.lit (.int .u64 r.2.1.2.2.1.2.2.2.2.1),.lit (.int .u64 r.2.1.2.2.1.2.2.2.2.2.1),.lit (.int .i64 r.2.1.2.2.1.2.2.2.2.2.2),.lit (.int .i64 r.2.1.2.2.2.1),.lit (.int .i64 r.2.1.2.2.2.2)],.ro (List.map threeV r.2.2)]),[]) := by
  rw [xC_eq]
  unfold g_work_Step
  simp (maxSteps := 2000000) -implicitDefEqProofs only [xe10,xb10,xe22,xb22,xe23,xb23,xe24,xb24,xm24_0,xk24_0_ret,xe25,xb25,xj25_0,xk25_0_ret,xe26,xb26,xe27,xb27,xe28,xb28,xm28_0,xj28_1,xk28_0_ret,xk28_1_ret,xe29,xb29,xe30,xb30,xe31,xb31,xe32,xb32,xe33,xb33,xe34,xb34,xe35,xb35,xe36,xb36,xj36_0,xk36_0_ret,xe46,xb46,xj46_0,xj46_1,xk46_0_ret,xk46_1_ret,xe47,xb47,xe48,xb48,xe49,xb49,xe50,xb50,xe57,xb57,↓syP,syA,syD,Nat.reduceAdd,Nat.reduceSub,Nat.reduceMul,Nat.reduceLT,Nat.reduceLeDiff,Nat.reduceEqDiff,Nat.reduceBEq,Nat.reduceBNe,Int.reduceBEq,Int.reduceBNe,Int.reduceLT,Int.reduceLE,Int.reduceAdd,Int.reduceSub,Int.reduceNeg,syE,killR_cons,retype_intC,retype_threeC,xQ,h_cell_Load,h_frame_Over,h_cell_Add,h_frame_Begin,h_lay_Top,h_lay_Bottom,h_word_Far,h_draw_Victim,h_event_Step,h_inject_Step,h_deque_Step,h_think_Next,h_think_Do,h_think_Start,h_work_May]
  all_goals simp -implicitDefEqProofs only [List.map_nil]
end Go.Ab
