/- Functions as they are walked: printed by Walk.lean. -/
import Derived.Test.YthnifkacfonhgaaR2BA2
set_option linter.unusedVariables false
set_option linter.unusedSimpArgs false
set_option maxRecDepth 100000
set_option linter.unusedVariables false
set_option linter.unusedSimpArgs false
namespace Go.Ab
open Go.Proofs
def g_event_Play_nil1_L0 (k : Nat) (v0 : (List (List Int)))  : Nat → List Int → List (Int × Int × Int × Int × Int × Int × Int) → Option ((List Int) × (List (Int × Int × Int × Int × Int × Int × Int)) × (List (Int × Int × Int × Int × Int × Int × Int)))
  | 0,_,_ => none
  | n + 1,s17,s18 =>
    some ((s17),[],(s18))
theorem g_event_Play_nil1_L0_eq (k : Nat) (v0 : (List (List Int))) : ∀ (n : Nat) (s17 : List Int) (s18 : List (Int × Int × Int × Int × Int × Int × Int)) ⦃s12 : Int⦄ ⦃s13 : Int⦄ ⦃s14 : Int⦄ ⦃s15 : Int⦄ ⦃s16 : List (List Int)⦄ ⦃s19 : Bool⦄ ⦃s20 : Bool⦄,rt none (bq (itX (xX (xS (k + (38 : Nat))) (100 : Nat) (0 : Nat) (k + (38 : Nat)) false) xl100_0 ((20 : Nat)) (runK (xX (xS (k + (38 : Nat))) (100 : Nat) (0 : Nat) (k + (38 : Nat)) false) (bodyK (xS (k + (38 : Nat))).P Try.f100) xk100_0) n ⟨[V.yld (19 : Nat),V.ptr (17 : Nat) (0 : Nat) (0 : Nat) (0 : Nat),V.ptr (18 : Nat) (0 : Nat) (0 : Nat) (0 : Nat),uu,uu,uu,V.own (16 : Nat) (0 : Nat) (0 : Nat),V.lit (Value.int IntKind.i64 (0 : Int)),V.lit (Value.int IntKind.i64 (0 : Int)),V.junk,V.junk,V.junk,V.junk,V.junk,V.junk,V.junk,V.junk,V.junk,V.junk,V.junk,V.junk,V.junk,V.junk,V.junk,V.junk,V.junk],[B.rows (0 : Nat) [] (0 : Nat) true,B.rows (0 : Nat) [] (0 : Nat) true,B.rows (0 : Nat) [] (0 : Nat) true,B.box [V.lit (Value.int IntKind.i64 s12),V.lit (Value.int IntKind.i64 s13),V.lit (Value.int IntKind.i64 s14),V.lit (Value.int IntKind.i64 s15)],B.rows (1 : Nat) (List.map listV s16) (0 : Nat) true,B.rows (0 : Nat) [] (0 : Nat) true,B.box [V.ro (List.map (intR IntKind.u64) s17)],B.rows (0 : Nat) [] (0 : Nat) true,B.box [V.own (4 : Nat) (0 : Nat) s16.length],B.rows (7 : Nat) (List.map frameV [((-1 : Int),(0 : Int),(0 : Int),(0 : Int),(0 : Int),(0 : Int),(0 : Int))]) (0 : Nat) false,B.rows (7 : Nat) (List.map frameV s18) (0 : Nat) true,B.rows (0 : Nat) [] (0 : Nat) true,B.box [V.own (10 : Nat) (0 : Nat) s18.length],B.rows (0 : Nat) [] (0 : Nat) true,B.box [V.own (13 : Nat) (0 : Nat) (0 : Nat)],B.box [V.fn (Fn.func (85 : FuncId)) [] []],B.rows (0 : Nat) [] (0 : Nat) true,B.box [V.own (16 : Nat) (0 : Nat) (0 : Nat)],B.box [V.lit (Value.int IntKind.i64 s12)],(B.loop ⟨LoopState.ready,none,(46 : Nat),(V.ro (List.map listV v0) :: V.nil :: uu :: uu :: V.own (0 : Nat) (0 : Nat) (0 : Nat) :: V.own (1 : Nat) (0 : Nat) (0 : Nat) :: V.own (2 : Nat) (0 : Nat) (0 : Nat) :: V.ptr (3 : Nat) (0 : Nat) (0 : Nat) (0 : Nat) :: V.ptr (6 : Nat) (0 : Nat) (0 : Nat) (0 : Nat) :: V.ptr (8 : Nat) (0 : Nat) (0 : Nat) (0 : Nat) :: V.ptr (12 : Nat) (0 : Nat) (0 : Nat) (0 : Nat) :: V.ptr (14 : Nat) (0 : Nat) (0 : Nat) (0 : Nat) :: V.ptr (15 : Nat) (0 : Nat) (0 : Nat) (0 : Nat) :: uu :: uu :: uu :: uu :: V.ro (List.map listV v0) :: V.lit (Value.int IntKind.i64 (↑v0.length : Int)) :: V.agg [V.lit (Value.int IntKind.i64 s12),V.lit (Value.int IntKind.i64 s13),V.lit (Value.int IntKind.i64 s14),V.lit (Value.int IntKind.i64 s15)] :: V.agg [V.lit (Value.int IntKind.i64 s12),V.lit (Value.int IntKind.i64 s13),V.lit (Value.int IntKind.i64 s14),V.lit (Value.int IntKind.i64 s15)] :: V.lit (Value.bool s19) :: V.lit (Value.bool s20) :: V.agg [V.lit (Value.int IntKind.i64 s12),V.lit (Value.int IntKind.i64 s13),V.lit (Value.int IntKind.i64 s14),V.lit (Value.int IntKind.i64 s15)] :: V.ro (List.map (intR IntKind.u64) s17) :: V.ro (List.map listV v0) :: V.own (4 : Nat) (0 : Nat) s16.length :: V.agg [V.lit (Value.int IntKind.i64 (-1 : Int)),V.lit (Value.int IntKind.i64 (0 : Int)),V.lit (Value.int IntKind.i64 (0 : Int)),V.lit (Value.int IntKind.u64 (0 : Int)),V.lit (Value.int IntKind.u64 (0 : Int)),V.lit (Value.int IntKind.u64 (0 : Int)),V.lit (Value.int IntKind.i64 (0 : Int))] :: V.own (9 : Nat) (0 : Nat) (1 : Nat) :: V.ptr (3 : Nat) (0 : Nat) (0 : Nat) (0 : Nat) :: V.lit (Value.int IntKind.i64 s12) :: V.own (10 : Nat) (0 : Nat) s18.length :: V.nil :: V.ptr (3 : Nat) (0 : Nat) (0 : Nat) (0 : Nat) :: V.lit (Value.int IntKind.i64 s12) :: V.fn (Fn.func (100 : FuncId)) [] [V.ptr (17 : Nat) (0 : Nat) (0 : Nat) (0 : Nat),V.ptr (18 : Nat) (0 : Nat) (0 : Nat) (0 : Nat)] :: uu :: uu :: uu :: uu :: uu :: uu :: uu :: uu :: uu :: uu :: uu :: uu :: uu :: uu :: uu :: uu :: uu :: uu :: uu :: uu :: uu :: uu :: uu :: uu :: uu :: uu :: uu :: uu :: uu :: uu :: uu :: uu :: uu :: uu :: uu :: uu :: uu :: uu :: uu :: uu :: uu :: uu :: uu :: uu :: uu :: uu :: uu :: uu :: uu :: uu :: uu :: uu :: uu :: uu :: uu :: uu :: uu :: uu :: uu :: uu :: uu :: uu :: uu :: uu :: uu :: uu :: uu :: []),[(36 : Tmp)],xl46_0,xl46_1⟩)]⟩) (rfK (runK (xX (xS (k + (39 : Nat))) (46 : Nat) (0 : Nat) (k + (39 : Nat)) false) (bodyK (xS (k + (39 : Nat))).P Try.f46) xk46_0) (V.ro (List.map listV v0) :: V.nil :: uu :: uu :: V.own (0 : Nat) (0 : Nat) (0 : Nat) :: V.own (1 : Nat) (0 : Nat) (0 : Nat) :: V.own (2 : Nat) (0 : Nat) (0 : Nat) :: V.ptr (3 : Nat) (0 : Nat) (0 : Nat) (0 : Nat) :: V.ptr (6 : Nat) (0 : Nat) (0 : Nat) (0 : Nat) :: V.ptr (8 : Nat) (0 : Nat) (0 : Nat) (0 : Nat) :: V.ptr (12 : Nat) (0 : Nat) (0 : Nat) (0 : Nat) :: V.ptr (14 : Nat) (0 : Nat) (0 : Nat) (0 : Nat) :: V.ptr (15 : Nat) (0 : Nat) (0 : Nat) (0 : Nat) :: uu :: uu :: uu :: uu :: V.ro (List.map listV v0) :: V.lit (Value.int IntKind.i64 (↑v0.length : Int)) :: V.agg [V.lit (Value.int IntKind.i64 s12),V.lit (Value.int IntKind.i64 s13),V.lit (Value.int IntKind.i64 s14),V.lit (Value.int IntKind.i64 s15)] :: V.agg [V.lit (Value.int IntKind.i64 s12),V.lit (Value.int IntKind.i64 s13),V.lit (Value.int IntKind.i64 s14),V.lit (Value.int IntKind.i64 s15)] :: V.lit (Value.bool s19) :: V.lit (Value.bool s20) :: V.agg [V.lit (Value.int IntKind.i64 s12),V.lit (Value.int IntKind.i64 s13),V.lit (Value.int IntKind.i64 s14),V.lit (Value.int IntKind.i64 s15)] :: V.ro (List.map (intR IntKind.u64) s17) :: V.ro (List.map listV v0) :: V.own (4 : Nat) (0 : Nat) s16.length :: V.agg [V.lit (Value.int IntKind.i64 (-1 : Int)),V.lit (Value.int IntKind.i64 (0 : Int)),V.lit (Value.int IntKind.i64 (0 : Int)),V.lit (Value.int IntKind.u64 (0 : Int)),V.lit (Value.int IntKind.u64 (0 : Int)),V.lit (Value.int IntKind.u64 (0 : Int)),V.lit (Value.int IntKind.i64 (0 : Int))] :: V.own (9 : Nat) (0 : Nat) (1 : Nat) :: V.ptr (3 : Nat) (0 : Nat) (0 : Nat) (0 : Nat) :: V.lit (Value.int IntKind.i64 s12) :: V.own (10 : Nat) (0 : Nat) s18.length :: V.nil :: V.ptr (3 : Nat) (0 : Nat) (0 : Nat) (0 : Nat) :: V.lit (Value.int IntKind.i64 s12) :: V.fn (Fn.func (100 : FuncId)) [] [V.ptr (17 : Nat) (0 : Nat) (0 : Nat) (0 : Nat),V.ptr (18 : Nat) (0 : Nat) (0 : Nat) (0 : Nat)] :: uu :: uu :: uu :: uu :: uu :: uu :: uu :: uu :: uu :: uu :: uu :: uu :: uu :: uu :: uu :: uu :: uu :: uu :: uu :: uu :: uu :: uu :: uu :: uu :: uu :: uu :: uu :: uu :: uu :: uu :: uu :: uu :: uu :: uu :: uu :: uu :: uu :: uu :: uu :: uu :: uu :: uu :: uu :: uu :: uu :: uu :: uu :: uu :: uu :: uu :: uu :: uu :: uu :: uu :: uu :: uu :: uu :: uu :: uu :: uu :: uu :: uu :: uu :: uu :: uu :: uu :: uu :: []) ((19 : Nat)))) = ob (g_event_Play_nil1_L0 k v0  n s17 s18) fun r => some ((.tup [(.ro (List.map (intR .u64) r.1)),(.ro (List.map frameV r.2.1)),(.ro (List.map frameV r.2.2))]),[]) := by
  intro n
  induction n with
  | zero => intros; rfl
  | succ n ih =>
    intro s17 s18 s12 s13 s14 s15 s16 s19 s20
    rw [g_event_Play_nil1_L0]
    simp (maxSteps := 2000000) -implicitDefEqProofs only [xe46,xb46,xz46,xj46_0,xq46_1_1_1_1_1_1_1_0_1_0_1,xq46_1_1_1_1_1_1_1_0_1_0_0,xm46_1,xj46_2,xk46_0_ret,xk46_1_ret,xk46_2_ret,xq46_0_eq,xe85,xb85,xm85_0,xm85_1,xk85_0_ret,xe86,xb86,xC_eq (g := 86),xe87,xb87,xz87,xj87_0,xk87_0_ret,xe100,xb100,xz100,xj100_0,xm100_1,xm100_2,xk100_0_ret,xk100_1_ret,↓syP,syA,rtN,pureL,V.pure,nsh,stBk,V.kill,killL,spl,V.shift,shiftL,V.scal,scalL,intR,boolR,threeV,Nat.reduceAdd,Nat.reduceSub,Nat.reduceMul,Nat.reduceLT,Nat.reduceLeDiff,Nat.reduceEqDiff,Nat.reduceBEq,Nat.reduceBNe,Int.reduceBEq,Int.reduceBNe,Int.reduceLT,Int.reduceLE,Int.reduceAdd,Int.reduceSub,Int.reduceNeg,syQ,confV,frameV,listV,xF,xcallV,xcallC,xcallL,xcallY,xevY,xY_ready,xrange,xG_fn,xR,xA,xcl50,xclk50,xcl83,xclk83,xrp84,xrq84,rtC_int,rtC_list,awk14',awk15',h_lay_May,h_event_layout,h_lay_New,xr100_0,ih]
    all_goals simp -implicitDefEqProofs only [List.map_nil]
def g_event_Play_nil1 (k : Nat) (v0 : (List (List Int))) : Option ((List Int) × (List (Int × Int × Int × Int × Int × Int × Int)) × (List (Int × Int × Int × Int × Int × Int × Int))) :=
  ob (g_event_layout (↑v0.length : Int)) fun x26 =>
  ob (g_lay_May (x26.fst,x26.snd.fst,x26.snd.snd.fst,x26.snd.snd.snd)) fun x27 =>
  bif !x27 then
   some ([],[],[])
  else
   ob (g_lay_New (k + (35 : Nat)) (x26.fst,x26.snd.fst,x26.snd.snd.fst,x26.snd.snd.snd)) fun x28 =>
   ob (g_clone (24 : Nat) v0) fun x29 =>
   ob (g_rep ((-1 : Int),(0 : Int),(0 : Int),(0 : Int),(0 : Int),(0 : Int),(0 : Int)) x26.fst) fun x30 =>
   g_event_Play_nil1_L0 k v0 (k + (38 : Nat)) (x28) (x30)
theorem h_event_Play_nil1 (k : Nat) (v0 : (List (List Int))) : xC (k + 40) none 46 [(.ro (List.map listV v0)),.nil] = ob (g_event_Play_nil1 k v0) fun r => some ((.tup [(.ro (List.map (intR .u64) r.1)),(.ro (List.map frameV r.2.1)),(.ro (List.map frameV r.2.2))]),[]) := by
  rw [xC_eq]
  unfold g_event_Play_nil1
  simp (maxSteps := 2000000) -implicitDefEqProofs only [xe46,xb46,xz46,xj46_0,xq46_1_1_1_1_1_1_1_0_1_0_1,xq46_1_1_1_1_1_1_1_0_1_0_0,xm46_1,xj46_2,xk46_0_ret,xk46_1_ret,xk46_2_ret,xq46_0_eq,xe85,xb85,xm85_0,xm85_1,xk85_0_ret,xe86,xb86,xC_eq (g := 86),xe87,xb87,xz87,xj87_0,xk87_0_ret,xe100,xb100,xz100,xj100_0,xm100_1,xm100_2,xk100_0_ret,xk100_1_ret,↓syP,syA,rtN,pureL,V.pure,nsh,stBk,V.kill,killL,spl,V.shift,shiftL,V.scal,scalL,intR,boolR,threeV,Nat.reduceAdd,Nat.reduceSub,Nat.reduceMul,Nat.reduceLT,Nat.reduceLeDiff,Nat.reduceEqDiff,Nat.reduceBEq,Nat.reduceBNe,Int.reduceBEq,Int.reduceBNe,Int.reduceLT,Int.reduceLE,Int.reduceAdd,Int.reduceSub,Int.reduceNeg,syQ,confV,frameV,listV,xF,xcallV,xcallC,xcallL,xcallY,xevY,xY_ready,xrange,xG_fn,xR,xA,xcl50,xclk50,xcl83,xclk83,xrp84,xrq84,rtC_int,rtC_list,awk14',awk15',h_lay_May,h_event_layout,h_lay_New,g_event_Play_nil1_L0_eq k v0]
  all_goals simp -implicitDefEqProofs only [List.map_nil]
def g_event_States_nil1_L0 (k : Nat) (v0 : (List (List Int))) (v2 : Int)  : Nat → List Int → List (Int × Int × Int × Int × Int × Int × Int) → Int → Int → Int → Int → Int → Int → Int → Option Int
  | 0,_,_,_,_,_,_,_,_,_ => none
  | n + 1,s40,s42,s43,s44,s45,s46,s47,s50,s61 =>
    bif decide (s61 < s47) then
     ob (idx s42 s61) fun x73 =>
     ob (g_note_Owes (x73.fst,x73.snd.fst,x73.snd.snd.fst,x73.snd.snd.snd.fst,x73.snd.snd.snd.snd.fst,x73.snd.snd.snd.snd.snd.fst,x73.snd.snd.snd.snd.snd.snd) v2) fun x74 =>
     bif x74 then
      g_event_States_nil1_L0 k v0 v2  n (s40) (s42) (s43) (s44) (s45) (s46) (s47) (IntKind.i64.wrap (s50 + (1 : Int))) (IntKind.i64.wrap (s61 + (1 : Int)))
     else
      g_event_States_nil1_L0 k v0 v2  n (s40) (s42) (s43) (s44) (s45) (s46) (s47) (s50) (IntKind.i64.wrap (s61 + (1 : Int)))
    else
     ob (g_lay_Park (s43,s44,s45,s46) v2) fun x75 =>
     ob (g_cell_Load s40 x75) fun x76 =>
     bif x76 != (0 : Int) then
      some (IntKind.i64.wrap (s50 + (1 : Int)))
     else
      some (s50)
theorem g_event_States_nil1_L0_eq (k : Nat) (v0 : (List (List Int))) (v2 : Int) : ∀ (n : Nat) (s40 : List Int) (s42 : List (Int × Int × Int × Int × Int × Int × Int)) (s43 : Int) (s44 : Int) (s45 : Int) (s46 : Int) (s47 : Int) (s50 : Int) (s61 : Int) ⦃s41 : List (Int × Int × Int × Int × Int × Int × Int)⦄ ⦃s48 : Bool⦄ ⦃s49 : Bool⦄ ⦃j51 j52 j60 : V⦄,rt none (itX (xX (xS (k + (40 : Nat))) (47 : Nat) (0 : Nat) (k + (40 : Nat)) false) xl47_0 ((1 : Nat)) (runK (xX (xS (k + (40 : Nat))) (47 : Nat) (0 : Nat) (k + (40 : Nat)) false) (bodyK (xS (k + (40 : Nat))).P Try.f47) xk47_2) n ⟨[V.ro (List.map listV v0),V.nil,V.lit (Value.int IntKind.i64 v2),uu,uu,uu,V.lit (Value.int IntKind.i64 (0 : Int)),V.ro (List.map (intR IntKind.u64) s40),V.ro (List.map frameV s41),V.ro (List.map frameV s42),V.ptr (0 : Nat) (0 : Nat) (0 : Nat) (0 : Nat),V.lit (Value.int IntKind.i64 s50),uu,j60,V.tup [V.ro (List.map (intR IntKind.u64) s40),V.ro (List.map frameV s41),V.ro (List.map frameV s42)],V.ro (List.map listV v0),V.nil,V.tup [V.ro (List.map (intR IntKind.u64) s40),V.ro (List.map frameV s41),V.ro (List.map frameV s42)],V.ro (List.map (intR IntKind.u64) s40),V.ro (List.map frameV s41),V.ro (List.map frameV s42),V.ro (List.map listV v0),V.lit (Value.int IntKind.i64 (↑v0.length : Int)),V.agg [V.lit (Value.int IntKind.i64 s43),V.lit (Value.int IntKind.i64 s44),V.lit (Value.int IntKind.i64 s45),V.lit (Value.int IntKind.i64 s46)],V.lit (Value.int IntKind.i64 v2),V.lit (Value.bool (decide (v2 < (0 : Int)))),V.lit (Value.bool false),V.lit (Value.int IntKind.i64 v2),V.ro (List.map frameV s42),V.lit (Value.int IntKind.i64 s47),V.lit (Value.bool s48),V.lit (Value.bool s48),V.agg [V.lit (Value.int IntKind.i64 s43),V.lit (Value.int IntKind.i64 s44),V.lit (Value.int IntKind.i64 s45),V.lit (Value.int IntKind.i64 s46)],V.ro (List.map (intR IntKind.u64) s40),V.lit (Value.int IntKind.i64 v2),V.lit (Value.bool s49),j51,j52,V.ro (List.map frameV s42),V.lit (Value.int IntKind.i64 s47),V.lit (Value.int IntKind.i64 s61),V.junk,V.junk,V.junk,V.junk,V.junk,V.junk,V.junk,V.junk,V.junk,uu,uu,uu,uu,uu,uu,uu,uu,uu],[B.box [V.lit (Value.int IntKind.i64 s43),V.lit (Value.int IntKind.i64 s44),V.lit (Value.int IntKind.i64 s45),V.lit (Value.int IntKind.i64 s46)]]⟩) = ob (g_event_States_nil1_L0 k v0 v2  n s40 s42 s43 s44 s45 s46 s47 s50 s61) fun r => some ((.lit (.int .i64 r)),[]) := by
  intro n
  induction n with
  | zero => intros; rfl
  | succ n ih =>
    intro s40 s42 s43 s44 s45 s46 s47 s50 s61 s41 s48 s49 j51 j52 j60
    rw [g_event_States_nil1_L0]
    simp (maxSteps := 2000000) -implicitDefEqProofs only [xe47,xb47,xz47,xm47_0,xj47_1,xj47_2,xj47_3,xk47_0_ret,xk47_1_ret,xk47_2_ret,xk47_3_ret,↓syP,syA,rtN,pureL,V.pure,nsh,stBk,V.kill,killL,spl,V.shift,shiftL,V.scal,scalL,intR,boolR,threeV,Nat.reduceAdd,Nat.reduceSub,Nat.reduceMul,Nat.reduceLT,Nat.reduceLeDiff,Nat.reduceEqDiff,Nat.reduceBEq,Nat.reduceBNe,Int.reduceBEq,Int.reduceBNe,Int.reduceLT,Int.reduceLE,Int.reduceAdd,Int.reduceSub,Int.reduceNeg,syQ,confV,frameV,listV,xF,xcallV,xcallC,xcallL,xcallY,xevY,xY_ready,xrange,xG_fn,xR,xA,xcl50,xclk50,xcl83,xclk83,xrp84,xrq84,rtC_int,rtC_list,awk14',awk15',h_lay_Park,h_cell_Load,h_wait_Waits,h_note_Owes,h_event_layout,h_event_Play_nil1,xr47_0,ih]
    all_goals simp -implicitDefEqProofs only [List.map_nil]
def g_event_States_nil1 (k : Nat) (v0 : (List (List Int))) (v2 : Int) : Option Int :=
  ob (g_event_Play_nil1 k v0) fun x77 =>
  ob (g_event_layout (↑v0.length : Int)) fun x78 =>
  bif decide (v2 < (0 : Int)) then
   some ((-1 : Int))
  else
   bif decide ((↑x77.snd.snd.length : Int) ≤ v2) then
    some ((-1 : Int))
   else
    ob (g_wait_Waits (x78.fst,x78.snd.fst,x78.snd.snd.fst,x78.snd.snd.snd) x77.fst v2) fun x79 =>
    bif x79 then
     g_event_States_nil1_L0 k v0 v2 (k + (40 : Nat)) (x77.fst) (x77.snd.snd) (x78.fst) (x78.snd.fst) (x78.snd.snd.fst) (x78.snd.snd.snd) ((↑x77.snd.snd.length : Int)) (IntKind.i64.wrap (1 : Int)) ((0 : Int))
    else
     g_event_States_nil1_L0 k v0 v2 (k + (40 : Nat)) (x77.fst) (x77.snd.snd) (x78.fst) (x78.snd.fst) (x78.snd.snd.fst) (x78.snd.snd.snd) ((↑x77.snd.snd.length : Int)) ((0 : Int)) ((0 : Int))
theorem h_event_States_nil1 (k : Nat) (v0 : (List (List Int))) (v2 : Int) : xC (k + 41) none 47 [(.ro (List.map listV v0)),.nil,(.lit (.int .i64 v2))] = ob (g_event_States_nil1 k v0 v2) fun r => some ((.lit (.int .i64 r)),[]) := by
  rw [xC_eq]
  unfold g_event_States_nil1
  simp (maxSteps := 2000000) -implicitDefEqProofs only [xe47,xb47,xz47,xm47_0,xj47_1,xj47_2,xj47_3,xk47_0_ret,xk47_1_ret,xk47_2_ret,xk47_3_ret,↓syP,syA,rtN,pureL,V.pure,nsh,stBk,V.kill,killL,spl,V.shift,shiftL,V.scal,scalL,intR,boolR,threeV,Nat.reduceAdd,Nat.reduceSub,Nat.reduceMul,Nat.reduceLT,Nat.reduceLeDiff,Nat.reduceEqDiff,Nat.reduceBEq,Nat.reduceBNe,Int.reduceBEq,Int.reduceBNe,Int.reduceLT,Int.reduceLE,Int.reduceAdd,Int.reduceSub,Int.reduceNeg,syQ,confV,frameV,listV,xF,xcallV,xcallC,xcallL,xcallY,xevY,xY_ready,xrange,xG_fn,xR,xA,xcl50,xclk50,xcl83,xclk83,xrp84,xrq84,rtC_int,rtC_list,awk14',awk15',h_wait_Waits,h_event_layout,h_event_Play_nil1,g_event_States_nil1_L0_eq k v0 v2]
  all_goals simp -implicitDefEqProofs only [List.map_nil]
def g_poacherlaw16_awake (k : Nat)  : Option Bool :=
  ob (g_event_Play (k + (19 : Nat)) [[(5 : Int)],[(6 : Int)]] [(0 : Int),(0 : Int),(0 : Int),(1 : Int),(1 : Int),(1 : Int),(0 : Int),(0 : Int)]) fun x89 =>
  ob (g_event_States (k + (18 : Nat)) [[(5 : Int)],[(6 : Int)]] [(0 : Int),(0 : Int),(0 : Int)] (0 : Int)) fun x90 =>
  bif x90 == (1 : Int) then
   ob (g_event_States (k + (18 : Nat)) [[(5 : Int)],[(6 : Int)]] [(0 : Int),(0 : Int),(0 : Int),(1 : Int),(1 : Int),(1 : Int)] (0 : Int)) fun x91 =>
   bif x91 == (1 : Int) then
    bif (↑x89.snd.fst.length : Int) == (2 : Int) then
     ob (idx x89.snd.fst (1 : Int)) fun x92 =>
     bif x92.snd.snd.fst == (0 : Int) then
      ob (idx x89.snd.fst (1 : Int)) fun x93 =>
      bif x93.snd.snd.snd.snd.snd.snd == (1 : Int) then
       bif (↑x89.snd.snd.length : Int) == (2 : Int) then
        bif decide ((2 : Int) < (↑x89.fst.length : Int)) then
         ob (g_event_States_nil1 (k + (18 : Nat)) [[(5 : Int)],[(6 : Int)]] (0 : Int)) fun x94 =>
         some (x94 == (0 : Int))
        else
         some (false)
       else
        some (false)
      else
       some (false)
     else
      some (false)
    else
     some (false)
   else
    some (false)
  else
   some (false)
theorem h_poacherlaw16_awake (k : Nat) : xC (k + 60) none 44 [] = ob (g_poacherlaw16_awake k ) fun r => some ((.lit (.bool r)),[]) := by
  rw [xC_eq]
  unfold g_poacherlaw16_awake
  simp (maxSteps := 2000000) -implicitDefEqProofs only [xe44,xb44,xm44_0,xm44_1,xm44_2,xm44_3,xm44_4,xm44_5,xm44_6,xk44_0_ret,↓syP,syA,rtN,pureL,V.pure,nsh,stBk,V.kill,killL,spl,V.shift,shiftL,V.scal,scalL,intR,boolR,threeV,Nat.reduceAdd,Nat.reduceSub,Nat.reduceMul,Nat.reduceLT,Nat.reduceLeDiff,Nat.reduceEqDiff,Nat.reduceBEq,Nat.reduceBNe,Int.reduceBEq,Int.reduceBNe,Int.reduceLT,Int.reduceLE,Int.reduceAdd,Int.reduceSub,Int.reduceNeg,syQ,confV,frameV,listV,xF,xcallV,xcallC,xcallL,xcallY,xevY,xY_ready,xrange,xG_fn,xR,xA,xcl50,xclk50,xcl83,xclk83,xrp84,xrq84,rtC_int,rtC_list,awk14',awk15',h_event_Play,h_event_States,h_event_States_nil1]
  all_goals simp -implicitDefEqProofs only [List.map_nil]
end Go.Ab
