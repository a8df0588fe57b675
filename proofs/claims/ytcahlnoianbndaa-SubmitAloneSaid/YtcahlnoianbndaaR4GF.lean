/- Functions as they are walked: printed by Walk.lean. -/
import Derived.Test.YtcahlnoianbndaaR4Run
import Derived.Test.YtcahlnoianbndaaR4Facts
import Derived.Test.YtcahlnoianbndaaR4Man
import Derived.Test.YtcahlnoianbndaaR4BF
set_option linter.unusedVariables false
set_option linter.unusedSimpArgs false
set_option maxRecDepth 100000
set_option linter.unusedVariables false
set_option linter.unusedSimpArgs false
namespace Go.Ab
open Go.Proofs
def g_poacherlaw04_Few_L0 (k : Nat) (v0 : (List (Int × List Int)))  : Nat → Int → Option Bool
  | 0,_ => none
  | n + 1,s3 =>
    bif decide (s3 < (↑v0.length : Int)) then
     bif decide (s3 ≤ (40 : Int)) then
      ob (idx v0 s3) fun x6 =>
      bif decide ((40 : Int) < (↑x6.snd.length : Int)) then
       some (false)
      else
       g_poacherlaw04_Few_L0 k v0  n (IntKind.i64.wrap (s3 + (1 : Int)))
     else
      some (decide ((↑v0.length : Int) ≤ (40 : Int)))
    else
     some (decide ((↑v0.length : Int) ≤ (40 : Int)))
theorem g_poacherlaw04_Few_L0_eq (k : Nat) (v0 : (List (Int × List Int))) : ∀ (n : Nat) (s3 : Int),rt none (itX (xX (xS k) (9 : Nat) (0 : Nat) k false) xl9_0 ((0 : Nat)) (runK (xX (xS k) (9 : Nat) (0 : Nat) k false) (bodyK (xS k).P Try.f9) xk9_0) n ⟨[V.ro (List.map taskV v0),uu,V.lit (Value.bool false),V.lit (Value.int IntKind.i64 s3),V.junk,V.junk,V.junk,V.junk,V.junk,V.junk,V.junk,V.junk,V.junk,V.junk,V.junk,V.junk,V.junk,V.junk,V.junk,V.junk,V.junk,uu,uu,uu],[]⟩) = ob (g_poacherlaw04_Few_L0 k v0  n s3) fun r => some ((.lit (.bool r)),[]) := by
  intro n
  induction n with
  | zero => intros; rfl
  | succ n ih =>
    intro s3
    rw [g_poacherlaw04_Few_L0]
    simp (maxSteps := 2000000) -implicitDefEqProofs only [xe9,xb9,xz9,xj9_0,xm9_1,xk9_0_ret,xk9_1_ret,↓syP,syA,rtN,pureL,V.pure,nsh,stBk,V.kill,killL,spl,V.shift,shiftL,V.scal,scalL,intR,boolR,threeV,Nat.reduceAdd,Nat.reduceSub,Nat.reduceMul,Nat.reduceLT,Nat.reduceLeDiff,Nat.reduceEqDiff,Nat.reduceBEq,Nat.reduceBNe,Int.reduceBEq,Int.reduceBNe,Int.reduceLT,Int.reduceLE,Int.reduceAdd,Int.reduceSub,Int.reduceNeg,syQ,confV,frameV,listV,subV,arC_nil,arC_cons,xF,xcallV,xcallC,xcallL,xcallY,xevY,xY_ready,xrange,xG_fn,xR,xA,xcl21,xclk21,xcl22,xclk22,xr9_0,ih]
    all_goals simp -implicitDefEqProofs only [List.map_nil]
def g_poacherlaw04_Few (k : Nat) (v0 : (List (Int × List Int))) : Option Bool :=
  g_poacherlaw04_Few_L0 k v0 (k) ((0 : Int))
theorem h_poacherlaw04_Few (k : Nat) (v0 : (List (Int × List Int))) : xC (k + 1) none 9 [(.ro (List.map taskV v0))] = ob (g_poacherlaw04_Few k v0) fun r => some ((.lit (.bool r)),[]) := by
  rw [xC_eq]
  unfold g_poacherlaw04_Few
  simp (maxSteps := 2000000) -implicitDefEqProofs only [xe9,xb9,xz9,xj9_0,xm9_1,xk9_0_ret,xk9_1_ret,↓syP,syA,rtN,pureL,V.pure,nsh,stBk,V.kill,killL,spl,V.shift,shiftL,V.scal,scalL,intR,boolR,threeV,Nat.reduceAdd,Nat.reduceSub,Nat.reduceMul,Nat.reduceLT,Nat.reduceLeDiff,Nat.reduceEqDiff,Nat.reduceBEq,Nat.reduceBNe,Int.reduceBEq,Int.reduceBNe,Int.reduceLT,Int.reduceLE,Int.reduceAdd,Int.reduceSub,Int.reduceNeg,syQ,confV,frameV,listV,subV,arC_nil,arC_cons,xF,xcallV,xcallC,xcallL,xcallY,xevY,xY_ready,xrange,xG_fn,xR,xA,xcl21,xclk21,xcl22,xclk22,g_poacherlaw04_Few_L0_eq k v0]
  all_goals simp -implicitDefEqProofs only [List.map_nil]
def g_forest_May_1 (v0 : (Int × List Int)) : Option Bool :=
  bif decide (v0.1 < (0 : Int)) then
   some (true)
  else
   some (decide ((20 : Int) < v0.1))
theorem h_forest_May_1 (k : Nat) (v0_0 : Int) (v0_1 : (List Int)) : xC (k + 1) none 51 [(.agg [(.lit (.int .i64 v0_0)),(.ro (List.map (intR .i64) v0_1))])] = ob (g_forest_May_1 (v0_0,v0_1)) fun r => some ((.lit (.bool r)),[]) := by
  rw [xC_eq]
  unfold g_forest_May_1
  simp (maxSteps := 2000000) -implicitDefEqProofs only [xe51,xb51,xm51_0,xk51_0_ret,↓syP,syA,rtN,pureL,V.pure,nsh,stBk,V.kill,killL,spl,V.shift,shiftL,V.scal,scalL,intR,boolR,threeV,Nat.reduceAdd,Nat.reduceSub,Nat.reduceMul,Nat.reduceLT,Nat.reduceLeDiff,Nat.reduceEqDiff,Nat.reduceBEq,Nat.reduceBNe,Int.reduceBEq,Int.reduceBNe,Int.reduceLT,Int.reduceLE,Int.reduceAdd,Int.reduceSub,Int.reduceNeg,syQ,confV,frameV,listV,subV,arC_nil,arC_cons,xF,xcallV,xcallC,xcallL,xcallY,xevY,xY_ready,xrange,xG_fn,xR,xA,xcl21,xclk21,xcl22,xclk22]
  all_goals simp -implicitDefEqProofs only [List.map_nil]
def g_slices_IndexFunc_apiTask_forest_May_1_L0 (k : Nat) (v0 : (List (Int × List Int)))  : Nat → Int → Option Int
  | 0,_ => none
  | n + 1,s12 =>
    bif decide (s12 < (↑v0.length : Int)) then
     ob (idx v0 s12) fun x17 =>
     ob (g_forest_May_1 (x17.fst,x17.snd)) fun x18 =>
     bif x18 then
      some (s12)
     else
      g_slices_IndexFunc_apiTask_forest_May_1_L0 k v0  n (IntKind.i64.wrap (s12 + (1 : Int)))
    else
     some ((-1 : Int))
theorem g_slices_IndexFunc_apiTask_forest_May_1_L0_eq (k : Nat) (v0 : (List (Int × List Int))) : ∀ (n : Nat) (s12 : Int) ⦃j11 : V⦄,rt none (itX (xX (xS (k + (8 : Nat))) (77 : Nat) (0 : Nat) (k + (8 : Nat)) false) xl77_0 ((0 : Nat)) (runK (xX (xS (k + (8 : Nat))) (77 : Nat) (0 : Nat) (k + (8 : Nat)) false) (bodyK (xS (k + (8 : Nat))).P Try.f77) xk77_0) n ⟨[V.ro (List.map taskV v0),V.fn (Fn.func (51 : FuncId)) [] [],uu,uu,V.lit (Value.int IntKind.i64 (0 : Int)),j11,V.ro (List.map taskV v0),V.lit (Value.int IntKind.i64 (↑v0.length : Int)),V.lit (Value.int IntKind.i64 s12),V.junk,V.junk,V.junk,V.junk,V.junk,V.junk,V.junk,V.junk,V.junk,V.junk],[]⟩) = ob (g_slices_IndexFunc_apiTask_forest_May_1_L0 k v0  n s12) fun r => some ((.lit (.int .i64 r)),[]) := by
  intro n
  induction n with
  | zero => intros; rfl
  | succ n ih =>
    intro s12 j11
    rw [g_slices_IndexFunc_apiTask_forest_May_1_L0]
    simp (maxSteps := 2000000) -implicitDefEqProofs only [xe77,xb77,xz77,xj77_0,xk77_0_ret,↓syP,syA,rtN,pureL,V.pure,nsh,stBk,V.kill,killL,spl,V.shift,shiftL,V.scal,scalL,intR,boolR,threeV,Nat.reduceAdd,Nat.reduceSub,Nat.reduceMul,Nat.reduceLT,Nat.reduceLeDiff,Nat.reduceEqDiff,Nat.reduceBEq,Nat.reduceBNe,Int.reduceBEq,Int.reduceBNe,Int.reduceLT,Int.reduceLE,Int.reduceAdd,Int.reduceSub,Int.reduceNeg,syQ,confV,frameV,listV,subV,arC_nil,arC_cons,xF,xcallV,xcallC,xcallL,xcallY,xevY,xY_ready,xrange,xG_fn,xR,xA,xcl21,xclk21,xcl22,xclk22,h_forest_May_1,xr77_0,ih]
    all_goals simp -implicitDefEqProofs only [List.map_nil]
def g_slices_IndexFunc_apiTask_forest_May_1 (k : Nat) (v0 : (List (Int × List Int))) : Option Int :=
  g_slices_IndexFunc_apiTask_forest_May_1_L0 k v0 (k + (8 : Nat)) ((0 : Int))
theorem h_slices_IndexFunc_apiTask_forest_May_1 (k : Nat) (v0 : (List (Int × List Int))) : xC (k + 9) none 77 [(.ro (List.map taskV v0)),V.fn (Fn.func (51 : FuncId)) [] []] = ob (g_slices_IndexFunc_apiTask_forest_May_1 k v0) fun r => some ((.lit (.int .i64 r)),[]) := by
  rw [xC_eq]
  unfold g_slices_IndexFunc_apiTask_forest_May_1
  simp (maxSteps := 2000000) -implicitDefEqProofs only [xe77,xb77,xz77,xj77_0,xk77_0_ret,↓syP,syA,rtN,pureL,V.pure,nsh,stBk,V.kill,killL,spl,V.shift,shiftL,V.scal,scalL,intR,boolR,threeV,Nat.reduceAdd,Nat.reduceSub,Nat.reduceMul,Nat.reduceLT,Nat.reduceLeDiff,Nat.reduceEqDiff,Nat.reduceBEq,Nat.reduceBNe,Int.reduceBEq,Int.reduceBNe,Int.reduceLT,Int.reduceLE,Int.reduceAdd,Int.reduceSub,Int.reduceNeg,syQ,confV,frameV,listV,subV,arC_nil,arC_cons,xF,xcallV,xcallC,xcallL,xcallY,xevY,xY_ready,xrange,xG_fn,xR,xA,xcl21,xclk21,xcl22,xclk22,g_slices_IndexFunc_apiTask_forest_May_1_L0_eq k v0]
  all_goals simp -implicitDefEqProofs only [List.map_nil]
def g_slices_ContainsFunc_apiTask_forest_May_1 (k : Nat) (v0 : (List (Int × List Int))) : Option Bool :=
  ob (g_slices_IndexFunc_apiTask_forest_May_1 (k + (8 : Nat)) v0) fun x20 =>
  some (decide ((0 : Int) ≤ x20))
theorem h_slices_ContainsFunc_apiTask_forest_May_1 (k : Nat) (v0 : (List (Int × List Int))) : xC (k + 18) none 50 [(.ro (List.map taskV v0)),V.fn (Fn.func (51 : FuncId)) [] []] = ob (g_slices_ContainsFunc_apiTask_forest_May_1 k v0) fun r => some ((.lit (.bool r)),[]) := by
  rw [xC_eq]
  unfold g_slices_ContainsFunc_apiTask_forest_May_1
  simp (maxSteps := 2000000) -implicitDefEqProofs only [xe50,xb50,xe77,xb77,xz77,xj77_0,xk77_0_ret,↓syP,syA,rtN,pureL,V.pure,nsh,stBk,V.kill,killL,spl,V.shift,shiftL,V.scal,scalL,intR,boolR,threeV,Nat.reduceAdd,Nat.reduceSub,Nat.reduceMul,Nat.reduceLT,Nat.reduceLeDiff,Nat.reduceEqDiff,Nat.reduceBEq,Nat.reduceBNe,Int.reduceBEq,Int.reduceBNe,Int.reduceLT,Int.reduceLE,Int.reduceAdd,Int.reduceSub,Int.reduceNeg,syQ,confV,frameV,listV,subV,arC_nil,arC_cons,xF,xcallV,xcallC,xcallL,xcallY,xevY,xY_ready,xrange,xG_fn,xR,xA,xcl21,xclk21,xcl22,xclk22,h_slices_IndexFunc_apiTask_forest_May_1]
  all_goals simp -implicitDefEqProofs only [List.map_nil]
def g_forest_May_L1 (k : Nat) (v0 : (List (Int × List Int))) (o0 : Int → List Bool → Option Bool) : Nat → List Int → Int → Int → List Bool → Int → Option Bool
  | 0,_,_,_,_,_ => none
  | n + 1,s29,s30,s38,s39,s48 =>
    bif decide (s38 < s30) then
     ob (idx s29 s38) fun x62 =>
     bif decide (x62 ≤ s48) then
      some (false)
     else
      bif decide ((↑v0.length : Int) ≤ x62) then
       some (false)
      else
       bif decide ((0 : Int) ≤ x62 ∧ x62.toNat < v0.length) then
        ob (s39[x62.toNat]?) fun x63 =>
        bif x63 then
         some (false)
        else
         bif decide ((0 : Int) ≤ x62 ∧ x62.toNat < v0.length) then
          ob (s39[x62.toNat]?) fun x64 =>
          g_forest_May_L1 k v0 o0 n (s29) (s30) (IntKind.i64.wrap (s38 + (1 : Int))) (s39.set x62.toNat true) (s48)
         else
          none
       else
        none
    else
     o0 (IntKind.i64.wrap (s48 + (1 : Int))) (s39)
theorem g_forest_May_L1_eq (k : Nat) (v0 : (List (Int × List Int))) (n23 : Nat) (o0 : Int → List Bool → Option Bool) (ho0 : ∀ (s42 : Int) (s51 : List Bool) ⦃s24 : Bool⦄ ⦃j40 j41 j50 : V⦄,rt none (bq (itX (xX (xS (k + (17 : Nat))) (78 : Nat) (0 : Nat) (k + (17 : Nat)) false) xl78_0 ((7 : Nat)) (runK (xX (xS (k + (17 : Nat))) (78 : Nat) (0 : Nat) (k + (17 : Nat)) false) (bodyK (xS (k + (17 : Nat))).P Try.f78) xk78_0) n23 ⟨[V.yld (6 : Nat),V.ptr (5 : Nat) (0 : Nat) (0 : Nat) (0 : Nat),uu,j40,j41,uu,j50,V.ro (List.map taskV v0),V.lit (Value.int IntKind.i64 (↑v0.length : Int)),V.lit (Value.int IntKind.i64 s42),V.junk,V.junk,V.junk,V.junk,V.junk,V.junk,V.junk,V.junk,V.junk,V.junk,V.junk,V.junk,V.junk,V.junk,V.junk,V.junk,V.junk,V.junk],[B.box [V.ro (List.map taskV v0)],B.box [V.lit (Value.bool false)],B.rows (1 : Nat) (List.map boolR s51) (0 : Nat) true,B.rows (0 : Nat) [] (0 : Nat) true,B.box [V.own (2 : Nat) (0 : Nat) v0.length],B.box [V.ro (List.map taskV v0)],(B.loop ⟨LoopState.ready,none,(38 : Nat),[V.ro (List.map taskV v0),V.ptr (0 : Nat) (0 : Nat) (0 : Nat) (0 : Nat),V.ptr (1 : Nat) (0 : Nat) (0 : Nat) (0 : Nat),V.ptr (4 : Nat) (0 : Nat) (0 : Nat) (0 : Nat),uu,uu,V.ro (List.map taskV v0),V.lit (Value.int IntKind.i64 (↑v0.length : Int)),V.lit (Value.bool (decide ((30 : Int) < (↑v0.length : Int)))),V.lit (Value.bool false),V.ro (List.map taskV v0),V.lit (Value.bool s24),V.lit (Value.bool s24),V.ro (List.map taskV v0),V.lit (Value.int IntKind.i64 (↑v0.length : Int)),V.own (2 : Nat) (0 : Nat) v0.length,V.ro (List.map taskV v0),V.fn (Fn.func (78 : FuncId)) [] [V.ptr (5 : Nat) (0 : Nat) (0 : Nat) (0 : Nat)],uu,uu,uu,uu,uu,uu,uu,uu,uu,uu,uu,uu,uu,uu,uu,uu,uu,uu,uu,uu],[(18 : Tmp),(19 : Tmp)],xl38_0,xl38_1⟩)]⟩) (rfK (runK (xX (xS (k + (18 : Nat))) (38 : Nat) (0 : Nat) (k + (18 : Nat)) false) (bodyK (xS (k + (18 : Nat))).P Try.f38) xk38_1) [V.ro (List.map taskV v0),V.ptr (0 : Nat) (0 : Nat) (0 : Nat) (0 : Nat),V.ptr (1 : Nat) (0 : Nat) (0 : Nat) (0 : Nat),V.ptr (4 : Nat) (0 : Nat) (0 : Nat) (0 : Nat),uu,uu,V.ro (List.map taskV v0),V.lit (Value.int IntKind.i64 (↑v0.length : Int)),V.lit (Value.bool (decide ((30 : Int) < (↑v0.length : Int)))),V.lit (Value.bool false),V.ro (List.map taskV v0),V.lit (Value.bool s24),V.lit (Value.bool s24),V.ro (List.map taskV v0),V.lit (Value.int IntKind.i64 (↑v0.length : Int)),V.own (2 : Nat) (0 : Nat) v0.length,V.ro (List.map taskV v0),V.fn (Fn.func (78 : FuncId)) [] [V.ptr (5 : Nat) (0 : Nat) (0 : Nat) (0 : Nat)],uu,uu,uu,uu,uu,uu,uu,uu,uu,uu,uu,uu,uu,uu,uu,uu,uu,uu,uu,uu] ((6 : Nat)))) = ob (o0 s42 s51) fun r => some ((.lit (.bool r)),[])) : ∀ (n : Nat) (s29 : List Int) (s30 : Int) (s38 : Int) (s39 : List Bool) (s48 : Int) ⦃s28 : Int⦄ ⦃s31 : Bool⦄ ⦃s49 : Bool⦄ ⦃j37 : V⦄,rt none (bq (itX (xX (xS (k + (17 : Nat))) (78 : Nat) (0 : Nat) (k + (17 : Nat)) false) xl78_1 ((9 : Nat)) (runK (xX (xS (k + (17 : Nat))) (78 : Nat) (0 : Nat) (k + (17 : Nat)) false) (nextK (xX (xS (k + (17 : Nat))) (78 : Nat) (0 : Nat) (k + (17 : Nat)) false) xl78_0 (7 : Nat) (runK (xX (xS (k + (17 : Nat))) (78 : Nat) (0 : Nat) (k + (17 : Nat)) false) (bodyK (xS (k + (17 : Nat))).P Try.f78) xk78_0) n23) xk78_1) n ⟨[V.yld (6 : Nat),V.ptr (5 : Nat) (0 : Nat) (0 : Nat) (0 : Nat),uu,V.lit (Value.int IntKind.i64 s48),V.ptr (8 : Nat) (0 : Nat) (0 : Nat) (0 : Nat),uu,j37,V.ro (List.map taskV v0),V.lit (Value.int IntKind.i64 (↑v0.length : Int)),V.lit (Value.int IntKind.i64 s48),V.lit (Value.bool s49),V.lit (Value.int IntKind.i64 s48),V.rp [V.lit (Value.int IntKind.i64 s28),V.ro (List.map (intR IntKind.i64) s29)],V.agg [V.lit (Value.int IntKind.i64 s28),V.ro (List.map (intR IntKind.i64) s29)],V.ptr (8 : Nat) (0 : Nat) (0 : Nat) (1 : Nat),V.ro (List.map (intR IntKind.i64) s29),V.lit (Value.int IntKind.i64 s30),V.lit (Value.int IntKind.i64 s38),V.junk,V.junk,V.junk,V.junk,V.junk,V.junk,V.junk,V.junk,V.junk,V.junk],[B.box [V.ro (List.map taskV v0)],B.box [V.lit (Value.bool false)],B.rows (1 : Nat) (List.map boolR s39) (0 : Nat) true,B.rows (0 : Nat) [] (0 : Nat) true,B.box [V.own (2 : Nat) (0 : Nat) v0.length],B.box [V.ro (List.map taskV v0)],(B.loop ⟨LoopState.ready,none,(38 : Nat),[V.ro (List.map taskV v0),V.ptr (0 : Nat) (0 : Nat) (0 : Nat) (0 : Nat),V.ptr (1 : Nat) (0 : Nat) (0 : Nat) (0 : Nat),V.ptr (4 : Nat) (0 : Nat) (0 : Nat) (0 : Nat),uu,uu,V.ro (List.map taskV v0),V.lit (Value.int IntKind.i64 (↑v0.length : Int)),V.lit (Value.bool (decide ((30 : Int) < (↑v0.length : Int)))),V.lit (Value.bool false),V.ro (List.map taskV v0),V.lit (Value.bool s31),V.lit (Value.bool s31),V.ro (List.map taskV v0),V.lit (Value.int IntKind.i64 (↑v0.length : Int)),V.own (2 : Nat) (0 : Nat) v0.length,V.ro (List.map taskV v0),V.fn (Fn.func (78 : FuncId)) [] [V.ptr (5 : Nat) (0 : Nat) (0 : Nat) (0 : Nat)],uu,uu,uu,uu,uu,uu,uu,uu,uu,uu,uu,uu,uu,uu,uu,uu,uu,uu,uu,uu],[(18 : Tmp),(19 : Tmp)],xl38_0,xl38_1⟩),B.rows (0 : Nat) [] (0 : Nat) true,B.box [V.lit (Value.int IntKind.i64 s28),V.ro (List.map (intR IntKind.i64) s29)]]⟩) (rfK (runK (xX (xS (k + (18 : Nat))) (38 : Nat) (0 : Nat) (k + (18 : Nat)) false) (bodyK (xS (k + (18 : Nat))).P Try.f38) xk38_1) [V.ro (List.map taskV v0),V.ptr (0 : Nat) (0 : Nat) (0 : Nat) (0 : Nat),V.ptr (1 : Nat) (0 : Nat) (0 : Nat) (0 : Nat),V.ptr (4 : Nat) (0 : Nat) (0 : Nat) (0 : Nat),uu,uu,V.ro (List.map taskV v0),V.lit (Value.int IntKind.i64 (↑v0.length : Int)),V.lit (Value.bool (decide ((30 : Int) < (↑v0.length : Int)))),V.lit (Value.bool false),V.ro (List.map taskV v0),V.lit (Value.bool s31),V.lit (Value.bool s31),V.ro (List.map taskV v0),V.lit (Value.int IntKind.i64 (↑v0.length : Int)),V.own (2 : Nat) (0 : Nat) v0.length,V.ro (List.map taskV v0),V.fn (Fn.func (78 : FuncId)) [] [V.ptr (5 : Nat) (0 : Nat) (0 : Nat) (0 : Nat)],uu,uu,uu,uu,uu,uu,uu,uu,uu,uu,uu,uu,uu,uu,uu,uu,uu,uu,uu,uu] ((6 : Nat)))) = ob (g_forest_May_L1 k v0 o0 n s29 s30 s38 s39 s48) fun r => some ((.lit (.bool r)),[]) := by
  intro n
  induction n with
  | zero => intros; rfl
  | succ n ih =>
    intro s29 s30 s38 s39 s48 s28 s31 s49 j37
    rw [g_forest_May_L1]
    simp (maxSteps := 2000000) -implicitDefEqProofs only [xe38,xb38,xz38,xm38_0,xj38_1,xq38_1_1_1_0_1_0_1,xq38_1_1_1_0_1_0_0,xm38_2,xm38_3,xk38_0_ret,xk38_1_ret,xk38_2_ret,xq38_0_eq,xe50,xb50,xe51,xb51,xm51_0,xk51_0_ret,xe52,xb52,xC_eq (g := 52),xe77,xb77,xz77,xj77_0,xk77_0_ret,xe78,xb78,xz78,xj78_0,xj78_1,xk78_0_ret,xk78_1_ret,↓syP,syA,rtN,pureL,V.pure,nsh,stBk,V.kill,killL,spl,V.shift,shiftL,V.scal,scalL,intR,boolR,threeV,Nat.reduceAdd,Nat.reduceSub,Nat.reduceMul,Nat.reduceLT,Nat.reduceLeDiff,Nat.reduceEqDiff,Nat.reduceBEq,Nat.reduceBNe,Int.reduceBEq,Int.reduceBNe,Int.reduceLT,Int.reduceLE,Int.reduceAdd,Int.reduceSub,Int.reduceNeg,syQ,confV,frameV,listV,subV,arC_nil,arC_cons,xF,xcallV,xcallC,xcallL,xcallY,xevY,xY_ready,xrange,xG_fn,xR,xA,xcl21,xclk21,xcl22,xclk22,h_slices_ContainsFunc_apiTask_forest_May_1,xr78_1,ih,ho0]
    all_goals simp -implicitDefEqProofs only [List.map_nil]
def g_forest_May_L0 (k : Nat) (v0 : (List (Int × List Int)))  : Nat → Int → List Bool → Option Bool
  | 0,_,_ => none
  | n + 1,s42,s51 =>
    bif decide (s42 < (↑v0.length : Int)) then
     ob (idx v0 s42) fun x58 =>
     g_forest_May_L1 k v0 (fun s42 s51 => g_forest_May_L0 k v0  n s42 s51) (k + (17 : Nat)) (x58.snd) ((↑x58.snd.length : Int)) ((0 : Int)) (s51) (s42)
    else
     some (true)
theorem g_forest_May_L0_eq (k : Nat) (v0 : (List (Int × List Int))) : ∀ (n : Nat) (s42 : Int) (s51 : List Bool) ⦃s24 : Bool⦄ ⦃j40 j41 j50 : V⦄,rt none (bq (itX (xX (xS (k + (17 : Nat))) (78 : Nat) (0 : Nat) (k + (17 : Nat)) false) xl78_0 ((7 : Nat)) (runK (xX (xS (k + (17 : Nat))) (78 : Nat) (0 : Nat) (k + (17 : Nat)) false) (bodyK (xS (k + (17 : Nat))).P Try.f78) xk78_0) n ⟨[V.yld (6 : Nat),V.ptr (5 : Nat) (0 : Nat) (0 : Nat) (0 : Nat),uu,j40,j41,uu,j50,V.ro (List.map taskV v0),V.lit (Value.int IntKind.i64 (↑v0.length : Int)),V.lit (Value.int IntKind.i64 s42),V.junk,V.junk,V.junk,V.junk,V.junk,V.junk,V.junk,V.junk,V.junk,V.junk,V.junk,V.junk,V.junk,V.junk,V.junk,V.junk,V.junk,V.junk],[B.box [V.ro (List.map taskV v0)],B.box [V.lit (Value.bool false)],B.rows (1 : Nat) (List.map boolR s51) (0 : Nat) true,B.rows (0 : Nat) [] (0 : Nat) true,B.box [V.own (2 : Nat) (0 : Nat) v0.length],B.box [V.ro (List.map taskV v0)],(B.loop ⟨LoopState.ready,none,(38 : Nat),[V.ro (List.map taskV v0),V.ptr (0 : Nat) (0 : Nat) (0 : Nat) (0 : Nat),V.ptr (1 : Nat) (0 : Nat) (0 : Nat) (0 : Nat),V.ptr (4 : Nat) (0 : Nat) (0 : Nat) (0 : Nat),uu,uu,V.ro (List.map taskV v0),V.lit (Value.int IntKind.i64 (↑v0.length : Int)),V.lit (Value.bool (decide ((30 : Int) < (↑v0.length : Int)))),V.lit (Value.bool false),V.ro (List.map taskV v0),V.lit (Value.bool s24),V.lit (Value.bool s24),V.ro (List.map taskV v0),V.lit (Value.int IntKind.i64 (↑v0.length : Int)),V.own (2 : Nat) (0 : Nat) v0.length,V.ro (List.map taskV v0),V.fn (Fn.func (78 : FuncId)) [] [V.ptr (5 : Nat) (0 : Nat) (0 : Nat) (0 : Nat)],uu,uu,uu,uu,uu,uu,uu,uu,uu,uu,uu,uu,uu,uu,uu,uu,uu,uu,uu,uu],[(18 : Tmp),(19 : Tmp)],xl38_0,xl38_1⟩)]⟩) (rfK (runK (xX (xS (k + (18 : Nat))) (38 : Nat) (0 : Nat) (k + (18 : Nat)) false) (bodyK (xS (k + (18 : Nat))).P Try.f38) xk38_1) [V.ro (List.map taskV v0),V.ptr (0 : Nat) (0 : Nat) (0 : Nat) (0 : Nat),V.ptr (1 : Nat) (0 : Nat) (0 : Nat) (0 : Nat),V.ptr (4 : Nat) (0 : Nat) (0 : Nat) (0 : Nat),uu,uu,V.ro (List.map taskV v0),V.lit (Value.int IntKind.i64 (↑v0.length : Int)),V.lit (Value.bool (decide ((30 : Int) < (↑v0.length : Int)))),V.lit (Value.bool false),V.ro (List.map taskV v0),V.lit (Value.bool s24),V.lit (Value.bool s24),V.ro (List.map taskV v0),V.lit (Value.int IntKind.i64 (↑v0.length : Int)),V.own (2 : Nat) (0 : Nat) v0.length,V.ro (List.map taskV v0),V.fn (Fn.func (78 : FuncId)) [] [V.ptr (5 : Nat) (0 : Nat) (0 : Nat) (0 : Nat)],uu,uu,uu,uu,uu,uu,uu,uu,uu,uu,uu,uu,uu,uu,uu,uu,uu,uu,uu,uu] ((6 : Nat)))) = ob (g_forest_May_L0 k v0  n s42 s51) fun r => some ((.lit (.bool r)),[]) := by
  intro n
  induction n with
  | zero => intros; rfl
  | succ n ih =>
    intro s42 s51 s24 j40 j41 j50
    rw [g_forest_May_L0]
    simp (maxSteps := 2000000) -implicitDefEqProofs only [xe38,xb38,xz38,xm38_0,xj38_1,xq38_1_1_1_0_1_0_1,xq38_1_1_1_0_1_0_0,xm38_2,xm38_3,xk38_0_ret,xk38_1_ret,xk38_2_ret,xq38_0_eq,xe50,xb50,xe51,xb51,xm51_0,xk51_0_ret,xe52,xb52,xC_eq (g := 52),xe77,xb77,xz77,xj77_0,xk77_0_ret,xe78,xb78,xz78,xj78_0,xj78_1,xk78_0_ret,xk78_1_ret,↓syP,syA,rtN,pureL,V.pure,nsh,stBk,V.kill,killL,spl,V.shift,shiftL,V.scal,scalL,intR,boolR,threeV,Nat.reduceAdd,Nat.reduceSub,Nat.reduceMul,Nat.reduceLT,Nat.reduceLeDiff,Nat.reduceEqDiff,Nat.reduceBEq,Nat.reduceBNe,Int.reduceBEq,Int.reduceBNe,Int.reduceLT,Int.reduceLE,Int.reduceAdd,Int.reduceSub,Int.reduceNeg,syQ,confV,frameV,listV,subV,arC_nil,arC_cons,xF,xcallV,xcallC,xcallL,xcallY,xevY,xY_ready,xrange,xG_fn,xR,xA,xcl21,xclk21,xcl22,xclk22,h_slices_ContainsFunc_apiTask_forest_May_1,xr78_0,ih,g_forest_May_L1_eq k v0 _ (fun s42 s51 => g_forest_May_L0 k v0  n s42 s51) ih]
    all_goals simp -implicitDefEqProofs only [List.map_nil]
def g_forest_May (k : Nat) (v0 : (List (Int × List Int))) : Option Bool :=
  bif decide ((30 : Int) < (↑v0.length : Int)) then
   some (false)
  else
   ob (g_slices_ContainsFunc_apiTask_forest_May_1 k v0) fun x65 =>
   bif x65 then
    some (false)
   else
    bif decide ((0 : Int) ≤ (↑v0.length : Int) ∧ (↑v0.length : Int) ≤ (9223372036854775807 : Int) ∧ (↑v0.length : Int) * (1 : Int) ≤ (70368744177664 : Int)) then
     g_forest_May_L0 k v0 (k + (17 : Nat)) ((0 : Int)) (List.replicate v0.length false)
    else
     none
theorem h_forest_May (k : Nat) (v0 : (List (Int × List Int))) : xC (k + 19) none 38 [(.ro (List.map taskV v0))] = ob (g_forest_May k v0) fun r => some ((.lit (.bool r)),[]) := by
  rw [xC_eq]
  unfold g_forest_May
  simp (maxSteps := 2000000) -implicitDefEqProofs only [xe38,xb38,xz38,xm38_0,xj38_1,xq38_1_1_1_0_1_0_1,xq38_1_1_1_0_1_0_0,xm38_2,xm38_3,xk38_0_ret,xk38_1_ret,xk38_2_ret,xq38_0_eq,xe50,xb50,xe51,xb51,xm51_0,xk51_0_ret,xe52,xb52,xC_eq (g := 52),xe77,xb77,xz77,xj77_0,xk77_0_ret,xe78,xb78,xz78,xj78_0,xj78_1,xk78_0_ret,xk78_1_ret,↓syP,syA,rtN,pureL,V.pure,nsh,stBk,V.kill,killL,spl,V.shift,shiftL,V.scal,scalL,intR,boolR,threeV,Nat.reduceAdd,Nat.reduceSub,Nat.reduceMul,Nat.reduceLT,Nat.reduceLeDiff,Nat.reduceEqDiff,Nat.reduceBEq,Nat.reduceBNe,Int.reduceBEq,Int.reduceBNe,Int.reduceLT,Int.reduceLE,Int.reduceAdd,Int.reduceSub,Int.reduceNeg,syQ,confV,frameV,listV,subV,arC_nil,arC_cons,xF,xcallV,xcallC,xcallL,xcallY,xevY,xY_ready,xrange,xG_fn,xR,xA,xcl21,xclk21,xcl22,xclk22,h_slices_ContainsFunc_apiTask_forest_May_1,g_forest_May_L0_eq k v0]
  all_goals simp -implicitDefEqProofs only [List.map_nil]
end Go.Ab
