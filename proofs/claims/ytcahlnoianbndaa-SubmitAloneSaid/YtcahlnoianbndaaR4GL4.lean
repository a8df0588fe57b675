/- Functions as they are walked: printed by Walk.lean. -/
import Derived.Test.YtcahlnoianbndaaR4GS
import Derived.Test.YtcahlnoianbndaaR4Awk
import Derived.Test.YtcahlnoianbndaaR4BL4
set_option linter.unusedVariables false
set_option linter.unusedSimpArgs false
set_option maxRecDepth 100000
set_option linter.unusedVariables false
set_option linter.unusedSimpArgs false
namespace Go.Ab
open Go.Proofs
def g_poacherlaw19_SubmitAlone_L1 (k : Nat) (v0 : (Int × Int × Int × Int)) (v1 : (List (Int × List Int))) (v2 : (List Int)) (o0 : List Int → Int → Int → List Int → Int → Int → Int → Int → Int → Int → Int → Int → Option Bool) : Nat → List Int → List (Int × Int × Int) → Int → List Int → Int → Int → Int → Int → Int → Int → Int → Int → Int → Int → Option Bool
  | 0,_,_,_,_,_,_,_,_,_,_,_,_,_,_ => none
  | n + 1,s39,s40,s54,s55,s56,s57,s58,s59,s60,s61,s62,s83,s84,s121 =>
    bif decide (s83 < (↑s40.length : Int)) then
     ob (idx s40 s83) fun x183 =>
     bif x183.fst == (5 : Int) then
      g_poacherlaw19_SubmitAlone_L1 k v0 v1 v2 o0 n (s39) (s40) (s54) (s55) (s56) (s57) (s58) (s59) (s60) (s61) (s62) (IntKind.i64.wrap (s83 + (1 : Int))) (s84) (s121)
     else
      ob (idx s40 s83) fun x184 =>
      bif decide ((↑v2.length : Int) ≤ s84) then
       some (false)
      else
       ob (idx s40 s83) fun x185 =>
       ob (idx v2 s84) fun x186 =>
       bif x185.snd.fst != x186 then
        some (false)
       else
        bif !(x184.fst == (0 : Int)) == decide (s84 < v0.2.2.1) then
         some (false)
        else
         g_poacherlaw19_SubmitAlone_L1 k v0 v1 v2 o0 n (s39) (s40) (s54) (s55) (s56) (s57) (s58) (s59) (s60) (s61) (s62) (IntKind.i64.wrap (s83 + (1 : Int))) (IntKind.i64.wrap (s84 + (1 : Int))) (s121)
    else
     o0 (s39) (IntKind.i64.wrap (s121 + (1 : Int))) (s54) (s55) (s56) (s57) (s58) (s59) (s60) (s61) (s62) (s84)
theorem g_poacherlaw19_SubmitAlone_L1_eq (k : Nat) (v0_0 : Int) (v0_1 : Int) (v0_2 : Int) (v0_3 : Int) (v1 : (List (Int × List Int))) (v2 : (List Int)) (n5 : Nat) (o0 : List Int → Int → Int → List Int → Int → Int → Int → Int → Int → Int → Int → Int → Option Bool) (ho0 : ∀ (s7 : List Int) (s86 : Int) (s92 : Int) (s93 : List Int) (s94 : Int) (s95 : Int) (s96 : Int) (s97 : Int) (s98 : Int) (s99 : Int) (s100 : Int) (s133 : Int) ⦃s6 : Bool⦄ ⦃s8 : Bool⦄ ⦃s9 : Bool⦄ ⦃s10 : Bool⦄ ⦃s11 : Int⦄ ⦃s12 : List Int⦄ ⦃s13 : Int⦄ ⦃s14 : Int⦄ ⦃s15 : Int⦄ ⦃s16 : Int⦄ ⦃s17 : Int⦄ ⦃s18 : Int⦄ ⦃s19 : Int⦄ ⦃s91 : List Int⦄ ⦃j87 j88 j89 j90 j134 : V⦄,rt none (itX (xX (xS (k + (60 : Nat))) (4 : Nat) (0 : Nat) (k + (60 : Nat)) false) xl4_0 ((3 : Nat)) (runK (xX (xS (k + (60 : Nat))) (4 : Nat) (0 : Nat) (k + (60 : Nat)) false) (bodyK (xS (k + (60 : Nat))).P Try.f4) xk4_1) n5 ⟨(V.agg [V.lit (Value.int IntKind.i64 v0_0),V.lit (Value.int IntKind.i64 v0_1),V.lit (Value.int IntKind.i64 v0_2),V.lit (Value.int IntKind.i64 v0_3)] :: V.ro (List.map taskV v1) :: V.ro (List.map (intR IntKind.i64) v2) :: V.ptr (0 : Nat) (0 : Nat) (0 : Nat) (0 : Nat) :: uu :: uu :: V.lit (Value.bool false) :: V.lit (Value.bool true) :: V.lit (Value.bool s6) :: V.ro (List.map (intR IntKind.u64) s7) :: V.ptr (2 : Nat) (0 : Nat) (0 : Nat) (0 : Nat) :: V.lit (Value.int IntKind.i64 s133) :: V.lit (Value.int IntKind.i64 s86) :: j87 :: j88 :: j89 :: j90 :: j134 :: uu :: V.lit (Value.bool true) :: V.ro (List.map taskV v1) :: V.lit (Value.bool s6) :: V.lit (Value.bool true) :: V.lit (Value.bool false) :: V.lit (Value.bool false) :: V.lit (Value.bool s6) :: V.lit (Value.bool s8) :: V.lit (Value.bool s8) :: V.lit (Value.bool false) :: V.ro (List.map (intR IntKind.i64) v2) :: V.lit (Value.int IntKind.i64 (↑v2.length : Int)) :: V.lit (Value.bool (decide ((30 : Int) < (↑v2.length : Int)))) :: V.lit (Value.bool (decide ((30 : Int) < (↑v2.length : Int)))) :: V.lit (Value.bool false) :: V.agg [V.lit (Value.int IntKind.i64 v0_0),V.lit (Value.int IntKind.i64 v0_1),V.lit (Value.int IntKind.i64 v0_2),V.lit (Value.int IntKind.i64 v0_3)] :: V.lit (Value.bool s9) :: V.lit (Value.bool s10) :: V.lit (Value.bool s10) :: uu :: V.agg [V.lit (Value.int IntKind.i64 v0_0),V.lit (Value.int IntKind.i64 v0_1),V.lit (Value.int IntKind.i64 v0_2),V.lit (Value.int IntKind.i64 v0_3)] :: V.ro (List.map (intR IntKind.u64) s91) :: V.ro (List.map (intR IntKind.i64) v2) :: V.agg [V.lit (Value.int IntKind.i64 s11),V.ro (List.map (intR IntKind.i64) s12),V.lit (Value.int IntKind.i64 s13),V.lit (Value.int IntKind.i64 s14),V.lit (Value.int IntKind.i64 s15),V.lit (Value.int IntKind.u64 s16),V.lit (Value.int IntKind.u64 s17),V.lit (Value.int IntKind.u64 s18),V.lit (Value.int IntKind.i64 s19)] :: V.junk :: V.junk :: V.junk :: V.junk :: V.junk :: V.junk :: V.junk :: V.junk :: V.junk :: V.junk :: V.junk :: V.junk :: V.junk :: V.junk :: V.junk :: V.junk :: V.junk :: V.junk :: V.junk :: V.junk :: V.junk :: V.junk :: V.junk :: V.junk :: V.junk :: V.junk :: V.junk :: V.junk :: V.junk :: V.junk :: V.junk :: V.junk :: V.junk :: V.junk :: V.junk :: V.junk :: V.junk :: V.junk :: V.junk :: V.junk :: V.junk :: V.junk :: V.junk :: V.junk :: V.junk :: V.junk :: V.junk :: V.junk :: V.junk :: V.junk :: V.junk :: V.junk :: V.junk :: V.junk :: V.junk :: V.junk :: V.junk :: V.junk :: V.junk :: V.junk :: V.junk :: V.junk :: V.junk :: V.junk :: V.junk :: V.junk :: V.junk :: V.junk :: V.junk :: V.junk :: uu :: uu :: uu :: uu :: uu :: uu :: uu :: uu :: uu :: uu :: uu :: uu :: uu :: uu :: uu :: uu :: uu :: uu :: uu :: uu :: uu :: uu :: uu :: uu :: uu :: uu :: uu :: uu :: uu :: uu :: uu :: uu :: uu :: []),[B.box [V.lit (Value.int IntKind.i64 v0_0),V.lit (Value.int IntKind.i64 v0_1),V.lit (Value.int IntKind.i64 v0_2),V.lit (Value.int IntKind.i64 v0_3)],B.rows (0 : Nat) [] (0 : Nat) true,B.box [V.lit (Value.int IntKind.i64 s92),V.ro (List.map (intR IntKind.i64) s93),V.lit (Value.int IntKind.i64 s94),V.lit (Value.int IntKind.i64 s95),V.lit (Value.int IntKind.i64 s96),V.lit (Value.int IntKind.u64 s97),V.lit (Value.int IntKind.u64 s98),V.lit (Value.int IntKind.u64 s99),V.lit (Value.int IntKind.i64 s100)]]⟩) = ob (o0 s7 s86 s92 s93 s94 s95 s96 s97 s98 s99 s100 s133) fun r => some ((.lit (.bool r)),[])) : ∀ (n : Nat) (s39 : List Int) (s40 : List (Int × Int × Int)) (s54 : Int) (s55 : List Int) (s56 : Int) (s57 : Int) (s58 : Int) (s59 : Int) (s60 : Int) (s61 : Int) (s62 : Int) (s83 : Int) (s84 : Int) (s121 : Int) ⦃s37 : Bool⦄ ⦃s38 : List Int⦄ ⦃s41 : Bool⦄ ⦃s42 : Bool⦄ ⦃s43 : Bool⦄ ⦃s44 : Int⦄ ⦃s45 : List Int⦄ ⦃s46 : Int⦄ ⦃s47 : Int⦄ ⦃s48 : Int⦄ ⦃s49 : Int⦄ ⦃s50 : Int⦄ ⦃s51 : Int⦄ ⦃s52 : Int⦄ ⦃s53 : Bool⦄ ⦃s122 : List Int⦄ ⦃s123 : Bool⦄ ⦃s124 : Int⦄ ⦃s125 : List Int⦄ ⦃s126 : Int⦄ ⦃s127 : Int⦄ ⦃s128 : Int⦄ ⦃s129 : Int⦄ ⦃s130 : Int⦄ ⦃s131 : Int⦄ ⦃s132 : Int⦄ ⦃j85 : V⦄,rt none (itX (xX (xS (k + (60 : Nat))) (4 : Nat) (0 : Nat) (k + (60 : Nat)) false) xl4_1 ((5 : Nat)) (runK (xX (xS (k + (60 : Nat))) (4 : Nat) (0 : Nat) (k + (60 : Nat)) false) (nextK (xX (xS (k + (60 : Nat))) (4 : Nat) (0 : Nat) (k + (60 : Nat)) false) xl4_0 (3 : Nat) (runK (xX (xS (k + (60 : Nat))) (4 : Nat) (0 : Nat) (k + (60 : Nat)) false) (bodyK (xS (k + (60 : Nat))).P Try.f4) xk4_1) n5) xk4_4) n ⟨(V.agg [V.lit (Value.int IntKind.i64 v0_0),V.lit (Value.int IntKind.i64 v0_1),V.lit (Value.int IntKind.i64 v0_2),V.lit (Value.int IntKind.i64 v0_3)] :: V.ro (List.map taskV v1) :: V.ro (List.map (intR IntKind.i64) v2) :: V.ptr (0 : Nat) (0 : Nat) (0 : Nat) (0 : Nat) :: uu :: uu :: V.lit (Value.bool false) :: V.lit (Value.bool true) :: V.lit (Value.bool s37) :: V.ro (List.map (intR IntKind.u64) s38) :: V.ptr (2 : Nat) (0 : Nat) (0 : Nat) (0 : Nat) :: V.lit (Value.int IntKind.i64 s84) :: V.lit (Value.int IntKind.i64 s121) :: V.ro (List.map (intR IntKind.u64) s39) :: V.ptr (4 : Nat) (0 : Nat) (0 : Nat) (0 : Nat) :: V.ro (List.map threeV s40) :: V.lit (Value.int IntKind.i64 s83) :: j85 :: uu :: V.lit (Value.bool true) :: V.ro (List.map taskV v1) :: V.lit (Value.bool s37) :: V.lit (Value.bool true) :: V.lit (Value.bool false) :: V.lit (Value.bool false) :: V.lit (Value.bool s37) :: V.lit (Value.bool s41) :: V.lit (Value.bool s41) :: V.lit (Value.bool false) :: V.ro (List.map (intR IntKind.i64) v2) :: V.lit (Value.int IntKind.i64 (↑v2.length : Int)) :: V.lit (Value.bool (decide ((30 : Int) < (↑v2.length : Int)))) :: V.lit (Value.bool (decide ((30 : Int) < (↑v2.length : Int)))) :: V.lit (Value.bool false) :: V.agg [V.lit (Value.int IntKind.i64 v0_0),V.lit (Value.int IntKind.i64 v0_1),V.lit (Value.int IntKind.i64 v0_2),V.lit (Value.int IntKind.i64 v0_3)] :: V.lit (Value.bool s42) :: V.lit (Value.bool s43) :: V.lit (Value.bool s43) :: uu :: V.agg [V.lit (Value.int IntKind.i64 v0_0),V.lit (Value.int IntKind.i64 v0_1),V.lit (Value.int IntKind.i64 v0_2),V.lit (Value.int IntKind.i64 v0_3)] :: V.ro (List.map (intR IntKind.u64) s122) :: V.ro (List.map (intR IntKind.i64) v2) :: V.agg [V.lit (Value.int IntKind.i64 s44),V.ro (List.map (intR IntKind.i64) s45),V.lit (Value.int IntKind.i64 s46),V.lit (Value.int IntKind.i64 s47),V.lit (Value.int IntKind.i64 s48),V.lit (Value.int IntKind.u64 s49),V.lit (Value.int IntKind.u64 s50),V.lit (Value.int IntKind.u64 s51),V.lit (Value.int IntKind.i64 s52)] :: V.lit (Value.int IntKind.i64 s121) :: V.ro (List.map (intR IntKind.i64) v2) :: V.lit (Value.int IntKind.i64 (↑v2.length : Int)) :: V.lit (Value.int IntKind.i64 (IntKind.i64.wrap ((12 : Int) * (↑v2.length : Int)))) :: V.lit (Value.int IntKind.i64 (IntKind.i64.wrap (IntKind.i64.wrap ((12 : Int) * (↑v2.length : Int)) + (1 : Int)))) :: V.lit (Value.bool s123) :: V.lit (Value.bool true) :: V.agg [V.lit (Value.int IntKind.i64 v0_0),V.lit (Value.int IntKind.i64 v0_1),V.lit (Value.int IntKind.i64 v0_2),V.lit (Value.int IntKind.i64 v0_3)] :: V.ro (List.map taskV v1) :: V.ro (List.map (intR IntKind.u64) s38) :: V.agg [V.lit (Value.int IntKind.i64 s124),V.ro (List.map (intR IntKind.i64) s125),V.lit (Value.int IntKind.i64 s126),V.lit (Value.int IntKind.i64 s127),V.lit (Value.int IntKind.i64 s128),V.lit (Value.int IntKind.u64 s129),V.lit (Value.int IntKind.u64 s130),V.lit (Value.int IntKind.u64 s131),V.lit (Value.int IntKind.i64 s132)] :: V.lit (Value.bool s53) :: V.lit (Value.bool s53) :: V.junk :: V.junk :: V.tup [V.ro (List.map (intR IntKind.u64) s39),V.agg [V.lit (Value.int IntKind.i64 s54),V.ro (List.map (intR IntKind.i64) s55),V.lit (Value.int IntKind.i64 s56),V.lit (Value.int IntKind.i64 s57),V.lit (Value.int IntKind.i64 s58),V.lit (Value.int IntKind.u64 s59),V.lit (Value.int IntKind.u64 s60),V.lit (Value.int IntKind.u64 s61),V.lit (Value.int IntKind.i64 s62)],V.ro (List.map threeV s40)] :: V.agg [V.lit (Value.int IntKind.i64 v0_0),V.lit (Value.int IntKind.i64 v0_1),V.lit (Value.int IntKind.i64 v0_2),V.lit (Value.int IntKind.i64 v0_3)] :: V.ro (List.map taskV v1) :: V.ro (List.map (intR IntKind.u64) s38) :: V.agg [V.lit (Value.int IntKind.i64 s124),V.ro (List.map (intR IntKind.i64) s125),V.lit (Value.int IntKind.i64 s126),V.lit (Value.int IntKind.i64 s127),V.lit (Value.int IntKind.i64 s128),V.lit (Value.int IntKind.u64 s129),V.lit (Value.int IntKind.u64 s130),V.lit (Value.int IntKind.u64 s131),V.lit (Value.int IntKind.i64 s132)] :: V.tup [V.ro (List.map (intR IntKind.u64) s39),V.agg [V.lit (Value.int IntKind.i64 s54),V.ro (List.map (intR IntKind.i64) s55),V.lit (Value.int IntKind.i64 s56),V.lit (Value.int IntKind.i64 s57),V.lit (Value.int IntKind.i64 s58),V.lit (Value.int IntKind.u64 s59),V.lit (Value.int IntKind.u64 s60),V.lit (Value.int IntKind.u64 s61),V.lit (Value.int IntKind.i64 s62)],V.ro (List.map threeV s40)] :: V.ro (List.map (intR IntKind.u64) s39) :: V.agg [V.lit (Value.int IntKind.i64 s54),V.ro (List.map (intR IntKind.i64) s55),V.lit (Value.int IntKind.i64 s56),V.lit (Value.int IntKind.i64 s57),V.lit (Value.int IntKind.i64 s58),V.lit (Value.int IntKind.u64 s59),V.lit (Value.int IntKind.u64 s60),V.lit (Value.int IntKind.u64 s61),V.lit (Value.int IntKind.i64 s62)] :: V.ro (List.map threeV s40) :: V.junk :: V.junk :: V.junk :: V.junk :: V.junk :: V.junk :: V.junk :: V.junk :: V.junk :: V.junk :: V.junk :: V.junk :: V.junk :: V.junk :: V.junk :: V.junk :: V.junk :: V.junk :: V.junk :: V.junk :: V.junk :: V.junk :: V.junk :: V.junk :: V.junk :: V.junk :: V.junk :: V.junk :: V.junk :: V.junk :: V.junk :: V.junk :: V.junk :: V.junk :: V.junk :: V.junk :: V.junk :: V.junk :: V.junk :: V.junk :: V.junk :: V.junk :: V.junk :: V.junk :: V.junk :: V.junk :: uu :: uu :: uu :: uu :: uu :: uu :: uu :: uu :: uu :: uu :: uu :: uu :: uu :: uu :: uu :: uu :: uu :: uu :: uu :: uu :: uu :: uu :: uu :: uu :: uu :: uu :: uu :: uu :: uu :: uu :: uu :: uu :: uu :: []),[B.box [V.lit (Value.int IntKind.i64 v0_0),V.lit (Value.int IntKind.i64 v0_1),V.lit (Value.int IntKind.i64 v0_2),V.lit (Value.int IntKind.i64 v0_3)],B.rows (0 : Nat) [] (0 : Nat) true,B.box [V.lit (Value.int IntKind.i64 s124),V.ro (List.map (intR IntKind.i64) s125),V.lit (Value.int IntKind.i64 s126),V.lit (Value.int IntKind.i64 s127),V.lit (Value.int IntKind.i64 s128),V.lit (Value.int IntKind.u64 s129),V.lit (Value.int IntKind.u64 s130),V.lit (Value.int IntKind.u64 s131),V.lit (Value.int IntKind.i64 s132)],B.rows (0 : Nat) [] (0 : Nat) true,B.box [V.lit (Value.int IntKind.i64 s54),V.ro (List.map (intR IntKind.i64) s55),V.lit (Value.int IntKind.i64 s56),V.lit (Value.int IntKind.i64 s57),V.lit (Value.int IntKind.i64 s58),V.lit (Value.int IntKind.u64 s59),V.lit (Value.int IntKind.u64 s60),V.lit (Value.int IntKind.u64 s61),V.lit (Value.int IntKind.i64 s62)]]⟩) = ob (g_poacherlaw19_SubmitAlone_L1 k (v0_0,v0_1,v0_2,v0_3) v1 v2 o0 n s39 s40 s54 s55 s56 s57 s58 s59 s60 s61 s62 s83 s84 s121) fun r => some ((.lit (.bool r)),[]) := by
  intro n
  induction n with
  | zero => intros; rfl
  | succ n ih =>
    intro s39 s40 s54 s55 s56 s57 s58 s59 s60 s61 s62 s83 s84 s121 s37 s38 s41 s42 s43 s44 s45 s46 s47 s48 s49 s50 s51 s52 s53 s122 s123 s124 s125 s126 s127 s128 s129 s130 s131 s132 j85
    rw [g_poacherlaw19_SubmitAlone_L1]
    simp (maxSteps := 2000000) -implicitDefEqProofs only [xe4,xb4,xz4,xm4_0,xm4_1,xm4_2,xj4_3,xm4_4,xj4_5,xj4_6,xm4_7,xm4_8,xm4_9,xm4_10,xk4_0_ret,xk4_1_ret,xk4_2_ret,xk4_3_ret,xk4_4_ret,xk4_5_ret,xk4_6_ret,↓syP,syA,rtN,pureL,V.pure,nsh,stBk,V.kill,killL,spl,V.shift,shiftL,V.scal,scalL,intR,boolR,threeV,Nat.reduceAdd,Nat.reduceSub,Nat.reduceMul,Nat.reduceLT,Nat.reduceLeDiff,Nat.reduceEqDiff,Nat.reduceBEq,Nat.reduceBNe,Int.reduceBEq,Int.reduceBNe,Int.reduceLT,Int.reduceLE,Int.reduceAdd,Int.reduceSub,Int.reduceNeg,syQ,confV,frameV,listV,subV,arC_nil,arC_cons,xF,xcallV,xcallC,xcallL,xcallY,xevY,xY_ready,xrange,xG_fn,xR,xA,xcl21,xclk21,xcl22,xclk22,awk19',h_poacherlaw04_Few,h_lay_May,h_cell_Load,h_lay_New,h_submit_May,h_submit_Busy,h_submit_New,h_submit_Step,xr4_1,ih,ho0]
    all_goals simp -implicitDefEqProofs only [List.map_nil]
def g_poacherlaw19_SubmitAlone_L0 (k : Nat) (v0 : (Int × Int × Int × Int)) (v1 : (List (Int × List Int))) (v2 : (List Int))  : Nat → List Int → Int → Int → List Int → Int → Int → Int → Int → Int → Int → Int → Int → Option Bool
  | 0,_,_,_,_,_,_,_,_,_,_,_,_ => none
  | n + 1,s7,s86,s92,s93,s94,s95,s96,s97,s98,s99,s100,s133 =>
    bif decide (s86 < IntKind.i64.wrap (IntKind.i64.wrap ((12 : Int) * (↑v2.length : Int)) + (1 : Int))) then
     ob (g_submit_May (k + (36 : Nat)) (v0.1,v0.2.1,v0.2.2.1,v0.2.2.2) v1 s7 (s92,s93,s94,s95,s96,s97,s98,s99,s100)) fun x167 =>
     bif x167 then
      ob (g_submit_Step (k + (20 : Nat)) (v0.1,v0.2.1,v0.2.2.1,v0.2.2.2) v1 s7 (0 : Int) (s92,s93,s94,s95,s96,s97,s98,s99,s100)) fun x168 =>
      g_poacherlaw19_SubmitAlone_L1 k v0 v1 v2 (fun s7 s86 s92 s93 s94 s95 s96 s97 s98 s99 s100 s133 => g_poacherlaw19_SubmitAlone_L0 k v0 v1 v2  n s7 s86 s92 s93 s94 s95 s96 s97 s98 s99 s100 s133) (k + (60 : Nat)) (x168.fst) (x168.snd.snd) (x168.snd.fst.fst) (x168.snd.fst.snd.fst) (x168.snd.fst.snd.snd.fst) (x168.snd.fst.snd.snd.snd.fst) (x168.snd.fst.snd.snd.snd.snd.fst) (x168.snd.fst.snd.snd.snd.snd.snd.fst) (x168.snd.fst.snd.snd.snd.snd.snd.snd.fst) (x168.snd.fst.snd.snd.snd.snd.snd.snd.snd.fst) (x168.snd.fst.snd.snd.snd.snd.snd.snd.snd.snd) ((0 : Int)) (s133) (s86)
     else
      bif decide ((0 : Int) < (↑s93.length : Int)) then
       ob (g_submit_May (k + (36 : Nat)) (v0.1,v0.2.1,v0.2.2.1,v0.2.2.2) v1 s7 (s92,s93,s94,s95,s96,s97,s98,s99,s100)) fun x169 =>
       some (!x169)
      else
       bif decide (v0.2.2.1 < s133) then
        bif s133 == (↑v2.length : Int) then
         ob (g_cell_Load s7 (0 : Int)) fun x170 =>
         bif x170 == IntKind.u64.wrap v0.2.2.1 then
          ob (g_submit_Busy (s92,s93,s94,s95,s96,s97,s98,s99,s100)) fun x171 =>
          some (!x171)
         else
          some (false)
        else
         some (false)
       else
        bif s133 == (↑v2.length : Int) then
         ob (g_cell_Load s7 (0 : Int)) fun x172 =>
         bif x172 == IntKind.u64.wrap s133 then
          ob (g_submit_Busy (s92,s93,s94,s95,s96,s97,s98,s99,s100)) fun x173 =>
          some (!x173)
         else
          some (false)
        else
         some (false)
    else
     bif decide ((0 : Int) < (↑s93.length : Int)) then
      ob (g_submit_May (k + (36 : Nat)) (v0.1,v0.2.1,v0.2.2.1,v0.2.2.2) v1 s7 (s92,s93,s94,s95,s96,s97,s98,s99,s100)) fun x174 =>
      some (!x174)
     else
      bif decide (v0.2.2.1 < s133) then
       bif s133 == (↑v2.length : Int) then
        ob (g_cell_Load s7 (0 : Int)) fun x175 =>
        bif x175 == IntKind.u64.wrap v0.2.2.1 then
         ob (g_submit_Busy (s92,s93,s94,s95,s96,s97,s98,s99,s100)) fun x176 =>
         some (!x176)
        else
         some (false)
       else
        some (false)
      else
       bif s133 == (↑v2.length : Int) then
        ob (g_cell_Load s7 (0 : Int)) fun x177 =>
        bif x177 == IntKind.u64.wrap s133 then
         ob (g_submit_Busy (s92,s93,s94,s95,s96,s97,s98,s99,s100)) fun x178 =>
         some (!x178)
        else
         some (false)
       else
        some (false)
theorem g_poacherlaw19_SubmitAlone_L0_eq (k : Nat) (v0_0 : Int) (v0_1 : Int) (v0_2 : Int) (v0_3 : Int) (v1 : (List (Int × List Int))) (v2 : (List Int)) : ∀ (n : Nat) (s7 : List Int) (s86 : Int) (s92 : Int) (s93 : List Int) (s94 : Int) (s95 : Int) (s96 : Int) (s97 : Int) (s98 : Int) (s99 : Int) (s100 : Int) (s133 : Int) ⦃s6 : Bool⦄ ⦃s8 : Bool⦄ ⦃s9 : Bool⦄ ⦃s10 : Bool⦄ ⦃s11 : Int⦄ ⦃s12 : List Int⦄ ⦃s13 : Int⦄ ⦃s14 : Int⦄ ⦃s15 : Int⦄ ⦃s16 : Int⦄ ⦃s17 : Int⦄ ⦃s18 : Int⦄ ⦃s19 : Int⦄ ⦃s91 : List Int⦄ ⦃j87 j88 j89 j90 j134 : V⦄,rt none (itX (xX (xS (k + (60 : Nat))) (4 : Nat) (0 : Nat) (k + (60 : Nat)) false) xl4_0 ((3 : Nat)) (runK (xX (xS (k + (60 : Nat))) (4 : Nat) (0 : Nat) (k + (60 : Nat)) false) (bodyK (xS (k + (60 : Nat))).P Try.f4) xk4_1) n ⟨(V.agg [V.lit (Value.int IntKind.i64 v0_0),V.lit (Value.int IntKind.i64 v0_1),V.lit (Value.int IntKind.i64 v0_2),V.lit (Value.int IntKind.i64 v0_3)] :: V.ro (List.map taskV v1) :: V.ro (List.map (intR IntKind.i64) v2) :: V.ptr (0 : Nat) (0 : Nat) (0 : Nat) (0 : Nat) :: uu :: uu :: V.lit (Value.bool false) :: V.lit (Value.bool true) :: V.lit (Value.bool s6) :: V.ro (List.map (intR IntKind.u64) s7) :: V.ptr (2 : Nat) (0 : Nat) (0 : Nat) (0 : Nat) :: V.lit (Value.int IntKind.i64 s133) :: V.lit (Value.int IntKind.i64 s86) :: j87 :: j88 :: j89 :: j90 :: j134 :: uu :: V.lit (Value.bool true) :: V.ro (List.map taskV v1) :: V.lit (Value.bool s6) :: V.lit (Value.bool true) :: V.lit (Value.bool false) :: V.lit (Value.bool false) :: V.lit (Value.bool s6) :: V.lit (Value.bool s8) :: V.lit (Value.bool s8) :: V.lit (Value.bool false) :: V.ro (List.map (intR IntKind.i64) v2) :: V.lit (Value.int IntKind.i64 (↑v2.length : Int)) :: V.lit (Value.bool (decide ((30 : Int) < (↑v2.length : Int)))) :: V.lit (Value.bool (decide ((30 : Int) < (↑v2.length : Int)))) :: V.lit (Value.bool false) :: V.agg [V.lit (Value.int IntKind.i64 v0_0),V.lit (Value.int IntKind.i64 v0_1),V.lit (Value.int IntKind.i64 v0_2),V.lit (Value.int IntKind.i64 v0_3)] :: V.lit (Value.bool s9) :: V.lit (Value.bool s10) :: V.lit (Value.bool s10) :: uu :: V.agg [V.lit (Value.int IntKind.i64 v0_0),V.lit (Value.int IntKind.i64 v0_1),V.lit (Value.int IntKind.i64 v0_2),V.lit (Value.int IntKind.i64 v0_3)] :: V.ro (List.map (intR IntKind.u64) s91) :: V.ro (List.map (intR IntKind.i64) v2) :: V.agg [V.lit (Value.int IntKind.i64 s11),V.ro (List.map (intR IntKind.i64) s12),V.lit (Value.int IntKind.i64 s13),V.lit (Value.int IntKind.i64 s14),V.lit (Value.int IntKind.i64 s15),V.lit (Value.int IntKind.u64 s16),V.lit (Value.int IntKind.u64 s17),V.lit (Value.int IntKind.u64 s18),V.lit (Value.int IntKind.i64 s19)] :: V.junk :: V.junk :: V.junk :: V.junk :: V.junk :: V.junk :: V.junk :: V.junk :: V.junk :: V.junk :: V.junk :: V.junk :: V.junk :: V.junk :: V.junk :: V.junk :: V.junk :: V.junk :: V.junk :: V.junk :: V.junk :: V.junk :: V.junk :: V.junk :: V.junk :: V.junk :: V.junk :: V.junk :: V.junk :: V.junk :: V.junk :: V.junk :: V.junk :: V.junk :: V.junk :: V.junk :: V.junk :: V.junk :: V.junk :: V.junk :: V.junk :: V.junk :: V.junk :: V.junk :: V.junk :: V.junk :: V.junk :: V.junk :: V.junk :: V.junk :: V.junk :: V.junk :: V.junk :: V.junk :: V.junk :: V.junk :: V.junk :: V.junk :: V.junk :: V.junk :: V.junk :: V.junk :: V.junk :: V.junk :: V.junk :: V.junk :: V.junk :: V.junk :: V.junk :: V.junk :: uu :: uu :: uu :: uu :: uu :: uu :: uu :: uu :: uu :: uu :: uu :: uu :: uu :: uu :: uu :: uu :: uu :: uu :: uu :: uu :: uu :: uu :: uu :: uu :: uu :: uu :: uu :: uu :: uu :: uu :: uu :: uu :: uu :: []),[B.box [V.lit (Value.int IntKind.i64 v0_0),V.lit (Value.int IntKind.i64 v0_1),V.lit (Value.int IntKind.i64 v0_2),V.lit (Value.int IntKind.i64 v0_3)],B.rows (0 : Nat) [] (0 : Nat) true,B.box [V.lit (Value.int IntKind.i64 s92),V.ro (List.map (intR IntKind.i64) s93),V.lit (Value.int IntKind.i64 s94),V.lit (Value.int IntKind.i64 s95),V.lit (Value.int IntKind.i64 s96),V.lit (Value.int IntKind.u64 s97),V.lit (Value.int IntKind.u64 s98),V.lit (Value.int IntKind.u64 s99),V.lit (Value.int IntKind.i64 s100)]]⟩) = ob (g_poacherlaw19_SubmitAlone_L0 k (v0_0,v0_1,v0_2,v0_3) v1 v2  n s7 s86 s92 s93 s94 s95 s96 s97 s98 s99 s100 s133) fun r => some ((.lit (.bool r)),[]) := by
  intro n
  induction n with
  | zero => intros; rfl
  | succ n ih =>
    intro s7 s86 s92 s93 s94 s95 s96 s97 s98 s99 s100 s133 s6 s8 s9 s10 s11 s12 s13 s14 s15 s16 s17 s18 s19 s91 j87 j88 j89 j90 j134
    rw [g_poacherlaw19_SubmitAlone_L0]
    simp (maxSteps := 2000000) -implicitDefEqProofs only [xe4,xb4,xz4,xm4_0,xm4_1,xm4_2,xj4_3,xm4_4,xj4_5,xj4_6,xm4_7,xm4_8,xm4_9,xm4_10,xk4_0_ret,xk4_1_ret,xk4_2_ret,xk4_3_ret,xk4_4_ret,xk4_5_ret,xk4_6_ret,↓syP,syA,rtN,pureL,V.pure,nsh,stBk,V.kill,killL,spl,V.shift,shiftL,V.scal,scalL,intR,boolR,threeV,Nat.reduceAdd,Nat.reduceSub,Nat.reduceMul,Nat.reduceLT,Nat.reduceLeDiff,Nat.reduceEqDiff,Nat.reduceBEq,Nat.reduceBNe,Int.reduceBEq,Int.reduceBNe,Int.reduceLT,Int.reduceLE,Int.reduceAdd,Int.reduceSub,Int.reduceNeg,syQ,confV,frameV,listV,subV,arC_nil,arC_cons,xF,xcallV,xcallC,xcallL,xcallY,xevY,xY_ready,xrange,xG_fn,xR,xA,xcl21,xclk21,xcl22,xclk22,awk19',h_poacherlaw04_Few,h_lay_May,h_cell_Load,h_lay_New,h_submit_May,h_submit_Busy,h_submit_New,h_submit_Step,xr4_0,ih,g_poacherlaw19_SubmitAlone_L1_eq k v0_0 v0_1 v0_2 v0_3 v1 v2 _ (fun s7 s86 s92 s93 s94 s95 s96 s97 s98 s99 s100 s133 => g_poacherlaw19_SubmitAlone_L0 k (v0_0,v0_1,v0_2,v0_3) v1 v2  n s7 s86 s92 s93 s94 s95 s96 s97 s98 s99 s100 s133) ih]
    all_goals simp -implicitDefEqProofs only [List.map_nil]
def g_poacherlaw19_SubmitAlone (k : Nat) (v0 : (Int × Int × Int × Int)) (v1 : (List (Int × List Int))) (v2 : (List Int)) : Option Bool :=
  ob (g_poacherlaw04_Few (k + (59 : Nat)) v1) fun x187 =>
  bif !x187 then
   some (true)
  else
   bif decide ((30 : Int) < (↑v2.length : Int)) then
    some (true)
   else
    ob (g_lay_May (v0.1,v0.2.1,v0.2.2.1,v0.2.2.2)) fun x188 =>
    bif !x188 then
     some (true)
    else
     ob (g_lay_New (k + (56 : Nat)) (v0.1,v0.2.1,v0.2.2.1,v0.2.2.2)) fun x189 =>
     ob (g_submit_New v2) fun x190 =>
     g_poacherlaw19_SubmitAlone_L0 k v0 v1 v2 (k + (60 : Nat)) (x189) ((0 : Int)) (x190.fst) (x190.snd.fst) (x190.snd.snd.fst) (x190.snd.snd.snd.fst) (x190.snd.snd.snd.snd.fst) (x190.snd.snd.snd.snd.snd.fst) (x190.snd.snd.snd.snd.snd.snd.fst) (x190.snd.snd.snd.snd.snd.snd.snd.fst) (x190.snd.snd.snd.snd.snd.snd.snd.snd) ((0 : Int))
theorem h_poacherlaw19_SubmitAlone (k : Nat) (v0_0 : Int) (v0_1 : Int) (v0_2 : Int) (v0_3 : Int) (v1 : (List (Int × List Int))) (v2 : (List Int)) : xC (k + 61) none 4 [(.agg [(.lit (.int .i64 v0_0)),(.lit (.int .i64 v0_1)),(.lit (.int .i64 v0_2)),(.lit (.int .i64 v0_3))]),(.ro (List.map taskV v1)),(.ro (List.map (intR .i64) v2))] = ob (g_poacherlaw19_SubmitAlone k (v0_0,v0_1,v0_2,v0_3) v1 v2) fun r => some ((.lit (.bool r)),[]) := by
  rw [xC_eq]
  unfold g_poacherlaw19_SubmitAlone
  simp (maxSteps := 2000000) -implicitDefEqProofs only [xe4,xb4,xz4,xm4_0,xm4_1,xm4_2,xj4_3,xm4_4,xj4_5,xj4_6,xm4_7,xm4_8,xm4_9,xm4_10,xk4_0_ret,xk4_1_ret,xk4_2_ret,xk4_3_ret,xk4_4_ret,xk4_5_ret,xk4_6_ret,↓syP,syA,rtN,pureL,V.pure,nsh,stBk,V.kill,killL,spl,V.shift,shiftL,V.scal,scalL,intR,boolR,threeV,Nat.reduceAdd,Nat.reduceSub,Nat.reduceMul,Nat.reduceLT,Nat.reduceLeDiff,Nat.reduceEqDiff,Nat.reduceBEq,Nat.reduceBNe,Int.reduceBEq,Int.reduceBNe,Int.reduceLT,Int.reduceLE,Int.reduceAdd,Int.reduceSub,Int.reduceNeg,syQ,confV,frameV,listV,subV,arC_nil,arC_cons,xF,xcallV,xcallC,xcallL,xcallY,xevY,xY_ready,xrange,xG_fn,xR,xA,xcl21,xclk21,xcl22,xclk22,awk19',h_poacherlaw04_Few,h_lay_May,h_lay_New,h_submit_New,g_poacherlaw19_SubmitAlone_L0_eq k v0_0 v0_1 v0_2 v0_3 v1 v2]
  all_goals simp -implicitDefEqProofs only [List.map_nil]
end Go.Ab
