/- Functions as they are walked: printed by Walk.lean. -/
import Derived.Test.YtcmdnjaenhbdpaaGreatR5GK
import Derived.Test.YtcmdnjaenhbdpaaGreatR5B6
import Derived.Test.YtcmdnjaenhbdpaaGreatR5BN
import Derived.Test.YtcmdnjaenhbdpaaGreatR5Awk
import Derived.Test.YtcmdnjaenhbdpaaGreatR5BL7
set_option linter.unusedVariables false
set_option linter.unusedSimpArgs false
set_option maxRecDepth 100000
set_option linter.unusedVariables false
set_option linter.unusedSimpArgs false
namespace Go.Ab
open Go.Proofs
def g_poacherlaw18_WorkWaits_L0 (k : Nat) (v0 : (Int × Int × Int × Int)) (v1 : (List (Int × List Int))) (v2 : Int)  : Nat → List Int → Int → Int → List (Int × Int × Int) → Int → Int → Int → Int → Int → Int → Int → Int → Int → Option Bool
 | 0,_,_,_,_,_,_,_,_,_,_,_,_,_ => none
 | n + 1,s8,s30,s35,s36,s37,s38,s39,s40,s41,s42,s43,s44,s45 =>
 bif decide (s30 < (30 : Int)) then
 bif s35 == (7 : Int) then
 ob (g_work_Step k (v0.1,v0.2.1,v0.2.2.1,v0.2.2.2) v1 s8 v2 (s35,s36,(s37,s38,s39,s40,s41,s42,s43),s44,s45) (0 : Int)) fun x53 =>
 bif (↑x53.2.2.length : Int) != (0 : Int) then
 some (false)
 else
 g_poacherlaw18_WorkWaits_L0 k v0 v1 v2  n (x53.1) (IntKind.i64.wrap (s30 + (1 : Int))) (x53.2.1.1) (x53.2.1.2.1) (x53.2.1.2.2.1.1) (x53.2.1.2.2.1.2.1) (x53.2.1.2.2.1.2.2.1) (x53.2.1.2.2.1.2.2.2.1) (x53.2.1.2.2.1.2.2.2.2.1) (x53.2.1.2.2.1.2.2.2.2.2.1) (x53.2.1.2.2.1.2.2.2.2.2.2) (x53.2.1.2.2.2.1) (x53.2.1.2.2.2.2)
 else
 bif s30 == IntKind.i64.wrap ((2 : Int) + IntKind.i64.wrap ((2 : Int) * v0.1)) then
 bif s35 == (8 : Int) then
 some (s37 == (5 : Int) && (s38 == (1 : Int) && (s39 == v2 && (s40 == (0 : Int) && (s41 == (0 : Int) && (s42 == (0 : Int) && s43 == (0 : Int)))))))
 else
 some (false)
 else
 some (false)
 else
 bif s30 == IntKind.i64.wrap ((2 : Int) + IntKind.i64.wrap ((2 : Int) * v0.1)) then
 bif s35 == (8 : Int) then
 some (s37 == (5 : Int) && (s38 == (1 : Int) && (s39 == v2 && (s40 == (0 : Int) && (s41 == (0 : Int) && (s42 == (0 : Int) && s43 == (0 : Int)))))))
 else
 some (false)
 else
 some (false)
theorem g_poacherlaw18_WorkWaits_L0_eq (k : Nat) (v0_0 v0_1 v0_2 v0_3 : Int) (v1 : List (Int × List Int)) (v2 : Int) : ∀ (n : Nat) (s8 : List Int) (s30 : Int) (s35 : Int) (s36 : List (Int × Int × Int)) (s37 : Int) (s38 : Int) (s39 : Int) (s40 : Int) (s41 : Int) (s42 : Int) (s43 : Int) (s44 : Int) (s45 : Int) ⦃s7 : Bool⦄ ⦃s9 : Int⦄ ⦃s10 : List (Int × Int × Int)⦄ ⦃s11 : Int⦄ ⦃s12 : Int⦄ ⦃s13 : Int⦄ ⦃s14 : Int⦄ ⦃s15 : Int⦄ ⦃s16 : Int⦄ ⦃s17 : Int⦄ ⦃s18 : Int⦄ ⦃s19 : Int⦄ ⦃s20 : Bool⦄ ⦃s21 : List Int⦄ ⦃s22 : Bool⦄ ⦃s23 : Bool⦄ ⦃s34 : List Int⦄ ⦃j31 j32 j33 : V⦄,rt none (itX (xX (xS (k + (60 : Nat))) (7 : Nat) (0 : Nat) (k + (60 : Nat)) false) xl7_0 ((3 : Nat)) (runK (xX (xS (k + (60 : Nat))) (7 : Nat) (0 : Nat) (k + (60 : Nat)) false) (bodyK (xS (k + (60 : Nat))).P Tryz.f7) xk7_1) n ⟨(V.agg [V.lit (Value.int IntKind.i64 v0_0),V.lit (Value.int IntKind.i64 v0_1),V.lit (Value.int IntKind.i64 v0_2),V.lit (Value.int IntKind.i64 v0_3)] :: V.ro (List.map taskV v1) :: V.lit (Value.int IntKind.i64 v2) :: V.ptr (0 : Nat) (0 : Nat) (0 : Nat) (0 : Nat) :: uu :: uu :: V.lit (Value.bool false) :: V.lit (Value.bool true) :: V.ptr (2 : Nat) (0 : Nat) (0 : Nat) (0 : Nat) :: V.lit (Value.bool s7) :: V.ro (List.map (intR IntKind.u64) s8) :: V.lit (Value.int IntKind.i64 s30) :: j31 :: j32 :: j33 :: V.lit (Value.bool true) :: V.lit (Value.int IntKind.i64 v2) :: V.agg [V.lit (Value.int IntKind.i64 s9),V.ro (List.map threeV s10),V.lit (Value.int IntKind.i64 s11),V.lit (Value.int IntKind.i64 s12),V.lit (Value.int IntKind.i64 s13),V.lit (Value.int IntKind.u64 s14),V.lit (Value.int IntKind.u64 s15),V.lit (Value.int IntKind.u64 s16),V.lit (Value.int IntKind.i64 s17),V.lit (Value.int IntKind.i64 s18),V.lit (Value.int IntKind.i64 s19)] :: V.ptr (2 : Nat) (0 : Nat) (0 : Nat) (0 : Nat) :: V.lit (Value.int IntKind.i64 v2) :: V.agg [V.lit (Value.int IntKind.i64 (5 : Int)),V.lit (Value.int IntKind.i64 (1 : Int)),V.lit (Value.int IntKind.i64 v2),V.lit (Value.int IntKind.u64 (0 : Int)),V.lit (Value.int IntKind.u64 (0 : Int)),V.lit (Value.int IntKind.u64 (0 : Int)),V.lit (Value.int IntKind.i64 (0 : Int))] :: V.ptr (2 : Nat) (0 : Nat) (0 : Nat) (2 : Nat) :: V.ro (List.map taskV v1) :: V.agg [V.lit (Value.int IntKind.i64 (7 : Int)),V.ro (List.map threeV s10),V.lit (Value.int IntKind.i64 (5 : Int)),V.lit (Value.int IntKind.i64 (1 : Int)),V.lit (Value.int IntKind.i64 v2),V.lit (Value.int IntKind.u64 (0 : Int)),V.lit (Value.int IntKind.u64 (0 : Int)),V.lit (Value.int IntKind.u64 (0 : Int)),V.lit (Value.int IntKind.i64 (0 : Int)),V.lit (Value.int IntKind.i64 s18),V.lit (Value.int IntKind.i64 s19)] :: V.lit (Value.bool s7) :: V.lit (Value.bool true) :: V.lit (Value.bool false) :: V.lit (Value.bool false) :: V.lit (Value.bool s7) :: V.lit (Value.bool s20) :: V.lit (Value.bool s20) :: V.lit (Value.bool false) :: V.agg [V.lit (Value.int IntKind.i64 v0_0),V.lit (Value.int IntKind.i64 v0_1),V.lit (Value.int IntKind.i64 v0_2),V.lit (Value.int IntKind.i64 v0_3)] :: V.ro (List.map taskV v1) :: V.agg [V.lit (Value.int IntKind.i64 v0_0),V.lit (Value.int IntKind.i64 v0_1),V.lit (Value.int IntKind.i64 v0_2),V.lit (Value.int IntKind.i64 v0_3)] :: V.ro (List.map (intR IntKind.u64) s21) :: V.lit (Value.int IntKind.i64 v2) :: V.agg [V.lit (Value.int IntKind.i64 (7 : Int)),V.ro (List.map threeV s10),V.lit (Value.int IntKind.i64 (5 : Int)),V.lit (Value.int IntKind.i64 (1 : Int)),V.lit (Value.int IntKind.i64 v2),V.lit (Value.int IntKind.u64 (0 : Int)),V.lit (Value.int IntKind.u64 (0 : Int)),V.lit (Value.int IntKind.u64 (0 : Int)),V.lit (Value.int IntKind.i64 (0 : Int)),V.lit (Value.int IntKind.i64 s18),V.lit (Value.int IntKind.i64 s19)] :: V.lit (Value.bool s22) :: V.lit (Value.bool s23) :: V.lit (Value.bool s23) :: uu :: V.agg [V.lit (Value.int IntKind.i64 v0_0),V.lit (Value.int IntKind.i64 v0_1),V.lit (Value.int IntKind.i64 v0_2),V.lit (Value.int IntKind.i64 v0_3)] :: V.ro (List.map (intR IntKind.u64) s34) :: V.junk :: V.junk :: V.junk :: V.junk :: V.junk :: V.junk :: V.junk :: V.junk :: V.junk :: V.junk :: V.junk :: V.junk :: V.junk :: V.junk :: V.junk :: V.junk :: V.junk :: V.junk :: V.junk :: V.junk :: V.junk :: V.junk :: V.junk :: V.junk :: uu :: uu :: uu :: uu :: uu :: uu :: uu :: uu :: uu :: uu :: uu :: uu :: uu :: uu :: uu :: uu :: uu :: uu :: []),[B.box [V.lit (Value.int IntKind.i64 v0_0),V.lit (Value.int IntKind.i64 v0_1),V.lit (Value.int IntKind.i64 v0_2),V.lit (Value.int IntKind.i64 v0_3)],B.rows (0 : Nat) [] (0 : Nat) true,B.box [V.lit (Value.int IntKind.i64 s35),V.ro (List.map threeV s36),V.lit (Value.int IntKind.i64 s37),V.lit (Value.int IntKind.i64 s38),V.lit (Value.int IntKind.i64 s39),V.lit (Value.int IntKind.u64 s40),V.lit (Value.int IntKind.u64 s41),V.lit (Value.int IntKind.u64 s42),V.lit (Value.int IntKind.i64 s43),V.lit (Value.int IntKind.i64 s44),V.lit (Value.int IntKind.i64 s45)]]⟩) = ob (g_poacherlaw18_WorkWaits_L0 k (v0_0,v0_1,v0_2,v0_3) v1 v2  n s8 s30 s35 s36 s37 s38 s39 s40 s41 s42 s43 s44 s45) fun r => some ((.lit (.bool r)),[]) := by
  intro n
  induction n with
  | zero => intros; rfl
  | succ n ih =>
    intro s8 s30 s35 s36 s37 s38 s39 s40 s41 s42 s43 s44 s45 s7 s9 s10 s11 s12 s13 s14 s15 s16 s17 s18 s19 s20 s21 s22 s23 s34 j31 j32 j33
    rw [g_poacherlaw18_WorkWaits_L0]
    simp (maxSteps := 2000000) -implicitDefEqProofs only [xe7,xb7,xz7,xm7_0,xm7_1,xj7_2,xm7_3,xm7_4,xm7_5,xk7_0_ret,xk7_1_ret,xk7_2_ret,xk7_3_ret,↓syP,syA,syD,Nat.reduceAdd,Nat.reduceSub,Nat.reduceMul,Nat.reduceLT,Nat.reduceLeDiff,Nat.reduceEqDiff,Nat.reduceBEq,Nat.reduceBNe,Int.reduceBEq,Int.reduceBNe,Int.reduceLT,Int.reduceLE,Int.reduceAdd,Int.reduceSub,Int.reduceNeg,syE,killR_cons,retype_intC,retype_threeC,xQ,awk18',h_lay_New,h_work_May,h_work_New,h_poacherlaw18_Few,h_work_Step,xr7_0,ih]
    all_goals simp -implicitDefEqProofs only [List.map_nil]
def g_poacherlaw18_WorkWaits (k : Nat) (v0 : (Int × Int × Int × Int)) (v1 : (List (Int × List Int))) (v2 : Int) : Option Bool :=
 ob (g_work_New v2) fun x54 =>
 ob (g_poacherlaw18_Few (k + (58 : Nat)) v1 ((7 : Int),x54.2.1,((5 : Int),(1 : Int),v2,(0 : Int),(0 : Int),(0 : Int),(0 : Int)),x54.2.2.2.1,x54.2.2.2.2)) fun x55 =>
 bif !x55 then
 some (true)
 else
 ob (g_lay_New (k + (56 : Nat)) (v0.1,v0.2.1,v0.2.2.1,v0.2.2.2)) fun x56 =>
 ob (g_work_May (k + (36 : Nat)) (v0.1,v0.2.1,v0.2.2.1,v0.2.2.2) v1 x56 v2 ((7 : Int),x54.2.1,((5 : Int),(1 : Int),v2,(0 : Int),(0 : Int),(0 : Int),(0 : Int)),x54.2.2.2.1,x54.2.2.2.2)) fun x57 =>
 bif !x57 then
 some (true)
 else
 ob (g_lay_New (k + (56 : Nat)) (v0.1,v0.2.1,v0.2.2.1,v0.2.2.2)) fun x58 =>
 g_poacherlaw18_WorkWaits_L0 k v0 v1 v2 (k + (60 : Nat)) (x58) ((0 : Int)) ((7 : Int)) (x54.2.1) ((5 : Int)) ((1 : Int)) (v2) ((0 : Int)) ((0 : Int)) ((0 : Int)) ((0 : Int)) (x54.2.2.2.1) (x54.2.2.2.2)
theorem h_poacherlaw18_WorkWaits (k : Nat) (v0_0 v0_1 v0_2 v0_3 : Int) (v1 : List (Int × List Int)) (v2 : Int) : xC (k + 61) none 7 [.agg [.lit (.int .i64 v0_0),.lit (.int .i64 v0_1),.lit (.int .i64 v0_2),.lit (.int .i64 v0_3)],.ro (List.map taskV v1),.lit (.int .i64 v2)] = ob (g_poacherlaw18_WorkWaits k (v0_0,v0_1,v0_2,v0_3) v1 v2) fun r => some ((.lit (.bool r)),[]) := by
  rw [xC_eq]
  unfold g_poacherlaw18_WorkWaits
  simp (maxSteps := 2000000) -implicitDefEqProofs only [xe7,xb7,xz7,xm7_0,xm7_1,xj7_2,xm7_3,xm7_4,xm7_5,xk7_0_ret,xk7_1_ret,xk7_2_ret,xk7_3_ret,↓syP,syA,syD,Nat.reduceAdd,Nat.reduceSub,Nat.reduceMul,Nat.reduceLT,Nat.reduceLeDiff,Nat.reduceEqDiff,Nat.reduceBEq,Nat.reduceBNe,Int.reduceBEq,Int.reduceBNe,Int.reduceLT,Int.reduceLE,Int.reduceAdd,Int.reduceSub,Int.reduceNeg,syE,killR_cons,retype_intC,retype_threeC,xQ,awk18',h_lay_New,h_work_May,h_work_New,h_poacherlaw18_Few,g_poacherlaw18_WorkWaits_L0_eq k v0_0 v0_1 v0_2 v0_3 v1 v2]
  all_goals simp -implicitDefEqProofs only [List.map_nil]
end Go.Ab
