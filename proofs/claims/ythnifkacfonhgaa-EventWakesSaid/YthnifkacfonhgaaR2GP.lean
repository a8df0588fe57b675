/- Functions as they are walked: printed by Walk.lean. -/
import Derived.Test.YthnifkacfonhgaaR2GE
import Derived.Test.YthnifkacfonhgaaR2BE
import Derived.Test.YthnifkacfonhgaaR2B4
set_option linter.unusedVariables false
set_option linter.unusedSimpArgs false
set_option maxRecDepth 100000
set_option linter.unusedVariables false
set_option linter.unusedSimpArgs false
namespace Go.Ab
open Go.Proofs
def g_event_Play_1 (v0 : Int) : Option Bool :=
  bif v0 == (5 : Int) then
   some (true)
  else
   bif v0 == (6 : Int) then
    some (true)
   else
    some (v0 == (7 : Int))
theorem h_event_Play_1 (k : Nat) (v0 : Int) : xC (k + 1) none 85 [(.lit (.int .i64 v0))] = ob (g_event_Play_1 v0) fun r => some ((.lit (.bool r)),[]) := by
  rw [xC_eq]
  unfold g_event_Play_1
  simp (maxSteps := 2000000) -implicitDefEqProofs only [xe85,xb85,xm85_0,xm85_1,xk85_0_ret,↓syP,syA,rtN,pureL,V.pure,nsh,stBk,V.kill,killL,spl,V.shift,shiftL,V.scal,scalL,intR,boolR,threeV,Nat.reduceAdd,Nat.reduceSub,Nat.reduceMul,Nat.reduceLT,Nat.reduceLeDiff,Nat.reduceEqDiff,Nat.reduceBEq,Nat.reduceBNe,Int.reduceBEq,Int.reduceBNe,Int.reduceLT,Int.reduceLE,Int.reduceAdd,Int.reduceSub,Int.reduceNeg,syQ,confV,frameV,listV,xF,xcallV,xcallC,xcallL,xcallY,xevY,xY_ready,xrange,xG_fn,xR,xA,xcl50,xclk50,xcl83,xclk83,xrp84,xrq84,awk14',awk15']
  all_goals simp -implicitDefEqProofs only [List.map_nil]
def g_slices_IndexFunc_int_event_Play_1_L0 (k : Nat) (v0 : (List Int))  : Nat → Int → Option Int
  | 0,_ => none
  | n + 1,s28 =>
    bif decide (s28 < (↑v0.length : Int)) then
     ob (idx v0 s28) fun x33 =>
     ob (g_event_Play_1 x33) fun x34 =>
     bif x34 then
      some (s28)
     else
      g_slices_IndexFunc_int_event_Play_1_L0 k v0  n (IntKind.i64.wrap (s28 + (1 : Int)))
    else
     some ((-1 : Int))
theorem g_slices_IndexFunc_int_event_Play_1_L0_eq (k : Nat) (v0 : (List Int)) : ∀ (n : Nat) (s28 : Int) ⦃j27 : V⦄,rt none (itX (xX (xS (k + (8 : Nat))) (87 : Nat) (0 : Nat) (k + (8 : Nat)) false) xl87_0 ((0 : Nat)) (runK (xX (xS (k + (8 : Nat))) (87 : Nat) (0 : Nat) (k + (8 : Nat)) false) (bodyK (xS (k + (8 : Nat))).P Try.f87) xk87_0) n ⟨[V.ro (List.map (intR IntKind.i64) v0),V.fn (Fn.func (85 : FuncId)) [] [],uu,uu,V.lit (Value.int IntKind.i64 (0 : Int)),j27,V.ro (List.map (intR IntKind.i64) v0),V.lit (Value.int IntKind.i64 (↑v0.length : Int)),V.lit (Value.int IntKind.i64 s28),V.junk,V.junk,V.junk,V.junk,V.junk,V.junk,V.junk,V.junk,V.junk,V.junk],[]⟩) = ob (g_slices_IndexFunc_int_event_Play_1_L0 k v0  n s28) fun r => some ((.lit (.int .i64 r)),[]) := by
  intro n
  induction n with
  | zero => intros; rfl
  | succ n ih =>
    intro s28 j27
    rw [g_slices_IndexFunc_int_event_Play_1_L0]
    simp (maxSteps := 2000000) -implicitDefEqProofs only [xe87,xb87,xz87,xj87_0,xk87_0_ret,↓syP,syA,rtN,pureL,V.pure,nsh,stBk,V.kill,killL,spl,V.shift,shiftL,V.scal,scalL,intR,boolR,threeV,Nat.reduceAdd,Nat.reduceSub,Nat.reduceMul,Nat.reduceLT,Nat.reduceLeDiff,Nat.reduceEqDiff,Nat.reduceBEq,Nat.reduceBNe,Int.reduceBEq,Int.reduceBNe,Int.reduceLT,Int.reduceLE,Int.reduceAdd,Int.reduceSub,Int.reduceNeg,syQ,confV,frameV,listV,xF,xcallV,xcallC,xcallL,xcallY,xevY,xY_ready,xrange,xG_fn,xR,xA,xcl50,xclk50,xcl83,xclk83,xrp84,xrq84,awk14',awk15',h_event_Play_1,xr87_0,ih]
    all_goals simp -implicitDefEqProofs only [List.map_nil]
def g_slices_IndexFunc_int_event_Play_1 (k : Nat) (v0 : (List Int)) : Option Int :=
  g_slices_IndexFunc_int_event_Play_1_L0 k v0 (k + (8 : Nat)) ((0 : Int))
theorem h_slices_IndexFunc_int_event_Play_1 (k : Nat) (v0 : (List Int)) : xC (k + 9) none 87 [(.ro (List.map (intR .i64) v0)),V.fn (Fn.func (85 : FuncId)) [] []] = ob (g_slices_IndexFunc_int_event_Play_1 k v0) fun r => some ((.lit (.int .i64 r)),[]) := by
  rw [xC_eq]
  unfold g_slices_IndexFunc_int_event_Play_1
  simp (maxSteps := 2000000) -implicitDefEqProofs only [xe87,xb87,xz87,xj87_0,xk87_0_ret,↓syP,syA,rtN,pureL,V.pure,nsh,stBk,V.kill,killL,spl,V.shift,shiftL,V.scal,scalL,intR,boolR,threeV,Nat.reduceAdd,Nat.reduceSub,Nat.reduceMul,Nat.reduceLT,Nat.reduceLeDiff,Nat.reduceEqDiff,Nat.reduceBEq,Nat.reduceBNe,Int.reduceBEq,Int.reduceBNe,Int.reduceLT,Int.reduceLE,Int.reduceAdd,Int.reduceSub,Int.reduceNeg,syQ,confV,frameV,listV,xF,xcallV,xcallC,xcallL,xcallY,xevY,xY_ready,xrange,xG_fn,xR,xA,xcl50,xclk50,xcl83,xclk83,xrp84,xrq84,awk14',awk15',g_slices_IndexFunc_int_event_Play_1_L0_eq k v0]
  all_goals simp -implicitDefEqProofs only [List.map_nil]
def g_event_Play_L0 (k : Nat) (v0 : (List (List Int))) (v1 : (List Int))  : Nat → Int → Int → Int → Int → List (List Int) → List Int → List (Int × Int × Int × Int × Int × Int × Int) → Int → List (List Int) → List (Int × Int × Int × Int × Int × Int × Int) → Nat → List (Int × Int × Int × Int × Int × Int × Int) → Option ((List Int) × (List (Int × Int × Int × Int × Int × Int × Int)) × (List (Int × Int × Int × Int × Int × Int × Int)))
  | 0,_,_,_,_,_,_,_,_,_,_,_,_ => none
  | n + 1,s7,s8,s9,s10,s11,s12,s13,s66,s67,s68,s69,s70 =>
    bif decide (s66 < (↑v1.length : Int)) then
     ob (idx v1 s66) fun x128 =>
     bif decide ((0 : Int) ≤ x128) then
      bif decide (x128 < s7) then
       bif decide ((0 : Int) ≤ x128 ∧ x128.toNat < s67.length) then
        ob (s11[x128.toNat]?) fun x129 =>
        ob (g_slices_IndexFunc_int_event_Play_1 (k + (28 : Nat)) x129) fun x130 =>
        bif decide ((0 : Int) ≤ x128 ∧ x128.toNat < s68.length) then
         ob (s13[x128.toNat]?) fun x131 =>
         bif x131.fst == (-1 : Int) then
          bif decide ((0 : Int) ≤ x130) then
           bif decide ((0 : Int) ≤ x128 ∧ x128.toNat < s67.length) then
            ob (s11[x128.toNat]?) fun x132 =>
            ob (idx x132 x130) fun x133 =>
            ob (g_frame_Begin x133 x128 (0 : Int)) fun x134 =>
            bif decide ((0 : Int) ≤ x128 ∧ x128.toNat < s67.length) then
             ob (s11[x128.toNat]?) fun x135 =>
             bif decide ((0 : Int) ≤ IntKind.i64.wrap (x130 + (1 : Int)) ∧ IntKind.i64.wrap (x130 + (1 : Int)) ≤ (↑x135.length : Int)) then
              bif decide ((0 : Int) ≤ x128 ∧ x128.toNat < s68.length) then
               ob (s13[x128.toNat]?) fun x136 =>
               bif decide ((0 : Int) ≤ x128 ∧ x128.toNat < s67.length) then
                ob (s11[x128.toNat]?) fun x137 =>
                bif decide ((0 : Int) ≤ x128 ∧ x128.toNat < s68.length) then
                 ob ((s13.set x128.toNat (x134.fst,x134.snd.fst,x134.snd.snd.fst,x134.snd.snd.snd.fst,x134.snd.snd.snd.snd.fst,x134.snd.snd.snd.snd.snd.fst,x134.snd.snd.snd.snd.snd.snd))[x128.toNat]?) fun x138 =>
                 ob (g_event_Step (k + (20 : Nat)) (s7,s8,s9,s10) s12 (x138.fst,x138.snd.fst,x138.snd.snd.fst,x138.snd.snd.snd.fst,x138.snd.snd.snd.snd.fst,x138.snd.snd.snd.snd.snd.fst,x138.snd.snd.snd.snd.snd.snd)) fun x139 =>
                 bif decide ((0 : Int) ≤ x128 ∧ x128.toNat < s68.length) then
                  ob ((s13.set x128.toNat (x134.fst,x134.snd.fst,x134.snd.snd.fst,x134.snd.snd.snd.fst,x134.snd.snd.snd.snd.fst,x134.snd.snd.snd.snd.snd.fst,x134.snd.snd.snd.snd.snd.snd))[x128.toNat]?) fun x140 =>
                  ob (g_frame_Over (x139.snd.fst,x139.snd.snd.fst,x139.snd.snd.snd.fst,x139.snd.snd.snd.snd.fst,x139.snd.snd.snd.snd.snd.fst,x139.snd.snd.snd.snd.snd.snd.fst,x139.snd.snd.snd.snd.snd.snd.snd)) fun x141 =>
                  bif x141 then
                   ck (s69 == (7 : Nat) || s69 == (0 : Nat)) (
                   bif room (s70 ++ [(x139.snd.fst,x139.snd.snd.fst,x139.snd.snd.snd.fst,x139.snd.snd.snd.snd.fst,x139.snd.snd.snd.snd.snd.fst,x139.snd.snd.snd.snd.snd.snd.fst,x139.snd.snd.snd.snd.snd.snd.snd)]).length (56 : Nat) then
                    bif decide ((0 : Int) ≤ x128 ∧ x128.toNat < s68.length) then
                     ob (((s13.set x128.toNat (x134.fst,x134.snd.fst,x134.snd.snd.fst,x134.snd.snd.snd.fst,x134.snd.snd.snd.snd.fst,x134.snd.snd.snd.snd.snd.fst,x134.snd.snd.snd.snd.snd.snd)).set x128.toNat (x139.snd.fst,x139.snd.snd.fst,x139.snd.snd.snd.fst,x139.snd.snd.snd.snd.fst,x139.snd.snd.snd.snd.snd.fst,x139.snd.snd.snd.snd.snd.snd.fst,x139.snd.snd.snd.snd.snd.snd.snd))[x128.toNat]?) fun x142 =>
                     g_event_Play_L0 k v0 v1  n (s7) (s8) (s9) (s10) (s11.set x128.toNat (List.drop (IntKind.i64.wrap (x130 + (1 : Int))).toNat x135)) (x139.fst) (((s13.set x128.toNat (x134.fst,x134.snd.fst,x134.snd.snd.fst,x134.snd.snd.snd.fst,x134.snd.snd.snd.snd.fst,x134.snd.snd.snd.snd.snd.fst,x134.snd.snd.snd.snd.snd.snd)).set x128.toNat (x139.snd.fst,x139.snd.snd.fst,x139.snd.snd.snd.fst,x139.snd.snd.snd.snd.fst,x139.snd.snd.snd.snd.snd.fst,x139.snd.snd.snd.snd.snd.snd.fst,x139.snd.snd.snd.snd.snd.snd.snd)).set x128.toNat ((-1 : Int),(0 : Int),(0 : Int),(0 : Int),(0 : Int),(0 : Int),(0 : Int))) (IntKind.i64.wrap (s66 + (1 : Int))) (s67) (s68) ((7 : Nat)) (s70 ++ [(x139.snd.fst,x139.snd.snd.fst,x139.snd.snd.snd.fst,x139.snd.snd.snd.snd.fst,x139.snd.snd.snd.snd.snd.fst,x139.snd.snd.snd.snd.snd.snd.fst,x139.snd.snd.snd.snd.snd.snd.snd)])
                    else
                     none
                   else
                    none)
                  else
                   g_event_Play_L0 k v0 v1  n (s7) (s8) (s9) (s10) (s11.set x128.toNat (List.drop (IntKind.i64.wrap (x130 + (1 : Int))).toNat x135)) (x139.fst) ((s13.set x128.toNat (x134.fst,x134.snd.fst,x134.snd.snd.fst,x134.snd.snd.snd.fst,x134.snd.snd.snd.snd.fst,x134.snd.snd.snd.snd.snd.fst,x134.snd.snd.snd.snd.snd.snd)).set x128.toNat (x139.snd.fst,x139.snd.snd.fst,x139.snd.snd.snd.fst,x139.snd.snd.snd.snd.fst,x139.snd.snd.snd.snd.snd.fst,x139.snd.snd.snd.snd.snd.snd.fst,x139.snd.snd.snd.snd.snd.snd.snd)) (IntKind.i64.wrap (s66 + (1 : Int))) (s67) (s68) (s69) (s70)
                 else
                  none
                else
                 none
               else
                none
              else
               none
             else
              none
            else
             none
           else
            none
          else
           bif decide ((0 : Int) ≤ x128 ∧ x128.toNat < s68.length) then
            ob (s13[x128.toNat]?) fun x143 =>
            ob (g_event_Step (k + (20 : Nat)) (s7,s8,s9,s10) s12 (x143.fst,x143.snd.fst,x143.snd.snd.fst,x143.snd.snd.snd.fst,x143.snd.snd.snd.snd.fst,x143.snd.snd.snd.snd.snd.fst,x143.snd.snd.snd.snd.snd.snd)) fun x144 =>
            bif decide ((0 : Int) ≤ x128 ∧ x128.toNat < s68.length) then
             ob (s13[x128.toNat]?) fun x145 =>
             ob (g_frame_Over (x144.snd.fst,x144.snd.snd.fst,x144.snd.snd.snd.fst,x144.snd.snd.snd.snd.fst,x144.snd.snd.snd.snd.snd.fst,x144.snd.snd.snd.snd.snd.snd.fst,x144.snd.snd.snd.snd.snd.snd.snd)) fun x146 =>
             bif x146 then
              ck (s69 == (7 : Nat) || s69 == (0 : Nat)) (
              bif room (s70 ++ [(x144.snd.fst,x144.snd.snd.fst,x144.snd.snd.snd.fst,x144.snd.snd.snd.snd.fst,x144.snd.snd.snd.snd.snd.fst,x144.snd.snd.snd.snd.snd.snd.fst,x144.snd.snd.snd.snd.snd.snd.snd)]).length (56 : Nat) then
               bif decide ((0 : Int) ≤ x128 ∧ x128.toNat < s68.length) then
                ob ((s13.set x128.toNat (x144.snd.fst,x144.snd.snd.fst,x144.snd.snd.snd.fst,x144.snd.snd.snd.snd.fst,x144.snd.snd.snd.snd.snd.fst,x144.snd.snd.snd.snd.snd.snd.fst,x144.snd.snd.snd.snd.snd.snd.snd))[x128.toNat]?) fun x147 =>
                g_event_Play_L0 k v0 v1  n (s7) (s8) (s9) (s10) (s11) (x144.fst) ((s13.set x128.toNat (x144.snd.fst,x144.snd.snd.fst,x144.snd.snd.snd.fst,x144.snd.snd.snd.snd.fst,x144.snd.snd.snd.snd.snd.fst,x144.snd.snd.snd.snd.snd.snd.fst,x144.snd.snd.snd.snd.snd.snd.snd)).set x128.toNat ((-1 : Int),(0 : Int),(0 : Int),(0 : Int),(0 : Int),(0 : Int),(0 : Int))) (IntKind.i64.wrap (s66 + (1 : Int))) (s67) (s68) ((7 : Nat)) (s70 ++ [(x144.snd.fst,x144.snd.snd.fst,x144.snd.snd.snd.fst,x144.snd.snd.snd.snd.fst,x144.snd.snd.snd.snd.snd.fst,x144.snd.snd.snd.snd.snd.snd.fst,x144.snd.snd.snd.snd.snd.snd.snd)])
               else
                none
              else
               none)
             else
              g_event_Play_L0 k v0 v1  n (s7) (s8) (s9) (s10) (s11) (x144.fst) (s13.set x128.toNat (x144.snd.fst,x144.snd.snd.fst,x144.snd.snd.snd.fst,x144.snd.snd.snd.snd.fst,x144.snd.snd.snd.snd.snd.fst,x144.snd.snd.snd.snd.snd.snd.fst,x144.snd.snd.snd.snd.snd.snd.snd)) (IntKind.i64.wrap (s66 + (1 : Int))) (s67) (s68) (s69) (s70)
            else
             none
           else
            none
         else
          bif decide ((0 : Int) ≤ x128 ∧ x128.toNat < s68.length) then
           ob (s13[x128.toNat]?) fun x148 =>
           ob (g_event_Step (k + (20 : Nat)) (s7,s8,s9,s10) s12 (x148.fst,x148.snd.fst,x148.snd.snd.fst,x148.snd.snd.snd.fst,x148.snd.snd.snd.snd.fst,x148.snd.snd.snd.snd.snd.fst,x148.snd.snd.snd.snd.snd.snd)) fun x149 =>
           bif decide ((0 : Int) ≤ x128 ∧ x128.toNat < s68.length) then
            ob (s13[x128.toNat]?) fun x150 =>
            ob (g_frame_Over (x149.snd.fst,x149.snd.snd.fst,x149.snd.snd.snd.fst,x149.snd.snd.snd.snd.fst,x149.snd.snd.snd.snd.snd.fst,x149.snd.snd.snd.snd.snd.snd.fst,x149.snd.snd.snd.snd.snd.snd.snd)) fun x151 =>
            bif x151 then
             ck (s69 == (7 : Nat) || s69 == (0 : Nat)) (
             bif room (s70 ++ [(x149.snd.fst,x149.snd.snd.fst,x149.snd.snd.snd.fst,x149.snd.snd.snd.snd.fst,x149.snd.snd.snd.snd.snd.fst,x149.snd.snd.snd.snd.snd.snd.fst,x149.snd.snd.snd.snd.snd.snd.snd)]).length (56 : Nat) then
              bif decide ((0 : Int) ≤ x128 ∧ x128.toNat < s68.length) then
               ob ((s13.set x128.toNat (x149.snd.fst,x149.snd.snd.fst,x149.snd.snd.snd.fst,x149.snd.snd.snd.snd.fst,x149.snd.snd.snd.snd.snd.fst,x149.snd.snd.snd.snd.snd.snd.fst,x149.snd.snd.snd.snd.snd.snd.snd))[x128.toNat]?) fun x152 =>
               g_event_Play_L0 k v0 v1  n (s7) (s8) (s9) (s10) (s11) (x149.fst) ((s13.set x128.toNat (x149.snd.fst,x149.snd.snd.fst,x149.snd.snd.snd.fst,x149.snd.snd.snd.snd.fst,x149.snd.snd.snd.snd.snd.fst,x149.snd.snd.snd.snd.snd.snd.fst,x149.snd.snd.snd.snd.snd.snd.snd)).set x128.toNat ((-1 : Int),(0 : Int),(0 : Int),(0 : Int),(0 : Int),(0 : Int),(0 : Int))) (IntKind.i64.wrap (s66 + (1 : Int))) (s67) (s68) ((7 : Nat)) (s70 ++ [(x149.snd.fst,x149.snd.snd.fst,x149.snd.snd.snd.fst,x149.snd.snd.snd.snd.fst,x149.snd.snd.snd.snd.snd.fst,x149.snd.snd.snd.snd.snd.snd.fst,x149.snd.snd.snd.snd.snd.snd.snd)])
              else
               none
             else
              none)
            else
             g_event_Play_L0 k v0 v1  n (s7) (s8) (s9) (s10) (s11) (x149.fst) (s13.set x128.toNat (x149.snd.fst,x149.snd.snd.fst,x149.snd.snd.snd.fst,x149.snd.snd.snd.snd.fst,x149.snd.snd.snd.snd.snd.fst,x149.snd.snd.snd.snd.snd.snd.fst,x149.snd.snd.snd.snd.snd.snd.snd)) (IntKind.i64.wrap (s66 + (1 : Int))) (s67) (s68) (s69) (s70)
           else
            none
          else
           none
        else
         none
       else
        none
      else
       g_event_Play_L0 k v0 v1  n (s7) (s8) (s9) (s10) (s11) (s12) (s13) (IntKind.i64.wrap (s66 + (1 : Int))) (s67) (s68) (s69) (s70)
     else
      g_event_Play_L0 k v0 v1  n (s7) (s8) (s9) (s10) (s11) (s12) (s13) (IntKind.i64.wrap (s66 + (1 : Int))) (s67) (s68) (s69) (s70)
    else
     ck (decide (s68.length ≤ s13.length)) (
     some ((s12),(s70),(List.take s68.length s13)))
theorem g_event_Play_L0_eq (k : Nat) (v0 : (List (List Int))) (v1 : (List Int)) : ∀ (n : Nat) (s7 : Int) (s8 : Int) (s9 : Int) (s10 : Int) (s11 : List (List Int)) (s12 : List Int) (s13 : List (Int × Int × Int × Int × Int × Int × Int)) (s66 : Int) (s67 : List (List Int)) (s68 : List (Int × Int × Int × Int × Int × Int × Int)) (s69 : Nat) (s70 : List (Int × Int × Int × Int × Int × Int × Int)) ⦃s14 : Bool⦄ ⦃s15 : Bool⦄ ⦃s71 : Nat⦄ ⦃s72 : List Int⦄ ⦃j65 : V⦄,rt none (bq (itX (xX (xS (k + (38 : Nat))) (100 : Nat) (0 : Nat) (k + (38 : Nat)) false) xl100_0 ((19 : Nat)) (runK (xX (xS (k + (38 : Nat))) (100 : Nat) (0 : Nat) (k + (38 : Nat)) false) (bodyK (xS (k + (38 : Nat))).P Try.f100) xk100_0) n ⟨[V.yld (18 : Nat),V.ptr (16 : Nat) (0 : Nat) (0 : Nat) (0 : Nat),V.ptr (17 : Nat) (0 : Nat) (0 : Nat) (0 : Nat),uu,uu,j65,V.ro (List.map (intR IntKind.i64) v1),V.lit (Value.int IntKind.i64 (↑v1.length : Int)),V.lit (Value.int IntKind.i64 s66),V.junk,V.junk,V.junk,V.junk,V.junk,V.junk,V.junk,V.junk,V.junk,V.junk,V.junk,V.junk,V.junk,V.junk,V.junk,V.junk,V.junk],[B.rows (0 : Nat) [] (0 : Nat) true,B.rows (0 : Nat) [] (0 : Nat) true,B.rows (0 : Nat) [] (0 : Nat) true,B.box [V.lit (Value.int IntKind.i64 s7),V.lit (Value.int IntKind.i64 s8),V.lit (Value.int IntKind.i64 s9),V.lit (Value.int IntKind.i64 s10)],B.rows (1 : Nat) (List.map listV s11) (0 : Nat) true,B.rows (0 : Nat) [] (0 : Nat) true,B.box [V.ro (List.map (intR IntKind.u64) s12)],B.rows (0 : Nat) [] (0 : Nat) true,B.box [V.own (4 : Nat) (0 : Nat) s67.length],B.rows (7 : Nat) (List.map frameV [((-1 : Int),(0 : Int),(0 : Int),(0 : Int),(0 : Int),(0 : Int),(0 : Int))]) (0 : Nat) false,B.rows (7 : Nat) (List.map frameV s13) (0 : Nat) true,B.rows (0 : Nat) [] (0 : Nat) true,B.box [V.own (10 : Nat) (0 : Nat) s68.length],B.rows s69 (List.map frameV s70) s71 true,B.box [V.own (13 : Nat) s71 s70.length],B.box [V.fn (Fn.func (85 : FuncId)) [] []],B.box [V.ro (List.map (intR IntKind.i64) v1)],B.box [V.lit (Value.int IntKind.i64 s7)],(B.loop ⟨LoopState.ready,none,(46 : Nat),(V.ro (List.map listV v0) :: V.ro (List.map (intR IntKind.i64) v1) :: uu :: uu :: V.own (0 : Nat) (0 : Nat) (0 : Nat) :: V.own (1 : Nat) (0 : Nat) (0 : Nat) :: V.own (2 : Nat) (0 : Nat) (0 : Nat) :: V.ptr (3 : Nat) (0 : Nat) (0 : Nat) (0 : Nat) :: V.ptr (6 : Nat) (0 : Nat) (0 : Nat) (0 : Nat) :: V.ptr (8 : Nat) (0 : Nat) (0 : Nat) (0 : Nat) :: V.ptr (12 : Nat) (0 : Nat) (0 : Nat) (0 : Nat) :: V.ptr (14 : Nat) (0 : Nat) (0 : Nat) (0 : Nat) :: V.ptr (15 : Nat) (0 : Nat) (0 : Nat) (0 : Nat) :: uu :: uu :: uu :: uu :: V.ro (List.map listV v0) :: V.lit (Value.int IntKind.i64 (↑v0.length : Int)) :: V.agg [V.lit (Value.int IntKind.i64 s7),V.lit (Value.int IntKind.i64 s8),V.lit (Value.int IntKind.i64 s9),V.lit (Value.int IntKind.i64 s10)] :: V.agg [V.lit (Value.int IntKind.i64 s7),V.lit (Value.int IntKind.i64 s8),V.lit (Value.int IntKind.i64 s9),V.lit (Value.int IntKind.i64 s10)] :: V.lit (Value.bool s14) :: V.lit (Value.bool s15) :: V.agg [V.lit (Value.int IntKind.i64 s7),V.lit (Value.int IntKind.i64 s8),V.lit (Value.int IntKind.i64 s9),V.lit (Value.int IntKind.i64 s10)] :: V.ro (List.map (intR IntKind.u64) s72) :: V.ro (List.map listV v0) :: V.own (4 : Nat) (0 : Nat) s67.length :: V.agg [V.lit (Value.int IntKind.i64 (-1 : Int)),V.lit (Value.int IntKind.i64 (0 : Int)),V.lit (Value.int IntKind.i64 (0 : Int)),V.lit (Value.int IntKind.u64 (0 : Int)),V.lit (Value.int IntKind.u64 (0 : Int)),V.lit (Value.int IntKind.u64 (0 : Int)),V.lit (Value.int IntKind.i64 (0 : Int))] :: V.own (9 : Nat) (0 : Nat) (1 : Nat) :: V.ptr (3 : Nat) (0 : Nat) (0 : Nat) (0 : Nat) :: V.lit (Value.int IntKind.i64 s7) :: V.own (10 : Nat) (0 : Nat) s68.length :: V.ro (List.map (intR IntKind.i64) v1) :: V.ptr (3 : Nat) (0 : Nat) (0 : Nat) (0 : Nat) :: V.lit (Value.int IntKind.i64 s7) :: V.fn (Fn.func (100 : FuncId)) [] [V.ptr (16 : Nat) (0 : Nat) (0 : Nat) (0 : Nat),V.ptr (17 : Nat) (0 : Nat) (0 : Nat) (0 : Nat)] :: uu :: uu :: uu :: uu :: uu :: uu :: uu :: uu :: uu :: uu :: uu :: uu :: uu :: uu :: uu :: uu :: uu :: uu :: uu :: uu :: uu :: uu :: uu :: uu :: uu :: uu :: uu :: uu :: uu :: uu :: uu :: uu :: uu :: uu :: uu :: uu :: uu :: uu :: uu :: uu :: uu :: uu :: uu :: uu :: uu :: uu :: uu :: uu :: uu :: uu :: uu :: uu :: uu :: uu :: uu :: uu :: uu :: uu :: uu :: uu :: uu :: uu :: uu :: uu :: uu :: uu :: uu :: []),[(36 : Tmp)],xl46_0,xl46_1⟩)]⟩) (rfK (runK (xX (xS (k + (39 : Nat))) (46 : Nat) (0 : Nat) (k + (39 : Nat)) false) (bodyK (xS (k + (39 : Nat))).P Try.f46) xk46_0) (V.ro (List.map listV v0) :: V.ro (List.map (intR IntKind.i64) v1) :: uu :: uu :: V.own (0 : Nat) (0 : Nat) (0 : Nat) :: V.own (1 : Nat) (0 : Nat) (0 : Nat) :: V.own (2 : Nat) (0 : Nat) (0 : Nat) :: V.ptr (3 : Nat) (0 : Nat) (0 : Nat) (0 : Nat) :: V.ptr (6 : Nat) (0 : Nat) (0 : Nat) (0 : Nat) :: V.ptr (8 : Nat) (0 : Nat) (0 : Nat) (0 : Nat) :: V.ptr (12 : Nat) (0 : Nat) (0 : Nat) (0 : Nat) :: V.ptr (14 : Nat) (0 : Nat) (0 : Nat) (0 : Nat) :: V.ptr (15 : Nat) (0 : Nat) (0 : Nat) (0 : Nat) :: uu :: uu :: uu :: uu :: V.ro (List.map listV v0) :: V.lit (Value.int IntKind.i64 (↑v0.length : Int)) :: V.agg [V.lit (Value.int IntKind.i64 s7),V.lit (Value.int IntKind.i64 s8),V.lit (Value.int IntKind.i64 s9),V.lit (Value.int IntKind.i64 s10)] :: V.agg [V.lit (Value.int IntKind.i64 s7),V.lit (Value.int IntKind.i64 s8),V.lit (Value.int IntKind.i64 s9),V.lit (Value.int IntKind.i64 s10)] :: V.lit (Value.bool s14) :: V.lit (Value.bool s15) :: V.agg [V.lit (Value.int IntKind.i64 s7),V.lit (Value.int IntKind.i64 s8),V.lit (Value.int IntKind.i64 s9),V.lit (Value.int IntKind.i64 s10)] :: V.ro (List.map (intR IntKind.u64) s72) :: V.ro (List.map listV v0) :: V.own (4 : Nat) (0 : Nat) s67.length :: V.agg [V.lit (Value.int IntKind.i64 (-1 : Int)),V.lit (Value.int IntKind.i64 (0 : Int)),V.lit (Value.int IntKind.i64 (0 : Int)),V.lit (Value.int IntKind.u64 (0 : Int)),V.lit (Value.int IntKind.u64 (0 : Int)),V.lit (Value.int IntKind.u64 (0 : Int)),V.lit (Value.int IntKind.i64 (0 : Int))] :: V.own (9 : Nat) (0 : Nat) (1 : Nat) :: V.ptr (3 : Nat) (0 : Nat) (0 : Nat) (0 : Nat) :: V.lit (Value.int IntKind.i64 s7) :: V.own (10 : Nat) (0 : Nat) s68.length :: V.ro (List.map (intR IntKind.i64) v1) :: V.ptr (3 : Nat) (0 : Nat) (0 : Nat) (0 : Nat) :: V.lit (Value.int IntKind.i64 s7) :: V.fn (Fn.func (100 : FuncId)) [] [V.ptr (16 : Nat) (0 : Nat) (0 : Nat) (0 : Nat),V.ptr (17 : Nat) (0 : Nat) (0 : Nat) (0 : Nat)] :: uu :: uu :: uu :: uu :: uu :: uu :: uu :: uu :: uu :: uu :: uu :: uu :: uu :: uu :: uu :: uu :: uu :: uu :: uu :: uu :: uu :: uu :: uu :: uu :: uu :: uu :: uu :: uu :: uu :: uu :: uu :: uu :: uu :: uu :: uu :: uu :: uu :: uu :: uu :: uu :: uu :: uu :: uu :: uu :: uu :: uu :: uu :: uu :: uu :: uu :: uu :: uu :: uu :: uu :: uu :: uu :: uu :: uu :: uu :: uu :: uu :: uu :: uu :: uu :: uu :: uu :: uu :: []) ((18 : Nat)))) = ob (g_event_Play_L0 k v0 v1  n s7 s8 s9 s10 s11 s12 s13 s66 s67 s68 s69 s70) fun r => some ((.tup [(.ro (List.map (intR .u64) r.1)),(.ro (List.map frameV r.2.1)),(.ro (List.map frameV r.2.2))]),[]) := by
  intro n
  induction n with
  | zero => intros; rfl
  | succ n ih =>
    intro s7 s8 s9 s10 s11 s12 s13 s66 s67 s68 s69 s70 s14 s15 s71 s72 j65
    rw [g_event_Play_L0]
    simp (maxSteps := 2000000) -implicitDefEqProofs only [xe46,xb46,xz46,xj46_0,xq46_1_1_1_1_1_1_1_0_1_0_1,xq46_1_1_1_1_1_1_1_0_1_0_0,xm46_1,xj46_2,xk46_0_ret,xk46_1_ret,xk46_2_ret,xq46_0_eq,xe85,xb85,xm85_0,xm85_1,xk85_0_ret,xe86,xb86,xC_eq (g := 86),xe87,xb87,xz87,xj87_0,xk87_0_ret,xe100,xb100,xz100,xj100_0,xm100_1,xm100_2,xk100_0_ret,xk100_1_ret,↓syP,syA,rtN,pureL,V.pure,nsh,stBk,V.kill,killL,spl,V.shift,shiftL,V.scal,scalL,intR,boolR,threeV,Nat.reduceAdd,Nat.reduceSub,Nat.reduceMul,Nat.reduceLT,Nat.reduceLeDiff,Nat.reduceEqDiff,Nat.reduceBEq,Nat.reduceBNe,Int.reduceBEq,Int.reduceBNe,Int.reduceLT,Int.reduceLE,Int.reduceAdd,Int.reduceSub,Int.reduceNeg,syQ,confV,frameV,listV,xF,xcallV,xcallC,xcallL,xcallY,xevY,xY_ready,xrange,xG_fn,xR,xA,xcl50,xclk50,xcl83,xclk83,xrp84,xrq84,awk14',awk15',h_lay_May,h_frame_Over,h_frame_Begin,h_event_layout,h_lay_New,h_event_Step,h_slices_IndexFunc_int_event_Play_1,xr100_0,ih]
    all_goals simp -implicitDefEqProofs only [List.map_nil]
def g_event_Play (k : Nat) (v0 : (List (List Int))) (v1 : (List Int)) : Option ((List Int) × (List (Int × Int × Int × Int × Int × Int × Int)) × (List (Int × Int × Int × Int × Int × Int × Int))) :=
  ob (g_event_layout (↑v0.length : Int)) fun x153 =>
  ob (g_lay_May (x153.fst,x153.snd.fst,x153.snd.snd.fst,x153.snd.snd.snd)) fun x154 =>
  bif !x154 then
   some ([],[],[])
  else
   ob (g_lay_New (k + (35 : Nat)) (x153.fst,x153.snd.fst,x153.snd.snd.fst,x153.snd.snd.snd)) fun x155 =>
   ob (g_clone (24 : Nat) v0) fun x156 =>
   ob (g_rep ((-1 : Int),(0 : Int),(0 : Int),(0 : Int),(0 : Int),(0 : Int),(0 : Int)) x153.fst) fun x157 =>
   g_event_Play_L0 k v0 v1 (k + (38 : Nat)) (x153.fst) (x153.snd.fst) (x153.snd.snd.fst) (x153.snd.snd.snd) (x156) (x155) (x157) ((0 : Int)) (x156) (x157) ((0 : Nat)) ([])
theorem h_event_Play (k : Nat) (v0 : (List (List Int))) (v1 : (List Int)) : xC (k + 40) none 46 [(.ro (List.map listV v0)),(.ro (List.map (intR .i64) v1))] = ob (g_event_Play k v0 v1) fun r => some ((.tup [(.ro (List.map (intR .u64) r.1)),(.ro (List.map frameV r.2.1)),(.ro (List.map frameV r.2.2))]),[]) := by
  rw [xC_eq]
  unfold g_event_Play
  have hl0 := fun (x158 : Int × Int × Int × Int) (x161 : List (List Int)) (x160 : List Int) (x162 : List (Int × Int × Int × Int × Int × Int × Int)) => g_event_Play_L0_eq k v0 v1 (k + (38 : Nat)) (x158.fst) (x158.snd.fst) (x158.snd.snd.fst) (x158.snd.snd.snd) (x161) (x160) (x162) ((0 : Int)) (x161) (x162) ((0 : Nat)) ([])
  try simp -implicitDefEqProofs only [List.map_nil,List.length_nil] at hl0
  simp (maxSteps := 2000000) -implicitDefEqProofs only [xe46,xb46,xz46,xj46_0,xq46_1_1_1_1_1_1_1_0_1_0_1,xq46_1_1_1_1_1_1_1_0_1_0_0,xm46_1,xj46_2,xk46_0_ret,xk46_1_ret,xk46_2_ret,xq46_0_eq,xe85,xb85,xm85_0,xm85_1,xk85_0_ret,xe86,xb86,xC_eq (g := 86),xe87,xb87,xz87,xj87_0,xk87_0_ret,xe100,xb100,xz100,xj100_0,xm100_1,xm100_2,xk100_0_ret,xk100_1_ret,↓syP,syA,rtN,pureL,V.pure,nsh,stBk,V.kill,killL,spl,V.shift,shiftL,V.scal,scalL,intR,boolR,threeV,Nat.reduceAdd,Nat.reduceSub,Nat.reduceMul,Nat.reduceLT,Nat.reduceLeDiff,Nat.reduceEqDiff,Nat.reduceBEq,Nat.reduceBNe,Int.reduceBEq,Int.reduceBNe,Int.reduceLT,Int.reduceLE,Int.reduceAdd,Int.reduceSub,Int.reduceNeg,syQ,confV,frameV,listV,xF,xcallV,xcallC,xcallL,xcallY,xevY,xY_ready,xrange,xG_fn,xR,xA,xcl50,xclk50,xcl83,xclk83,xrp84,xrq84,awk14',awk15',h_lay_May,h_event_layout,h_lay_New,g_event_Play_L0_eq k v0 v1,hl0]
  all_goals simp -implicitDefEqProofs only [List.map_nil]
def g_event_States_L0 (k : Nat) (v0 : (List (List Int))) (v1 : (List Int)) (v2 : Int)  : Nat → List Int → List (Int × Int × Int × Int × Int × Int × Int) → Int → Int → Int → Int → Int → Int → Int → Option Int
  | 0,_,_,_,_,_,_,_,_,_ => none
  | n + 1,s167,s169,s170,s171,s172,s173,s174,s177,s188 =>
    bif decide (s188 < s174) then
     ob (idx s169 s188) fun x200 =>
     ob (g_note_Owes (x200.fst,x200.snd.fst,x200.snd.snd.fst,x200.snd.snd.snd.fst,x200.snd.snd.snd.snd.fst,x200.snd.snd.snd.snd.snd.fst,x200.snd.snd.snd.snd.snd.snd) v2) fun x201 =>
     bif x201 then
      g_event_States_L0 k v0 v1 v2  n (s167) (s169) (s170) (s171) (s172) (s173) (s174) (IntKind.i64.wrap (s177 + (1 : Int))) (IntKind.i64.wrap (s188 + (1 : Int)))
     else
      g_event_States_L0 k v0 v1 v2  n (s167) (s169) (s170) (s171) (s172) (s173) (s174) (s177) (IntKind.i64.wrap (s188 + (1 : Int)))
    else
     ob (g_lay_Park (s170,s171,s172,s173) v2) fun x202 =>
     ob (g_cell_Load s167 x202) fun x203 =>
     bif x203 != (0 : Int) then
      some (IntKind.i64.wrap (s177 + (1 : Int)))
     else
      some (s177)
theorem g_event_States_L0_eq (k : Nat) (v0 : (List (List Int))) (v1 : (List Int)) (v2 : Int) : ∀ (n : Nat) (s167 : List Int) (s169 : List (Int × Int × Int × Int × Int × Int × Int)) (s170 : Int) (s171 : Int) (s172 : Int) (s173 : Int) (s174 : Int) (s177 : Int) (s188 : Int) ⦃s168 : List (Int × Int × Int × Int × Int × Int × Int)⦄ ⦃s175 : Bool⦄ ⦃s176 : Bool⦄ ⦃j178 j179 j187 : V⦄,rt none (itX (xX (xS (k + (40 : Nat))) (47 : Nat) (0 : Nat) (k + (40 : Nat)) false) xl47_0 ((1 : Nat)) (runK (xX (xS (k + (40 : Nat))) (47 : Nat) (0 : Nat) (k + (40 : Nat)) false) (bodyK (xS (k + (40 : Nat))).P Try.f47) xk47_2) n ⟨[V.ro (List.map listV v0),V.ro (List.map (intR IntKind.i64) v1),V.lit (Value.int IntKind.i64 v2),uu,uu,uu,V.lit (Value.int IntKind.i64 (0 : Int)),V.ro (List.map (intR IntKind.u64) s167),V.ro (List.map frameV s168),V.ro (List.map frameV s169),V.ptr (0 : Nat) (0 : Nat) (0 : Nat) (0 : Nat),V.lit (Value.int IntKind.i64 s177),uu,j187,V.tup [V.ro (List.map (intR IntKind.u64) s167),V.ro (List.map frameV s168),V.ro (List.map frameV s169)],V.ro (List.map listV v0),V.ro (List.map (intR IntKind.i64) v1),V.tup [V.ro (List.map (intR IntKind.u64) s167),V.ro (List.map frameV s168),V.ro (List.map frameV s169)],V.ro (List.map (intR IntKind.u64) s167),V.ro (List.map frameV s168),V.ro (List.map frameV s169),V.ro (List.map listV v0),V.lit (Value.int IntKind.i64 (↑v0.length : Int)),V.agg [V.lit (Value.int IntKind.i64 s170),V.lit (Value.int IntKind.i64 s171),V.lit (Value.int IntKind.i64 s172),V.lit (Value.int IntKind.i64 s173)],V.lit (Value.int IntKind.i64 v2),V.lit (Value.bool (decide (v2 < (0 : Int)))),V.lit (Value.bool false),V.lit (Value.int IntKind.i64 v2),V.ro (List.map frameV s169),V.lit (Value.int IntKind.i64 s174),V.lit (Value.bool s175),V.lit (Value.bool s175),V.agg [V.lit (Value.int IntKind.i64 s170),V.lit (Value.int IntKind.i64 s171),V.lit (Value.int IntKind.i64 s172),V.lit (Value.int IntKind.i64 s173)],V.ro (List.map (intR IntKind.u64) s167),V.lit (Value.int IntKind.i64 v2),V.lit (Value.bool s176),j178,j179,V.ro (List.map frameV s169),V.lit (Value.int IntKind.i64 s174),V.lit (Value.int IntKind.i64 s188),V.junk,V.junk,V.junk,V.junk,V.junk,V.junk,V.junk,V.junk,V.junk,uu,uu,uu,uu,uu,uu,uu,uu,uu],[B.box [V.lit (Value.int IntKind.i64 s170),V.lit (Value.int IntKind.i64 s171),V.lit (Value.int IntKind.i64 s172),V.lit (Value.int IntKind.i64 s173)]]⟩) = ob (g_event_States_L0 k v0 v1 v2  n s167 s169 s170 s171 s172 s173 s174 s177 s188) fun r => some ((.lit (.int .i64 r)),[]) := by
  intro n
  induction n with
  | zero => intros; rfl
  | succ n ih =>
    intro s167 s169 s170 s171 s172 s173 s174 s177 s188 s168 s175 s176 j178 j179 j187
    rw [g_event_States_L0]
    simp (maxSteps := 2000000) -implicitDefEqProofs only [xe47,xb47,xz47,xm47_0,xj47_1,xj47_2,xj47_3,xk47_0_ret,xk47_1_ret,xk47_2_ret,xk47_3_ret,↓syP,syA,rtN,pureL,V.pure,nsh,stBk,V.kill,killL,spl,V.shift,shiftL,V.scal,scalL,intR,boolR,threeV,Nat.reduceAdd,Nat.reduceSub,Nat.reduceMul,Nat.reduceLT,Nat.reduceLeDiff,Nat.reduceEqDiff,Nat.reduceBEq,Nat.reduceBNe,Int.reduceBEq,Int.reduceBNe,Int.reduceLT,Int.reduceLE,Int.reduceAdd,Int.reduceSub,Int.reduceNeg,syQ,confV,frameV,listV,xF,xcallV,xcallC,xcallL,xcallY,xevY,xY_ready,xrange,xG_fn,xR,xA,xcl50,xclk50,xcl83,xclk83,xrp84,xrq84,awk14',awk15',h_lay_Park,h_cell_Load,h_wait_Waits,h_note_Owes,h_event_layout,h_event_Play,xr47_0,ih]
    all_goals simp -implicitDefEqProofs only [List.map_nil]
def g_event_States (k : Nat) (v0 : (List (List Int))) (v1 : (List Int)) (v2 : Int) : Option Int :=
  ob (g_event_Play k v0 v1) fun x204 =>
  ob (g_event_layout (↑v0.length : Int)) fun x205 =>
  bif decide (v2 < (0 : Int)) then
   some ((-1 : Int))
  else
   bif decide ((↑x204.snd.snd.length : Int) ≤ v2) then
    some ((-1 : Int))
   else
    ob (g_wait_Waits (x205.fst,x205.snd.fst,x205.snd.snd.fst,x205.snd.snd.snd) x204.fst v2) fun x206 =>
    bif x206 then
     g_event_States_L0 k v0 v1 v2 (k + (40 : Nat)) (x204.fst) (x204.snd.snd) (x205.fst) (x205.snd.fst) (x205.snd.snd.fst) (x205.snd.snd.snd) ((↑x204.snd.snd.length : Int)) (IntKind.i64.wrap (1 : Int)) ((0 : Int))
    else
     g_event_States_L0 k v0 v1 v2 (k + (40 : Nat)) (x204.fst) (x204.snd.snd) (x205.fst) (x205.snd.fst) (x205.snd.snd.fst) (x205.snd.snd.snd) ((↑x204.snd.snd.length : Int)) ((0 : Int)) ((0 : Int))
theorem h_event_States (k : Nat) (v0 : (List (List Int))) (v1 : (List Int)) (v2 : Int) : xC (k + 41) none 47 [(.ro (List.map listV v0)),(.ro (List.map (intR .i64) v1)),(.lit (.int .i64 v2))] = ob (g_event_States k v0 v1 v2) fun r => some ((.lit (.int .i64 r)),[]) := by
  rw [xC_eq]
  unfold g_event_States
  simp (maxSteps := 2000000) -implicitDefEqProofs only [xe47,xb47,xz47,xm47_0,xj47_1,xj47_2,xj47_3,xk47_0_ret,xk47_1_ret,xk47_2_ret,xk47_3_ret,↓syP,syA,rtN,pureL,V.pure,nsh,stBk,V.kill,killL,spl,V.shift,shiftL,V.scal,scalL,intR,boolR,threeV,Nat.reduceAdd,Nat.reduceSub,Nat.reduceMul,Nat.reduceLT,Nat.reduceLeDiff,Nat.reduceEqDiff,Nat.reduceBEq,Nat.reduceBNe,Int.reduceBEq,Int.reduceBNe,Int.reduceLT,Int.reduceLE,Int.reduceAdd,Int.reduceSub,Int.reduceNeg,syQ,confV,frameV,listV,xF,xcallV,xcallC,xcallL,xcallY,xevY,xY_ready,xrange,xG_fn,xR,xA,xcl50,xclk50,xcl83,xclk83,xrp84,xrq84,awk14',awk15',h_wait_Waits,h_event_layout,h_event_Play,g_event_States_L0_eq k v0 v1 v2]
  all_goals simp -implicitDefEqProofs only [List.map_nil]
end Go.Ab
