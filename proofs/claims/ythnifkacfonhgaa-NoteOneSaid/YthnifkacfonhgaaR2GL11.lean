/- Functions as they are walked: printed by Walk.lean. -/
import Derived.Test.YthnifkacfonhgaaR2GA
import Derived.Test.YthnifkacfonhgaaR2Awk
import Derived.Test.YthnifkacfonhgaaR2BL11
set_option maxRecDepth 100000
set_option linter.unusedVariables false
set_option linter.unusedSimpArgs false
namespace Go.Ab
open Go.Proofs
def g_poacherlaw15_NoteOne (k : Nat) (v0 : (Int × Int × Int × Int)) (v1 : (List Int)) (v2 : Bool) (v3 : Int) : Option Bool :=
  bif v2 then
   ob (g_frame_Begin (7 : Int) (0 : Int) (0 : Int)) fun x67 =>
   bif decide ((500 : Int) < (↑v1.length : Int)) then
    some (true)
   else
    ob (g_note_Goes (v0.1, v0.2.1, v0.2.2.1, v0.2.2.2) v1 (x67.fst, x67.snd.fst, x67.snd.snd.fst, x67.snd.snd.snd.fst, x67.snd.snd.snd.snd.fst, x67.snd.snd.snd.snd.snd.fst, x67.snd.snd.snd.snd.snd.snd)) fun x68 =>
    bif !x68 then
     some (true)
    else
     bif decide (v3 < (0 : Int)) then
      some (true)
     else
      bif decide (v0.1 ≤ v3) then
       some (true)
      else
       bif decide ((7 : Int) < v3) then
        some (true)
       else
        ob (g_lay_Park (v0.1, v0.2.1, v0.2.2.1, v0.2.2.2) v3) fun x69 =>
        ob (g_cell_Store v1 x69 (0 : Int)) fun x70 =>
        ob (g_cell_Load x70 (2 : Int)) fun x71 =>
        ob (g_word_Mask x71) fun x72 =>
        ob (g_poacherlaw15_alone (k + (43 : Nat)) (v0.1, v0.2.1, v0.2.2.1, v0.2.2.2) x70 (x67.fst, x67.snd.fst, x67.snd.snd.fst, x67.snd.snd.snd.fst, x67.snd.snd.snd.snd.fst, x67.snd.snd.snd.snd.snd.fst, x67.snd.snd.snd.snd.snd.snd)) fun x73 =>
        ob (g_lay_Park (v0.1, v0.2.1, v0.2.2.1, v0.2.2.2) v3) fun x74 =>
        ob (g_cell_Load x73.fst x74) fun x75 =>
        bif decide ((0 : Int) ≤ v3) then
         bif shlI IntKind.u64 (1 : Int) v3 != (0 : Int) then
          bif (IntKind.u64.wrap (x72.tdiv (shlI IntKind.u64 (1 : Int) v3))).tmod (2 : Int) == (1 : Int) then
           bif v2 then
            ob (g_cell_Load x73.fst (2 : Int)) fun x76 =>
            ob (g_word_Epoch x76) fun x77 =>
            ob (g_cell_Load x70 (2 : Int)) fun x78 =>
            ob (g_word_Epoch x78) fun x79 =>
            bif x77 == (IntKind.u64.wrap (x79 + (1 : Int))).tmod (281474976710656 : Int) then
             bif (x75 == (1 : Int)) == true then
              bif (x73.snd.snd.snd.snd.snd.snd.snd == (3 : Int)) == (x72 == (0 : Int)) then
               ob (g_frame_Over (x73.snd.fst, x73.snd.snd.fst, x73.snd.snd.snd.fst, x73.snd.snd.snd.snd.fst, x73.snd.snd.snd.snd.snd.fst, x73.snd.snd.snd.snd.snd.snd.fst, x73.snd.snd.snd.snd.snd.snd.snd)) fun x80 =>
               bif x80 then
                ob (g_wait_Waits (v0.1, v0.2.1, v0.2.2.1, v0.2.2.2) x73.fst v3) fun x81 =>
                bif !x81 then
                 bif v2 then
                  some (true)
                 else
                  some (true)
                else
                 some (false)
               else
                some (false)
              else
               some (false)
             else
              some (false)
            else
             some (false)
           else
            ob (g_word_Lowest (k + (49 : Nat)) x72) fun x82 =>
            ob (g_cell_Load x73.fst (2 : Int)) fun x83 =>
            ob (g_word_Epoch x83) fun x84 =>
            ob (g_cell_Load x70 (2 : Int)) fun x85 =>
            ob (g_word_Epoch x85) fun x86 =>
            bif x84 == (IntKind.u64.wrap (x86 + (1 : Int))).tmod (281474976710656 : Int) then
             bif (x75 == (1 : Int)) == (x82 == v3) then
              bif (x73.snd.snd.snd.snd.snd.snd.snd == (3 : Int)) == (x72 == (0 : Int)) then
               ob (g_frame_Over (x73.snd.fst, x73.snd.snd.fst, x73.snd.snd.snd.fst, x73.snd.snd.snd.snd.fst, x73.snd.snd.snd.snd.snd.fst, x73.snd.snd.snd.snd.snd.snd.fst, x73.snd.snd.snd.snd.snd.snd.snd)) fun x87 =>
               bif x87 then
                bif !x82 == v3 then
                 bif v2 then
                  some (true)
                 else
                  bif x82 == v3 then
                   some (true)
                  else
                   ob (g_wait_Waits (v0.1, v0.2.1, v0.2.2.1, v0.2.2.2) x73.fst v3) fun x88 =>
                   ob (g_wait_Waits (v0.1, v0.2.1, v0.2.2.1, v0.2.2.2) x70 v3) fun x89 =>
                   some (x88 == x89)
                else
                 ob (g_wait_Waits (v0.1, v0.2.1, v0.2.2.1, v0.2.2.2) x73.fst v3) fun x90 =>
                 bif !x90 then
                  bif v2 then
                   some (true)
                  else
                   bif x82 == v3 then
                    some (true)
                   else
                    ob (g_wait_Waits (v0.1, v0.2.1, v0.2.2.1, v0.2.2.2) x73.fst v3) fun x91 =>
                    ob (g_wait_Waits (v0.1, v0.2.1, v0.2.2.1, v0.2.2.2) x70 v3) fun x92 =>
                    some (x91 == x92)
                 else
                  some (false)
               else
                some (false)
              else
               some (false)
             else
              some (false)
            else
             some (false)
          else
           ob (g_cell_Load x73.fst (2 : Int)) fun x93 =>
           ob (g_word_Epoch x93) fun x94 =>
           ob (g_cell_Load x70 (2 : Int)) fun x95 =>
           ob (g_word_Epoch x95) fun x96 =>
           bif x94 == (IntKind.u64.wrap (x96 + (1 : Int))).tmod (281474976710656 : Int) then
            bif (x75 == (1 : Int)) == false then
             bif (x73.snd.snd.snd.snd.snd.snd.snd == (3 : Int)) == (x72 == (0 : Int)) then
              ob (g_frame_Over (x73.snd.fst, x73.snd.snd.fst, x73.snd.snd.snd.fst, x73.snd.snd.snd.snd.fst, x73.snd.snd.snd.snd.snd.fst, x73.snd.snd.snd.snd.snd.snd.fst, x73.snd.snd.snd.snd.snd.snd.snd)) fun x97 =>
              bif x97 then
               bif v2 then
                some (true)
               else
                ob (g_wait_Waits (v0.1, v0.2.1, v0.2.2.1, v0.2.2.2) x73.fst v3) fun x98 =>
                ob (g_wait_Waits (v0.1, v0.2.1, v0.2.2.1, v0.2.2.2) x70 v3) fun x99 =>
                some (x98 == x99)
              else
               some (false)
             else
              some (false)
            else
             some (false)
           else
            some (false)
         else
          none
        else
         none
  else
   ob (g_frame_Begin (6 : Int) (0 : Int) (0 : Int)) fun x100 =>
   bif decide ((500 : Int) < (↑v1.length : Int)) then
    some (true)
   else
    ob (g_note_Goes (v0.1, v0.2.1, v0.2.2.1, v0.2.2.2) v1 (x100.fst, x100.snd.fst, x100.snd.snd.fst, x100.snd.snd.snd.fst, x100.snd.snd.snd.snd.fst, x100.snd.snd.snd.snd.snd.fst, x100.snd.snd.snd.snd.snd.snd)) fun x101 =>
    bif !x101 then
     some (true)
    else
     bif decide (v3 < (0 : Int)) then
      some (true)
     else
      bif decide (v0.1 ≤ v3) then
       some (true)
      else
       bif decide ((7 : Int) < v3) then
        some (true)
       else
        ob (g_lay_Park (v0.1, v0.2.1, v0.2.2.1, v0.2.2.2) v3) fun x102 =>
        ob (g_cell_Store v1 x102 (0 : Int)) fun x103 =>
        ob (g_cell_Load x103 (2 : Int)) fun x104 =>
        ob (g_word_Mask x104) fun x105 =>
        ob (g_poacherlaw15_alone (k + (43 : Nat)) (v0.1, v0.2.1, v0.2.2.1, v0.2.2.2) x103 (x100.fst, x100.snd.fst, x100.snd.snd.fst, x100.snd.snd.snd.fst, x100.snd.snd.snd.snd.fst, x100.snd.snd.snd.snd.snd.fst, x100.snd.snd.snd.snd.snd.snd)) fun x106 =>
        ob (g_lay_Park (v0.1, v0.2.1, v0.2.2.1, v0.2.2.2) v3) fun x107 =>
        ob (g_cell_Load x106.fst x107) fun x108 =>
        bif decide ((0 : Int) ≤ v3) then
         bif shlI IntKind.u64 (1 : Int) v3 != (0 : Int) then
          bif (IntKind.u64.wrap (x105.tdiv (shlI IntKind.u64 (1 : Int) v3))).tmod (2 : Int) == (1 : Int) then
           bif v2 then
            ob (g_cell_Load x106.fst (2 : Int)) fun x109 =>
            ob (g_word_Epoch x109) fun x110 =>
            ob (g_cell_Load x103 (2 : Int)) fun x111 =>
            ob (g_word_Epoch x111) fun x112 =>
            bif x110 == (IntKind.u64.wrap (x112 + (1 : Int))).tmod (281474976710656 : Int) then
             bif (x108 == (1 : Int)) == true then
              bif (x106.snd.snd.snd.snd.snd.snd.snd == (3 : Int)) == (x105 == (0 : Int)) then
               ob (g_frame_Over (x106.snd.fst, x106.snd.snd.fst, x106.snd.snd.snd.fst, x106.snd.snd.snd.snd.fst, x106.snd.snd.snd.snd.snd.fst, x106.snd.snd.snd.snd.snd.snd.fst, x106.snd.snd.snd.snd.snd.snd.snd)) fun x113 =>
               bif x113 then
                ob (g_wait_Waits (v0.1, v0.2.1, v0.2.2.1, v0.2.2.2) x106.fst v3) fun x114 =>
                bif !x114 then
                 bif v2 then
                  some (true)
                 else
                  some (true)
                else
                 some (false)
               else
                some (false)
              else
               some (false)
             else
              some (false)
            else
             some (false)
           else
            ob (g_word_Lowest (k + (49 : Nat)) x105) fun x115 =>
            ob (g_cell_Load x106.fst (2 : Int)) fun x116 =>
            ob (g_word_Epoch x116) fun x117 =>
            ob (g_cell_Load x103 (2 : Int)) fun x118 =>
            ob (g_word_Epoch x118) fun x119 =>
            bif x117 == (IntKind.u64.wrap (x119 + (1 : Int))).tmod (281474976710656 : Int) then
             bif (x108 == (1 : Int)) == (x115 == v3) then
              bif (x106.snd.snd.snd.snd.snd.snd.snd == (3 : Int)) == (x105 == (0 : Int)) then
               ob (g_frame_Over (x106.snd.fst, x106.snd.snd.fst, x106.snd.snd.snd.fst, x106.snd.snd.snd.snd.fst, x106.snd.snd.snd.snd.snd.fst, x106.snd.snd.snd.snd.snd.snd.fst, x106.snd.snd.snd.snd.snd.snd.snd)) fun x120 =>
               bif x120 then
                bif !x115 == v3 then
                 bif v2 then
                  some (true)
                 else
                  bif x115 == v3 then
                   some (true)
                  else
                   ob (g_wait_Waits (v0.1, v0.2.1, v0.2.2.1, v0.2.2.2) x106.fst v3) fun x121 =>
                   ob (g_wait_Waits (v0.1, v0.2.1, v0.2.2.1, v0.2.2.2) x103 v3) fun x122 =>
                   some (x121 == x122)
                else
                 ob (g_wait_Waits (v0.1, v0.2.1, v0.2.2.1, v0.2.2.2) x106.fst v3) fun x123 =>
                 bif !x123 then
                  bif v2 then
                   some (true)
                  else
                   bif x115 == v3 then
                    some (true)
                   else
                    ob (g_wait_Waits (v0.1, v0.2.1, v0.2.2.1, v0.2.2.2) x106.fst v3) fun x124 =>
                    ob (g_wait_Waits (v0.1, v0.2.1, v0.2.2.1, v0.2.2.2) x103 v3) fun x125 =>
                    some (x124 == x125)
                 else
                  some (false)
               else
                some (false)
              else
               some (false)
             else
              some (false)
            else
             some (false)
          else
           ob (g_cell_Load x106.fst (2 : Int)) fun x126 =>
           ob (g_word_Epoch x126) fun x127 =>
           ob (g_cell_Load x103 (2 : Int)) fun x128 =>
           ob (g_word_Epoch x128) fun x129 =>
           bif x127 == (IntKind.u64.wrap (x129 + (1 : Int))).tmod (281474976710656 : Int) then
            bif (x108 == (1 : Int)) == false then
             bif (x106.snd.snd.snd.snd.snd.snd.snd == (3 : Int)) == (x105 == (0 : Int)) then
              ob (g_frame_Over (x106.snd.fst, x106.snd.snd.fst, x106.snd.snd.snd.fst, x106.snd.snd.snd.snd.fst, x106.snd.snd.snd.snd.snd.fst, x106.snd.snd.snd.snd.snd.snd.fst, x106.snd.snd.snd.snd.snd.snd.snd)) fun x130 =>
              bif x130 then
               bif v2 then
                some (true)
               else
                ob (g_wait_Waits (v0.1, v0.2.1, v0.2.2.1, v0.2.2.2) x106.fst v3) fun x131 =>
                ob (g_wait_Waits (v0.1, v0.2.1, v0.2.2.1, v0.2.2.2) x103 v3) fun x132 =>
                some (x131 == x132)
              else
               some (false)
             else
              some (false)
            else
             some (false)
           else
            some (false)
         else
          none
        else
         none
theorem h_poacherlaw15_NoteOne (k : Nat) (v0_0 : Int) (v0_1 : Int) (v0_2 : Int) (v0_3 : Int) (v1 : (List Int)) (v2 : Bool) (v3 : Int) : xC (k + 61) none 11 [(.agg [(.lit (.int .i64 v0_0)), (.lit (.int .i64 v0_1)), (.lit (.int .i64 v0_2)), (.lit (.int .i64 v0_3))]), (.ro (List.map (intR .u64) v1)), (.lit (.bool v2)), (.lit (.int .i64 v3))] = ob (g_poacherlaw15_NoteOne k (v0_0, v0_1, v0_2, v0_3) v1 v2 v3) fun r => some ((.lit (.bool r)), []) := by
  rw [xC_eq]
  unfold g_poacherlaw15_NoteOne
  simp (maxSteps := 2000000) -implicitDefEqProofs only [xe11, xb11, xj11_0, xm11_1, xm11_2, xm11_3, xm11_4, xm11_5, xm11_6, xm11_7, xm11_8, xm11_9, xm11_10, xm11_11, xm11_12, xm11_13, xm11_14, xm11_15, xm11_16, xm11_17, xm11_18, xm11_19, xm11_20, xm11_21, xm11_22, xm11_23, xm11_24, xm11_25, xm11_26, xm11_27, xm11_28, xm11_29, xm11_30, xm11_31, xm11_32, xm11_33, xm11_34, xk11_0_ret, xk11_1_ret, xk11_2_ret, xk11_3_ret, ↓syP, syA, rtN, pureL, V.pure, nsh, stBk, V.kill, killL, spl, V.shift, shiftL, V.scal, scalL, intR, boolR, threeV, Nat.reduceAdd, Nat.reduceSub, Nat.reduceMul, Nat.reduceLT, Nat.reduceLeDiff, Nat.reduceEqDiff, Nat.reduceBEq, Nat.reduceBNe, Int.reduceBEq, Int.reduceBNe, Int.reduceLT, Int.reduceLE, Int.reduceAdd, Int.reduceSub, Int.reduceNeg, syQ, confV, frameV, listV, xF, xcallV, xcallC, xcallL, xcallY, xevY, xY_ready, xrange, xG_fn, xR, xA, xcl50, xclk50, xcl83, xclk83, awk14', awk15', h_frame_Over, h_lay_Park, h_cell_Store, h_cell_Load, h_word_Epoch, h_word_Mask, h_frame_Begin, h_wait_Waits, h_note_Goes, h_word_Lowest, h_poacherlaw15_alone]
  all_goals simp -implicitDefEqProofs only [List.map_nil]
end Go.Ab
