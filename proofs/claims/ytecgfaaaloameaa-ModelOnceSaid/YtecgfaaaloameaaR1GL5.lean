/- Functions as they are walked: printed by Walk.lean. -/
import Derived.Test.YtecgfaaaloameaaR1GM
import Derived.Test.YtecgfaaaloameaaR1Awk
import Derived.Test.YtecgfaaaloameaaR1BL5
set_option maxRecDepth 100000
set_option linter.unusedVariables false
set_option linter.unusedSimpArgs false
namespace Go.Ab
open Go.Proofs
def g_poacherlaw21_ModelOnce_L0 (k : Nat) (v0 : (List (Int × List Int))) (v1 : (List (Int × Int × Int))) (v2 : Int)  : Nat → Int → Int → Int → Option Bool
  | 0, _, _, _ => none
  | n + 1, s26, s28, s54 =>
    bif decide (s26 < (↑v1.length : Int)) then
     ob (idx v1 s26) fun x79 =>
     bif x79.fst == (3 : Int) then
      ob (g_forest_Parent (k + (40 : Nat)) v0 x79.snd.fst) fun x80 =>
      bif x80 == v2 then
       bif s28 != (2 : Int) then
        some (false)
       else
        bif x79.fst == (5 : Int) then
         g_poacherlaw21_ModelOnce_L0 k v0 v1 v2  n (IntKind.i64.wrap (s26 + (1 : Int))) (s28) (IntKind.i64.wrap (s54 + (1 : Int)))
        else
         bif x79.fst == (1 : Int) then
          g_poacherlaw21_ModelOnce_L0 k v0 v1 v2  n (IntKind.i64.wrap (s26 + (1 : Int))) (s28) (IntKind.i64.wrap (s54 + (1 : Int)))
         else
          bif x79.snd.fst != v2 then
           g_poacherlaw21_ModelOnce_L0 k v0 v1 v2  n (IntKind.i64.wrap (s26 + (1 : Int))) (s28) (IntKind.i64.wrap (s54 + (1 : Int)))
          else
           bif x79.fst == (0 : Int) then
            bif x79.fst == (2 : Int) then
             bif x79.fst == (4 : Int) then
              ob (idx v0 v2) fun x81 =>
              bif IntKind.i64.wrap (s54 + (1 : Int)) == (↑x81.snd.length : Int) then
               bif s28 != (2 : Int) then
                some (false)
               else
                g_poacherlaw21_ModelOnce_L0 k v0 v1 v2  n (IntKind.i64.wrap (s26 + (1 : Int))) (IntKind.i64.wrap (s28 + (1 : Int))) (IntKind.i64.wrap (s54 + (1 : Int)))
              else
               bif s28 != (1 : Int) then
                some (false)
               else
                g_poacherlaw21_ModelOnce_L0 k v0 v1 v2  n (IntKind.i64.wrap (s26 + (1 : Int))) (IntKind.i64.wrap (s28 + (1 : Int))) (IntKind.i64.wrap (s54 + (1 : Int)))
             else
              bif s28 != (1 : Int) then
               some (false)
              else
               g_poacherlaw21_ModelOnce_L0 k v0 v1 v2  n (IntKind.i64.wrap (s26 + (1 : Int))) (IntKind.i64.wrap (s28 + (1 : Int))) (IntKind.i64.wrap (s54 + (1 : Int)))
            else
             bif x79.fst == (4 : Int) then
              ob (idx v0 v2) fun x82 =>
              bif IntKind.i64.wrap (s54 + (1 : Int)) == (↑x82.snd.length : Int) then
               bif s28 != (2 : Int) then
                some (false)
               else
                g_poacherlaw21_ModelOnce_L0 k v0 v1 v2  n (IntKind.i64.wrap (s26 + (1 : Int))) (IntKind.i64.wrap (s28 + (1 : Int))) (IntKind.i64.wrap (s54 + (1 : Int)))
              else
               bif s28 != (0 : Int) then
                some (false)
               else
                g_poacherlaw21_ModelOnce_L0 k v0 v1 v2  n (IntKind.i64.wrap (s26 + (1 : Int))) (IntKind.i64.wrap (s28 + (1 : Int))) (IntKind.i64.wrap (s54 + (1 : Int)))
             else
              bif s28 != (0 : Int) then
               some (false)
              else
               g_poacherlaw21_ModelOnce_L0 k v0 v1 v2  n (IntKind.i64.wrap (s26 + (1 : Int))) (IntKind.i64.wrap (s28 + (1 : Int))) (IntKind.i64.wrap (s54 + (1 : Int)))
           else
            bif x79.fst == (3 : Int) then
             bif x79.fst == (2 : Int) then
              bif x79.fst == (4 : Int) then
               ob (idx v0 v2) fun x83 =>
               bif IntKind.i64.wrap (s54 + (1 : Int)) == (↑x83.snd.length : Int) then
                bif s28 != (2 : Int) then
                 some (false)
                else
                 g_poacherlaw21_ModelOnce_L0 k v0 v1 v2  n (IntKind.i64.wrap (s26 + (1 : Int))) (IntKind.i64.wrap (s28 + (1 : Int))) (IntKind.i64.wrap (s54 + (1 : Int)))
               else
                bif s28 != (1 : Int) then
                 some (false)
                else
                 g_poacherlaw21_ModelOnce_L0 k v0 v1 v2  n (IntKind.i64.wrap (s26 + (1 : Int))) (IntKind.i64.wrap (s28 + (1 : Int))) (IntKind.i64.wrap (s54 + (1 : Int)))
              else
               bif s28 != (1 : Int) then
                some (false)
               else
                g_poacherlaw21_ModelOnce_L0 k v0 v1 v2  n (IntKind.i64.wrap (s26 + (1 : Int))) (IntKind.i64.wrap (s28 + (1 : Int))) (IntKind.i64.wrap (s54 + (1 : Int)))
             else
              bif x79.fst == (4 : Int) then
               ob (idx v0 v2) fun x84 =>
               bif IntKind.i64.wrap (s54 + (1 : Int)) == (↑x84.snd.length : Int) then
                bif s28 != (2 : Int) then
                 some (false)
                else
                 g_poacherlaw21_ModelOnce_L0 k v0 v1 v2  n (IntKind.i64.wrap (s26 + (1 : Int))) (IntKind.i64.wrap (s28 + (1 : Int))) (IntKind.i64.wrap (s54 + (1 : Int)))
               else
                bif s28 != (0 : Int) then
                 some (false)
                else
                 g_poacherlaw21_ModelOnce_L0 k v0 v1 v2  n (IntKind.i64.wrap (s26 + (1 : Int))) (IntKind.i64.wrap (s28 + (1 : Int))) (IntKind.i64.wrap (s54 + (1 : Int)))
              else
               bif s28 != (0 : Int) then
                some (false)
               else
                g_poacherlaw21_ModelOnce_L0 k v0 v1 v2  n (IntKind.i64.wrap (s26 + (1 : Int))) (IntKind.i64.wrap (s28 + (1 : Int))) (IntKind.i64.wrap (s54 + (1 : Int)))
            else
             bif x79.fst == (2 : Int) then
              bif x79.fst == (4 : Int) then
               ob (idx v0 v2) fun x85 =>
               bif IntKind.i64.wrap (s54 + (1 : Int)) == (↑x85.snd.length : Int) then
                bif s28 != (2 : Int) then
                 some (false)
                else
                 g_poacherlaw21_ModelOnce_L0 k v0 v1 v2  n (IntKind.i64.wrap (s26 + (1 : Int))) (IntKind.i64.wrap (s28 + (1 : Int))) (IntKind.i64.wrap (s54 + (1 : Int)))
               else
                bif s28 != (1 : Int) then
                 some (false)
                else
                 g_poacherlaw21_ModelOnce_L0 k v0 v1 v2  n (IntKind.i64.wrap (s26 + (1 : Int))) (IntKind.i64.wrap (s28 + (1 : Int))) (IntKind.i64.wrap (s54 + (1 : Int)))
              else
               bif s28 != (1 : Int) then
                some (false)
               else
                g_poacherlaw21_ModelOnce_L0 k v0 v1 v2  n (IntKind.i64.wrap (s26 + (1 : Int))) (IntKind.i64.wrap (s28 + (1 : Int))) (IntKind.i64.wrap (s54 + (1 : Int)))
             else
              bif x79.fst == (4 : Int) then
               ob (idx v0 v2) fun x86 =>
               bif IntKind.i64.wrap (s54 + (1 : Int)) == (↑x86.snd.length : Int) then
                bif s28 != (2 : Int) then
                 some (false)
                else
                 g_poacherlaw21_ModelOnce_L0 k v0 v1 v2  n (IntKind.i64.wrap (s26 + (1 : Int))) (IntKind.i64.wrap (s28 + (1 : Int))) (IntKind.i64.wrap (s54 + (1 : Int)))
               else
                bif s28 != (-1 : Int) then
                 some (false)
                else
                 g_poacherlaw21_ModelOnce_L0 k v0 v1 v2  n (IntKind.i64.wrap (s26 + (1 : Int))) (IntKind.i64.wrap (s28 + (1 : Int))) (IntKind.i64.wrap (s54 + (1 : Int)))
              else
               bif s28 != (-1 : Int) then
                some (false)
               else
                g_poacherlaw21_ModelOnce_L0 k v0 v1 v2  n (IntKind.i64.wrap (s26 + (1 : Int))) (IntKind.i64.wrap (s28 + (1 : Int))) (IntKind.i64.wrap (s54 + (1 : Int)))
      else
       bif x79.fst == (5 : Int) then
        g_poacherlaw21_ModelOnce_L0 k v0 v1 v2  n (IntKind.i64.wrap (s26 + (1 : Int))) (s28) (s54)
       else
        bif x79.fst == (1 : Int) then
         g_poacherlaw21_ModelOnce_L0 k v0 v1 v2  n (IntKind.i64.wrap (s26 + (1 : Int))) (s28) (s54)
        else
         bif x79.snd.fst != v2 then
          g_poacherlaw21_ModelOnce_L0 k v0 v1 v2  n (IntKind.i64.wrap (s26 + (1 : Int))) (s28) (s54)
         else
          bif x79.fst == (0 : Int) then
           bif x79.fst == (2 : Int) then
            bif x79.fst == (4 : Int) then
             ob (idx v0 v2) fun x87 =>
             bif s54 == (↑x87.snd.length : Int) then
              bif s28 != (2 : Int) then
               some (false)
              else
               g_poacherlaw21_ModelOnce_L0 k v0 v1 v2  n (IntKind.i64.wrap (s26 + (1 : Int))) (IntKind.i64.wrap (s28 + (1 : Int))) (s54)
             else
              bif s28 != (1 : Int) then
               some (false)
              else
               g_poacherlaw21_ModelOnce_L0 k v0 v1 v2  n (IntKind.i64.wrap (s26 + (1 : Int))) (IntKind.i64.wrap (s28 + (1 : Int))) (s54)
            else
             bif s28 != (1 : Int) then
              some (false)
             else
              g_poacherlaw21_ModelOnce_L0 k v0 v1 v2  n (IntKind.i64.wrap (s26 + (1 : Int))) (IntKind.i64.wrap (s28 + (1 : Int))) (s54)
           else
            bif x79.fst == (4 : Int) then
             ob (idx v0 v2) fun x88 =>
             bif s54 == (↑x88.snd.length : Int) then
              bif s28 != (2 : Int) then
               some (false)
              else
               g_poacherlaw21_ModelOnce_L0 k v0 v1 v2  n (IntKind.i64.wrap (s26 + (1 : Int))) (IntKind.i64.wrap (s28 + (1 : Int))) (s54)
             else
              bif s28 != (0 : Int) then
               some (false)
              else
               g_poacherlaw21_ModelOnce_L0 k v0 v1 v2  n (IntKind.i64.wrap (s26 + (1 : Int))) (IntKind.i64.wrap (s28 + (1 : Int))) (s54)
            else
             bif s28 != (0 : Int) then
              some (false)
             else
              g_poacherlaw21_ModelOnce_L0 k v0 v1 v2  n (IntKind.i64.wrap (s26 + (1 : Int))) (IntKind.i64.wrap (s28 + (1 : Int))) (s54)
          else
           bif x79.fst == (3 : Int) then
            bif x79.fst == (2 : Int) then
             bif x79.fst == (4 : Int) then
              ob (idx v0 v2) fun x89 =>
              bif s54 == (↑x89.snd.length : Int) then
               bif s28 != (2 : Int) then
                some (false)
               else
                g_poacherlaw21_ModelOnce_L0 k v0 v1 v2  n (IntKind.i64.wrap (s26 + (1 : Int))) (IntKind.i64.wrap (s28 + (1 : Int))) (s54)
              else
               bif s28 != (1 : Int) then
                some (false)
               else
                g_poacherlaw21_ModelOnce_L0 k v0 v1 v2  n (IntKind.i64.wrap (s26 + (1 : Int))) (IntKind.i64.wrap (s28 + (1 : Int))) (s54)
             else
              bif s28 != (1 : Int) then
               some (false)
              else
               g_poacherlaw21_ModelOnce_L0 k v0 v1 v2  n (IntKind.i64.wrap (s26 + (1 : Int))) (IntKind.i64.wrap (s28 + (1 : Int))) (s54)
            else
             bif x79.fst == (4 : Int) then
              ob (idx v0 v2) fun x90 =>
              bif s54 == (↑x90.snd.length : Int) then
               bif s28 != (2 : Int) then
                some (false)
               else
                g_poacherlaw21_ModelOnce_L0 k v0 v1 v2  n (IntKind.i64.wrap (s26 + (1 : Int))) (IntKind.i64.wrap (s28 + (1 : Int))) (s54)
              else
               bif s28 != (0 : Int) then
                some (false)
               else
                g_poacherlaw21_ModelOnce_L0 k v0 v1 v2  n (IntKind.i64.wrap (s26 + (1 : Int))) (IntKind.i64.wrap (s28 + (1 : Int))) (s54)
             else
              bif s28 != (0 : Int) then
               some (false)
              else
               g_poacherlaw21_ModelOnce_L0 k v0 v1 v2  n (IntKind.i64.wrap (s26 + (1 : Int))) (IntKind.i64.wrap (s28 + (1 : Int))) (s54)
           else
            bif x79.fst == (2 : Int) then
             bif x79.fst == (4 : Int) then
              ob (idx v0 v2) fun x91 =>
              bif s54 == (↑x91.snd.length : Int) then
               bif s28 != (2 : Int) then
                some (false)
               else
                g_poacherlaw21_ModelOnce_L0 k v0 v1 v2  n (IntKind.i64.wrap (s26 + (1 : Int))) (IntKind.i64.wrap (s28 + (1 : Int))) (s54)
              else
               bif s28 != (1 : Int) then
                some (false)
               else
                g_poacherlaw21_ModelOnce_L0 k v0 v1 v2  n (IntKind.i64.wrap (s26 + (1 : Int))) (IntKind.i64.wrap (s28 + (1 : Int))) (s54)
             else
              bif s28 != (1 : Int) then
               some (false)
              else
               g_poacherlaw21_ModelOnce_L0 k v0 v1 v2  n (IntKind.i64.wrap (s26 + (1 : Int))) (IntKind.i64.wrap (s28 + (1 : Int))) (s54)
            else
             bif x79.fst == (4 : Int) then
              ob (idx v0 v2) fun x92 =>
              bif s54 == (↑x92.snd.length : Int) then
               bif s28 != (2 : Int) then
                some (false)
               else
                g_poacherlaw21_ModelOnce_L0 k v0 v1 v2  n (IntKind.i64.wrap (s26 + (1 : Int))) (IntKind.i64.wrap (s28 + (1 : Int))) (s54)
              else
               bif s28 != (-1 : Int) then
                some (false)
               else
                g_poacherlaw21_ModelOnce_L0 k v0 v1 v2  n (IntKind.i64.wrap (s26 + (1 : Int))) (IntKind.i64.wrap (s28 + (1 : Int))) (s54)
             else
              bif s28 != (-1 : Int) then
               some (false)
              else
               g_poacherlaw21_ModelOnce_L0 k v0 v1 v2  n (IntKind.i64.wrap (s26 + (1 : Int))) (IntKind.i64.wrap (s28 + (1 : Int))) (s54)
     else
      bif x79.fst == (5 : Int) then
       g_poacherlaw21_ModelOnce_L0 k v0 v1 v2  n (IntKind.i64.wrap (s26 + (1 : Int))) (s28) (s54)
      else
       bif x79.fst == (1 : Int) then
        g_poacherlaw21_ModelOnce_L0 k v0 v1 v2  n (IntKind.i64.wrap (s26 + (1 : Int))) (s28) (s54)
       else
        bif x79.snd.fst != v2 then
         g_poacherlaw21_ModelOnce_L0 k v0 v1 v2  n (IntKind.i64.wrap (s26 + (1 : Int))) (s28) (s54)
        else
         bif x79.fst == (0 : Int) then
          bif x79.fst == (2 : Int) then
           bif x79.fst == (4 : Int) then
            ob (idx v0 v2) fun x93 =>
            bif s54 == (↑x93.snd.length : Int) then
             bif s28 != (2 : Int) then
              some (false)
             else
              g_poacherlaw21_ModelOnce_L0 k v0 v1 v2  n (IntKind.i64.wrap (s26 + (1 : Int))) (IntKind.i64.wrap (s28 + (1 : Int))) (s54)
            else
             bif s28 != (1 : Int) then
              some (false)
             else
              g_poacherlaw21_ModelOnce_L0 k v0 v1 v2  n (IntKind.i64.wrap (s26 + (1 : Int))) (IntKind.i64.wrap (s28 + (1 : Int))) (s54)
           else
            bif s28 != (1 : Int) then
             some (false)
            else
             g_poacherlaw21_ModelOnce_L0 k v0 v1 v2  n (IntKind.i64.wrap (s26 + (1 : Int))) (IntKind.i64.wrap (s28 + (1 : Int))) (s54)
          else
           bif x79.fst == (4 : Int) then
            ob (idx v0 v2) fun x94 =>
            bif s54 == (↑x94.snd.length : Int) then
             bif s28 != (2 : Int) then
              some (false)
             else
              g_poacherlaw21_ModelOnce_L0 k v0 v1 v2  n (IntKind.i64.wrap (s26 + (1 : Int))) (IntKind.i64.wrap (s28 + (1 : Int))) (s54)
            else
             bif s28 != (0 : Int) then
              some (false)
             else
              g_poacherlaw21_ModelOnce_L0 k v0 v1 v2  n (IntKind.i64.wrap (s26 + (1 : Int))) (IntKind.i64.wrap (s28 + (1 : Int))) (s54)
           else
            bif s28 != (0 : Int) then
             some (false)
            else
             g_poacherlaw21_ModelOnce_L0 k v0 v1 v2  n (IntKind.i64.wrap (s26 + (1 : Int))) (IntKind.i64.wrap (s28 + (1 : Int))) (s54)
         else
          bif x79.fst == (3 : Int) then
           bif x79.fst == (2 : Int) then
            bif x79.fst == (4 : Int) then
             ob (idx v0 v2) fun x95 =>
             bif s54 == (↑x95.snd.length : Int) then
              bif s28 != (2 : Int) then
               some (false)
              else
               g_poacherlaw21_ModelOnce_L0 k v0 v1 v2  n (IntKind.i64.wrap (s26 + (1 : Int))) (IntKind.i64.wrap (s28 + (1 : Int))) (s54)
             else
              bif s28 != (1 : Int) then
               some (false)
              else
               g_poacherlaw21_ModelOnce_L0 k v0 v1 v2  n (IntKind.i64.wrap (s26 + (1 : Int))) (IntKind.i64.wrap (s28 + (1 : Int))) (s54)
            else
             bif s28 != (1 : Int) then
              some (false)
             else
              g_poacherlaw21_ModelOnce_L0 k v0 v1 v2  n (IntKind.i64.wrap (s26 + (1 : Int))) (IntKind.i64.wrap (s28 + (1 : Int))) (s54)
           else
            bif x79.fst == (4 : Int) then
             ob (idx v0 v2) fun x96 =>
             bif s54 == (↑x96.snd.length : Int) then
              bif s28 != (2 : Int) then
               some (false)
              else
               g_poacherlaw21_ModelOnce_L0 k v0 v1 v2  n (IntKind.i64.wrap (s26 + (1 : Int))) (IntKind.i64.wrap (s28 + (1 : Int))) (s54)
             else
              bif s28 != (0 : Int) then
               some (false)
              else
               g_poacherlaw21_ModelOnce_L0 k v0 v1 v2  n (IntKind.i64.wrap (s26 + (1 : Int))) (IntKind.i64.wrap (s28 + (1 : Int))) (s54)
            else
             bif s28 != (0 : Int) then
              some (false)
             else
              g_poacherlaw21_ModelOnce_L0 k v0 v1 v2  n (IntKind.i64.wrap (s26 + (1 : Int))) (IntKind.i64.wrap (s28 + (1 : Int))) (s54)
          else
           bif x79.fst == (2 : Int) then
            bif x79.fst == (4 : Int) then
             ob (idx v0 v2) fun x97 =>
             bif s54 == (↑x97.snd.length : Int) then
              bif s28 != (2 : Int) then
               some (false)
              else
               g_poacherlaw21_ModelOnce_L0 k v0 v1 v2  n (IntKind.i64.wrap (s26 + (1 : Int))) (IntKind.i64.wrap (s28 + (1 : Int))) (s54)
             else
              bif s28 != (1 : Int) then
               some (false)
              else
               g_poacherlaw21_ModelOnce_L0 k v0 v1 v2  n (IntKind.i64.wrap (s26 + (1 : Int))) (IntKind.i64.wrap (s28 + (1 : Int))) (s54)
            else
             bif s28 != (1 : Int) then
              some (false)
             else
              g_poacherlaw21_ModelOnce_L0 k v0 v1 v2  n (IntKind.i64.wrap (s26 + (1 : Int))) (IntKind.i64.wrap (s28 + (1 : Int))) (s54)
           else
            bif x79.fst == (4 : Int) then
             ob (idx v0 v2) fun x98 =>
             bif s54 == (↑x98.snd.length : Int) then
              bif s28 != (2 : Int) then
               some (false)
              else
               g_poacherlaw21_ModelOnce_L0 k v0 v1 v2  n (IntKind.i64.wrap (s26 + (1 : Int))) (IntKind.i64.wrap (s28 + (1 : Int))) (s54)
             else
              bif s28 != (-1 : Int) then
               some (false)
              else
               g_poacherlaw21_ModelOnce_L0 k v0 v1 v2  n (IntKind.i64.wrap (s26 + (1 : Int))) (IntKind.i64.wrap (s28 + (1 : Int))) (s54)
            else
             bif s28 != (-1 : Int) then
              some (false)
             else
              g_poacherlaw21_ModelOnce_L0 k v0 v1 v2  n (IntKind.i64.wrap (s26 + (1 : Int))) (IntKind.i64.wrap (s28 + (1 : Int))) (s54)
    else
     ob (g_model_End (k + (36 : Nat)) v0 v1) fun x99 =>
     bif (↑x99.length : Int) == (↑v0.length : Int) then
      ob (idx x99 v2) fun x100 =>
      some (x100 == s28)
     else
      some (false)
theorem g_poacherlaw21_ModelOnce_L0_eq (k : Nat) (v0 : (List (Int × List Int))) (v1 : (List (Int × Int × Int))) (v2 : Int) : ∀ (n : Nat) (s26 : Int) (s28 : Int) (s54 : Int) ⦃s4 : Bool⦄ ⦃s5 : Bool⦄ ⦃s6 : Bool⦄ ⦃s7 : Bool⦄ ⦃j27 j29 : V⦄, rt none (itX (xX (xS (k + (60 : Nat))) (5 : Nat) (0 : Nat) (k + (60 : Nat)) false) xl5_0 ((0 : Nat)) (runK (xX (xS (k + (60 : Nat))) (5 : Nat) (0 : Nat) (k + (60 : Nat)) false) (bodyK (xS (k + (60 : Nat))).P Try.f5) xk5_1) n ⟨(V.ro (List.map taskV v0) :: V.ro (List.map threeV v1) :: V.lit (Value.int IntKind.i64 v2) :: uu :: uu :: uu :: V.lit (Value.bool false) :: V.lit (Value.bool true) :: V.lit (Value.bool s4) :: V.lit (Value.int IntKind.i64 s28) :: V.lit (Value.int IntKind.i64 s54) :: V.lit (Value.int IntKind.i64 s26) :: j27 :: j29 :: uu :: V.lit (Value.bool true) :: V.ro (List.map taskV v0) :: V.lit (Value.bool s4) :: V.lit (Value.bool true) :: V.lit (Value.bool false) :: V.lit (Value.bool false) :: V.lit (Value.bool s4) :: V.lit (Value.bool s5) :: V.lit (Value.bool s5) :: V.lit (Value.bool false) :: V.ro (List.map threeV v1) :: V.lit (Value.int IntKind.i64 (↑v1.length : Int)) :: V.lit (Value.bool (decide ((200 : Int) < (↑v1.length : Int)))) :: V.lit (Value.bool (decide ((200 : Int) < (↑v1.length : Int)))) :: V.lit (Value.bool false) :: V.lit (Value.int IntKind.i64 v2) :: V.lit (Value.bool (decide (v2 < (0 : Int)))) :: V.lit (Value.bool (decide (v2 < (0 : Int)))) :: V.lit (Value.bool false) :: V.lit (Value.int IntKind.i64 v2) :: V.ro (List.map taskV v0) :: V.lit (Value.int IntKind.i64 (↑v0.length : Int)) :: V.lit (Value.bool (decide ((↑v0.length : Int) ≤ v2))) :: V.lit (Value.bool (decide ((↑v0.length : Int) ≤ v2))) :: V.lit (Value.bool false) :: V.ro (List.map taskV v0) :: V.ro (List.map threeV v1) :: V.lit (Value.bool s6) :: V.lit (Value.bool s7) :: V.lit (Value.bool s7) :: uu :: V.junk :: V.junk :: V.junk :: V.junk :: V.junk :: V.junk :: V.junk :: V.junk :: V.junk :: V.junk :: V.junk :: V.junk :: V.junk :: V.junk :: V.junk :: V.junk :: V.junk :: V.junk :: V.junk :: V.junk :: V.junk :: V.junk :: V.junk :: V.junk :: V.junk :: V.junk :: V.junk :: V.junk :: V.junk :: V.junk :: V.junk :: V.junk :: V.junk :: V.junk :: V.junk :: V.junk :: V.junk :: V.junk :: V.junk :: V.junk :: V.junk :: V.junk :: V.junk :: V.junk :: V.junk :: V.junk :: V.junk :: V.junk :: V.junk :: V.junk :: V.junk :: V.junk :: V.junk :: V.junk :: V.junk :: V.junk :: V.junk :: V.junk :: V.junk :: V.junk :: V.junk :: V.junk :: V.junk :: V.junk :: V.junk :: V.junk :: V.junk :: V.junk :: uu :: uu :: uu :: uu :: uu :: uu :: uu :: uu :: uu :: uu :: uu :: uu :: uu :: uu :: uu :: uu :: []), []⟩) = ob (g_poacherlaw21_ModelOnce_L0 k v0 v1 v2  n s26 s28 s54) fun r => some ((.lit (.bool r)), []) := by
  intro n
  induction n with
  | zero => intros; rfl
  | succ n ih =>
    intro s26 s28 s54 s4 s5 s6 s7 j27 j29
    rw [g_poacherlaw21_ModelOnce_L0]
    simp (maxSteps := 2000000) -implicitDefEqProofs only [xe5, xb5, xz5, xm5_0, xm5_1, xm5_2, xm5_3, xm5_4, xj5_5, xm5_6, xm5_7, xj5_8, xm5_9, xm5_10, xm5_11, xj5_12, xj5_13, xm5_14, xj5_15, xk5_0_ret, xk5_1_ret, xk5_2_ret, xk5_3_ret, xk5_4_ret, xk5_5_ret, xk5_6_ret, xk5_7_ret, xk5_8_ret, xk5_9_ret, xk5_10_ret, ↓syP, syA, rtN, pureL, V.pure, nsh, stBk, V.kill, killL, spl, V.shift, shiftL, V.scal, scalL, intR, boolR, threeV, Nat.reduceAdd, Nat.reduceSub, Nat.reduceMul, Nat.reduceLT, Nat.reduceLeDiff, Nat.reduceEqDiff, Nat.reduceBEq, Nat.reduceBNe, Int.reduceBEq, Int.reduceBNe, Int.reduceLT, Int.reduceLE, Int.reduceAdd, Int.reduceSub, Int.reduceNeg, xF, xcallV, xcallC, xcallL, xcallY, xevY, xY_ready, xrange, xG_fn, xR, xA, xcl62, xclk62, xcl71, xclk71, awk04', awk21', awk17', h_poacherlaw04_Few, h_forest_Parent, h_model_End, h_model_Accepts, xr5_0, ih]
    all_goals simp -implicitDefEqProofs only [List.map_nil]
def g_poacherlaw21_ModelOnce (k : Nat) (v0 : (List (Int × List Int))) (v1 : (List (Int × Int × Int))) (v2 : Int) : Option Bool :=
  ob (g_poacherlaw04_Few (k + (59 : Nat)) v0) fun x101 =>
  bif !x101 then
   some (true)
  else
   bif decide ((200 : Int) < (↑v1.length : Int)) then
    some (true)
   else
    bif decide (v2 < (0 : Int)) then
     some (true)
    else
     bif decide ((↑v0.length : Int) ≤ v2) then
      some (true)
     else
      ob (g_model_Accepts (k + (36 : Nat)) v0 v1) fun x102 =>
      bif !x102 then
       some (true)
      else
       g_poacherlaw21_ModelOnce_L0 k v0 v1 v2 (k + (60 : Nat)) ((0 : Int)) ((0 : Int)) ((0 : Int))
theorem h_poacherlaw21_ModelOnce (k : Nat) (v0 : (List (Int × List Int))) (v1 : (List (Int × Int × Int))) (v2 : Int) : xC (k + 61) none 5 [(.ro (List.map taskV v0)), (.ro (List.map threeV v1)), (.lit (.int .i64 v2))] = ob (g_poacherlaw21_ModelOnce k v0 v1 v2) fun r => some ((.lit (.bool r)), []) := by
  rw [xC_eq]
  unfold g_poacherlaw21_ModelOnce
  simp (maxSteps := 2000000) -implicitDefEqProofs only [xe5, xb5, xz5, xm5_0, xm5_1, xm5_2, xm5_3, xm5_4, xj5_5, xm5_6, xm5_7, xj5_8, xm5_9, xm5_10, xm5_11, xj5_12, xj5_13, xm5_14, xj5_15, xk5_0_ret, xk5_1_ret, xk5_2_ret, xk5_3_ret, xk5_4_ret, xk5_5_ret, xk5_6_ret, xk5_7_ret, xk5_8_ret, xk5_9_ret, xk5_10_ret, ↓syP, syA, rtN, pureL, V.pure, nsh, stBk, V.kill, killL, spl, V.shift, shiftL, V.scal, scalL, intR, boolR, threeV, Nat.reduceAdd, Nat.reduceSub, Nat.reduceMul, Nat.reduceLT, Nat.reduceLeDiff, Nat.reduceEqDiff, Nat.reduceBEq, Nat.reduceBNe, Int.reduceBEq, Int.reduceBNe, Int.reduceLT, Int.reduceLE, Int.reduceAdd, Int.reduceSub, Int.reduceNeg, xF, xcallV, xcallC, xcallL, xcallY, xevY, xY_ready, xrange, xG_fn, xR, xA, xcl62, xclk62, xcl71, xclk71, awk04', awk21', awk17', h_poacherlaw04_Few, h_model_Accepts, g_poacherlaw21_ModelOnce_L0_eq k v0 v1 v2]
  all_goals simp -implicitDefEqProofs only [List.map_nil]
end Go.Ab
