/- WaitCells as it is walked: the words alone (development). -/
import Derived.Test.YthnifkacfonhgaaR2GW
set_option linter.unusedVariables false
set_option linter.unusedSimpArgs false
set_option linter.unusedVariables false
namespace Go.Ab
def o_WaitCells_L0 (k : Nat) (v0 : (Int × Int × Int × Int)) (v1 : (List Int)) (v2 : (Int × Int × Int × Int × Int × Int × Int))  : Nat → List Int → Int → Int → Int → Int → Int → Int → Int → Int → Int → Int → Option Bool
  | 0,_,_,_,_,_,_,_,_,_,_,_ => none
  | n + 1,s3,s4,s5,s6,s7,s8,s9,s10,s17,s18,s19 =>
    bif decide (s19 < (↑v1.length : Int)) then
     ob (idx s3 s19) fun x49 =>
     ob (idx v1 s19) fun x50 =>
     bif x49 != x50 then
      o_WaitCells_L0 k v0 v1 v2  n (s3) (s4) (s5) (s6) (s7) (s8) (s9) (s10) (IntKind.i64.wrap (s17 + (1 : Int))) (s19) (IntKind.i64.wrap (s19 + (1 : Int)))
     else
      o_WaitCells_L0 k v0 v1 v2  n (s3) (s4) (s5) (s6) (s7) (s8) (s9) (s10) (s17) (s18) (IntKind.i64.wrap (s19 + (1 : Int)))
    else
     ob (g_push_Goes (v0.1,v0.2.1,v0.2.2.1,v0.2.2.2) v1 (v2.1,v2.2.1,v2.2.2.1,v2.2.2.2.1,v2.2.2.2.2.1,v2.2.2.2.2.2.1,v2.2.2.2.2.2.2) (5 : Int) (5 : Int)) fun x51 =>
     bif !x51 then
      bif s17 == (0 : Int) then
       some (s4 == v2.1 && (s5 == v2.2.1 && (s6 == v2.2.2.1 && (s7 == v2.2.2.2.1 && (s8 == v2.2.2.2.2.1 && (s9 == v2.2.2.2.2.2.1 && s10 == v2.2.2.2.2.2.2))))))
      else
       some (false)
     else
      bif s17 == (0 : Int) then
       some (true)
      else
       bif s17 == (1 : Int) then
        bif v2.2.1 == (2 : Int) then
         bif s18 == (2 : Int) then
          ob (idx s3 s18) fun x52 =>
          ob (idx v1 s18) fun x53 =>
          ob (g_word_Set x53 v2.2.2.1) fun x54 =>
          bif x52 == x54 then
           bif s5 == (3 : Int) then
            some (true)
           else
            bif v2.2.1 == (4 : Int) then
             ob (g_lay_Park (v0.1,v0.2.1,v0.2.2.1,v0.2.2.2) v2.2.2.1) fun x55 =>
             bif s18 == x55 then
              ob (idx s3 s18) fun x56 =>
              some (x56 == (0 : Int))
             else
              some (false)
            else
             some (false)
          else
           bif v2.2.1 == (4 : Int) then
            ob (g_lay_Park (v0.1,v0.2.1,v0.2.2.1,v0.2.2.2) v2.2.2.1) fun x57 =>
            bif s18 == x57 then
             ob (idx s3 s18) fun x58 =>
             some (x58 == (0 : Int))
            else
             some (false)
           else
            some (false)
         else
          bif v2.2.1 == (4 : Int) then
           ob (g_lay_Park (v0.1,v0.2.1,v0.2.2.1,v0.2.2.2) v2.2.2.1) fun x59 =>
           bif s18 == x59 then
            ob (idx s3 s18) fun x60 =>
            some (x60 == (0 : Int))
           else
            some (false)
          else
           some (false)
        else
         bif v2.2.1 == (4 : Int) then
          ob (g_lay_Park (v0.1,v0.2.1,v0.2.2.1,v0.2.2.2) v2.2.2.1) fun x61 =>
          bif s18 == x61 then
           ob (idx s3 s18) fun x62 =>
           some (x62 == (0 : Int))
          else
           some (false)
         else
          some (false)
       else
        some (false)
def o_WaitCells (k : Nat) (v0 : (Int × Int × Int × Int)) (v1 : (List Int)) (v2 : (Int × Int × Int × Int × Int × Int × Int)) : Option Bool :=
  bif decide ((500 : Int) < (↑v1.length : Int)) then
   some (true)
  else
   ob (g_wait_Step (v0.1,v0.2.1,v0.2.2.1,v0.2.2.2) v1 (v2.1,v2.2.1,v2.2.2.1,v2.2.2.2.1,v2.2.2.2.2.1,v2.2.2.2.2.2.1,v2.2.2.2.2.2.2)) fun x63 =>
   bif (↑x63.fst.length : Int) != (↑v1.length : Int) then
    some (false)
   else
    o_WaitCells_L0 k v0 v1 v2 (k + (60 : Nat)) (x63.fst) (x63.snd.fst) (x63.snd.snd.fst) (x63.snd.snd.snd.fst) (x63.snd.snd.snd.snd.fst) (x63.snd.snd.snd.snd.snd.fst) (x63.snd.snd.snd.snd.snd.snd.fst) (x63.snd.snd.snd.snd.snd.snd.snd) ((0 : Int)) ((-1 : Int)) ((0 : Int))
end Go.Ab
