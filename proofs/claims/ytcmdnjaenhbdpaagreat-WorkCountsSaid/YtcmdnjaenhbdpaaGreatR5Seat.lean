/- The seat's program, and how it is evaluated. -/
import Derived.Test.YtcmdnjaenhbdpaaGreatAbLibC
import Derived.Test.YtcmdnjaenhbdpaaGreatAbR5
set_option linter.unusedVariables false
set_option linter.unusedSimpArgs false
namespace Go.Ab
open Go.Proofs
def xN : List Nat := [0, 0, 0, 21, 22, 25, 18, 15, 8, 6, 17, 10, 4, 4, 2, 6, 2, 4, 2, 4, 2, 2, 3, 2, 3, 3, 2, 2, 6, 2, 2, 3, 2, 3, 2, 2, 4, 2, 2, 6, 4, 4, 4, 4, 6, 2, 4, 4, 4, 7, 10, 8, 4, 4, 4, 7, 8, 6, 6, 4, 4, 2, 2, 4, 5, 4, 6, 6, 2, 6, 6, 6, 8, 6, 4, 6, 0, 0, 0, 6, 7, 6, 10, 14, 10, 14, 14, 11, 11, 9, 3, 2, 2, 2, 2, 2, 3, 2, 2, 10, 9, 0, 13, 2, 6, 9, 4, 2, 2, 2, 2, 7, 9, 6, 0, 0, 0, 4, 8, 2, 2, 4, 2, 2, 0, 4, 4, 4, 2, 4, 4, 6, 5, 2, 2, 5, 2, 0, 0, 4, 2, 0, 0, 0, 4, 4, 0, 0, 0, 0, 0, 0, 0, 0, 0, 0, 0, 0, 0, 0, 0, 0]
noncomputable def xM : Mode := modeR5 Tryz.prog (fun f => xN.getD f 0)
noncomputable def xX (s : Sys) (fid wl k : Nat) (rd : Bool) : Cx := { P := s.P, M := ⟨s.orc, s.keepRes, s.keepArg, fun f => xN.getD f 0⟩, fid, round := rd, wl, call := s.call, yld := s.yld, n := k }
noncomputable def xS (k : Nat) : Sys := ⟨Tryz.prog, xM.orc, xM.keepRes, xM.keepArg, evF Tryz.prog xM k, evY Tryz.prog xM k⟩
noncomputable def xC (k : Nat) (keep : Option (Nat → Bool)) (g : FuncId) (args : List V) : Option (V × Hp) := (evF Tryz.prog xM k 0 g args []).bind fun p => retV keep p.1 p.2
end Go.Ab
