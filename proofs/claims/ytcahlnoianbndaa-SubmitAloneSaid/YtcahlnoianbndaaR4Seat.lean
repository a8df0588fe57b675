/- The seat's program, and how it is evaluated. -/
import Derived.Test.YtcahlnoianbndaaAbLibC
import Derived.Test.YtcahlnoianbndaaAbR4
set_option linter.unusedVariables false
set_option linter.unusedSimpArgs false
namespace Go.Ab
open Go.Proofs
def xN : List Nat := [0, 0, 0, 23, 19, 20, 18, 21, 11, 4, 21, 8, 4, 2, 2, 4, 2, 4, 9, 6, 7, 2, 2, 6, 0, 5, 6, 6, 2, 0, 0, 6, 6, 0, 0, 0, 5, 2, 6, 6, 6, 4, 9, 0, 10, 14, 11, 11, 3, 4, 4, 2, 2, 2, 2, 3, 2, 2, 10, 9, 0, 13, 2, 6, 9, 4, 8, 2, 2, 4, 2, 2, 0, 4, 4, 4, 4, 6, 7, 2, 4, 4, 6, 5, 2, 2, 5, 2, 4, 2, 6, 0, 0, 0, 4, 4, 0, 0, 0, 0, 0, 0, 0, 0, 0, 0, 0, 0, 0, 0]
noncomputable def xM : Mode := modeR4 Try.prog (fun f => xN.getD f 0)
noncomputable def xX (s : Sys) (fid wl k : Nat) (rd : Bool) : Cx := { P := s.P, M := ⟨s.orc, s.keepRes, s.keepArg, fun f => xN.getD f 0⟩, fid, round := rd, wl, call := s.call, yld := s.yld, n := k }
noncomputable def xS (k : Nat) : Sys := ⟨Try.prog, xM.orc, xM.keepRes, xM.keepArg, evF Try.prog xM k, evY Try.prog xM k⟩
noncomputable def xC (k : Nat) (keep : Option (Nat → Bool)) (g : FuncId) (args : List V) : Option (V × Hp) := (evF Try.prog xM k 0 g args []).bind fun p => retV keep p.1 p.2
end Go.Ab
