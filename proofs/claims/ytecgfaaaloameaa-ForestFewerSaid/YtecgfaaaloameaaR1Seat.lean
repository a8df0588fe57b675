/- The seat's program, and how it is evaluated. -/
import Derived.Test.YtecgfaaaloameaaAbLibC
import Derived.Test.YtecgfaaaloameaaAbR1
namespace Go.Ab
open Go.Proofs
def xN : List Nat := [0, 0, 0, 20, 13, 15, 10, 14, 17, 12, 15, 9, 14, 12, 10, 10, 18, 14, 16, 13, 14, 12, 13, 6, 4, 12, 12, 6, 2, 4, 7, 9, 10, 4, 7, 2, 7, 7, 6, 8, 8, 8, 8, 8, 7, 7, 8, 7, 4, 4, 6, 6, 7, 7, 7, 7, 5, 6, 4, 6, 4, 8, 2, 4, 9, 7, 10, 10, 4, 2, 2, 2, 0, 4, 4, 5, 6, 4, 2, 0, 2, 4, 8, 10, 4, 6, 2, 0, 0, 0, 0, 3, 6, 7, 2, 2, 2, 6, 6, 6, 5, 5, 3, 0, 0, 0, 0, 0, 0, 0]
noncomputable def xM : Mode := modeR1 Try.prog (fun f => xN.getD f 0)
noncomputable def xX (s : Sys) (fid wl k : Nat) (rd : Bool) : Cx := { P := s.P, M := ⟨s.orc, s.keepRes, s.keepArg, fun f => xN.getD f 0⟩, fid, round := rd, wl, call := s.call, yld := s.yld, n := k }
noncomputable def xS (k : Nat) : Sys := ⟨Try.prog, xM.orc, xM.keepRes, xM.keepArg, evF Try.prog xM k, evY Try.prog xM k⟩
/-- A call whose arguments are data, as what comes back of it. -/
noncomputable def xC (k : Nat) (keep : Option (Nat → Bool)) (g : FuncId) (args : List V) : Option (V × Hp) := (evF Try.prog xM k 0 g args []).bind fun p => retV keep p.1 p.2
theorem xcall {k fid wl n : Nat} {rd : Bool} {g : FuncId} {args : List V} : callRes (xX (xS k) fid wl n rd) g args = xC k (xM.keepRes fid g) g args := rfl
theorem xwl {s : Sys} {k fid wl : Nat} {rd : Bool} : (xX s fid wl k rd).wl = wl := rfl
end Go.Ab
