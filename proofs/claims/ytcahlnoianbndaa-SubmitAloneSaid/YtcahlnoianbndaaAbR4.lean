/- The seat Ytcahlnoianbndaa: how its program is evaluated, and that this is right. -/
import Derived.Test.YtcahlnoianbndaaAbLibB
import Derived.Test.YtcahlnoianbndaaProg
set_option linter.unusedVariables false
set_option linter.unusedSimpArgs false
namespace Go.Ab
open Go.Proofs
def modeR4 (P : Program) (named : Nat → Nat) : Mode where
  orc f := if f = 21 then some (cloneO P 26) else if f = 22 then some (cloneO P 27) else none
  keepRes c f := if f = 21 ∧ c = 42 then some (fun _ => true) else none
  keepArg f := false
  named := named
theorem mixed : Try.prog.follows .mixedOrders = true := by kernel_rfl
theorem copies21 : ∃ c, Try.f21.body = some c ∧ Copies c 26 := ⟨_, rfl, ⟨⟨_, _, _, _, _, _, _, _, _, rfl, rfl, rfl, rfl, rfl⟩⟩⟩
theorem copies22 : ∃ c, Try.f22.body = some c ∧ Copies c 27 := ⟨_, rfl, ⟨⟨_, _, _, _, _, _, _, _, _, rfl, rfl, rfl, rfl, rfl⟩⟩⟩
theorem named_ok : Named Try.prog := by
  have h : (Try.prog.funcs.toList.all fun fn => !(fn.name == "runtime.NumGoroutine")) = true := by kernel_rfl
  intro f fn hf
  rw [List.all_eq_true] at h
  have := h fn (by simpa using Array.mem_of_getElem? hf)
  simpa using this
theorem orc_ok (named : Nat → Nat) : OrcOk Try.prog (modeR4 Try.prog named) := by
  intro f o ho args H v H' h
  simp only [modeR4] at ho
  split at ho
  · rename_i hf
    cases ho
    subst hf
    exact ⟨⟨Try.f21, Try.func21, named_ok 21 _ Try.func21, rfl⟩, fun B0 w0 R σ w cargs hI hA => clone_calls mixed Try.func21 copies21 rfl rfl h hI hA⟩
  · split at ho
    · rename_i hf
      cases ho
      subst hf
      exact ⟨⟨Try.f22, Try.func22, named_ok 22 _ Try.func22, rfl⟩, fun B0 w0 R σ w cargs hI hA => clone_calls mixed Try.func22 copies22 rfl rfl h hI hA⟩
    · cases ho
theorem r4_calls {named : Nat → Nat} {k f : Nat} {args : List V} {v : Value} {H' : Hp} (h : evF Try.prog (modeR4 Try.prog named) k 0 f args [] = some (.lit v, H')) {cargs : Array Value} {w : World} (hA : RelA (allR w) [] args cargs) :
    Calls Try.prog f cargs w fun e w' => e = .returned v ∧ RowKit.Below w.heap.size w w' := data_calls mixed named_ok (orc_ok named) h hA
end Go.Ab
