/- The seat Ythnifkacfonhgaa: how its program is evaluated, and that this is right. -/
import Derived.Test.YthnifkacfonhgaaAbLibB
import Derived.Test.YthnifkacfonhgaaR2Rep
import Derived.Test.YthnifkacfonhgaaProg
set_option linter.unusedVariables false
set_option linter.unusedSimpArgs false
namespace Go.Ab
open Go.Proofs
def namedOf (fn : Func) : Nat := (fn.tmpNames.toList.zipIdx.foldl (fun a (p : String × Nat) => if p.1 != "" then p.2 + 1 else a) 0)
def modeR2 (P : Program) (named : Nat → Nat) : Mode where
  orc f := if f = 50 then some (cloneO P 25) else if f = 83 then some (cloneO P 50) else if f = 84 then some repO else none
  keepRes c f := if f = 50 ∧ c = 73 ∨ (f = 83 ∨ f = 84) ∧ c = 46 then some (fun _ => true) else none
  keepArg f := false
  named := named
theorem mixed : Try.prog.follows .mixedOrders = true := by kernel_rfl
theorem copies50 : ∃ c, Try.f50.body = some c ∧ Copies c 25 := ⟨_, rfl, ⟨⟨_, _, _, _, _, _, _, _, _, rfl, rfl, rfl, rfl, rfl⟩⟩⟩
theorem copies83 : ∃ c, Try.f83.body = some c ∧ Copies c 50 := ⟨_, rfl, ⟨⟨_, _, _, _, _, _, _, _, _, rfl, rfl, rfl, rfl, rfl⟩⟩⟩
theorem named_ok : Named Try.prog := by
  have h : (Try.prog.funcs.toList.all fun fn => !(fn.name == "runtime.NumGoroutine")) = true := by kernel_rfl
  intro f fn hf
  rw [List.all_eq_true] at h
  have := h fn (by simpa using Array.mem_of_getElem? hf)
  simpa using this
theorem orc_ok (named : Nat → Nat) : OrcOk Try.prog (modeR2 Try.prog named) := by
  intro f o ho args H v H' h
  simp only [modeR2] at ho
  split at ho
  · rename_i hf
    cases ho
    subst hf
    exact ⟨⟨Try.f50, Try.func50, named_ok 50 _ Try.func50, rfl⟩, fun B0 w0 R σ w cargs hI hA => clone_calls mixed Try.func50 copies50 rfl rfl h hI hA⟩
  · split at ho
    · rename_i hf
      cases ho
      subst hf
      exact ⟨⟨Try.f83, Try.func83, named_ok 83 _ Try.func83, rfl⟩, fun B0 w0 R σ w cargs hI hA => clone_calls mixed Try.func83 copies83 rfl rfl h hI hA⟩
    · split at ho
      · rename_i hf
        cases ho
        subst hf
        exact ⟨⟨Try.f84, Try.func84, named_ok 84 _ Try.func84, rfl⟩, fun B0 w0 R σ w cargs hI hA => rep_calls h hI hA⟩
      · cases ho
theorem r2_calls {named : Nat → Nat} {k f : Nat} {args : List V} {v : Value} {H' : Hp} (h : evF Try.prog (modeR2 Try.prog named) k 0 f args [] = some (.lit v, H')) {cargs : Array Value} {w : World} (hA : RelA (allR w) [] args cargs) :
    Calls Try.prog f cargs w fun e w' => e = .returned v ∧ RowKit.Below w.heap.size w w' := data_calls mixed named_ok (orc_ok named) h hA
end Go.Ab
