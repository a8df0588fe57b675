/- The seat YtcmdnjaenhbdpaaGreat: how its program is evaluated, and that this is right. -/
import Derived.Test.YtcmdnjaenhbdpaaGreatAbLibB
import Derived.Test.YtcmdnjaenhbdpaaGreatProg
set_option linter.unusedVariables false
set_option linter.unusedSimpArgs false
namespace Go.Ab
open Go.Proofs
def modeR5 (P : Program) (named : Nat → Nat) : Mode where
  orc f := if f = 20 then some (cloneO P 26) else if f = 21 then some (cloneO P 27) else none
  keepRes c f := if f = 20 ∧ c = 89 ∨ f = 21 ∧ c = 56 ∨ f = 21 ∧ c = 72 then some (fun _ => true) else none
  keepArg f := f == 91 || f == 92 || f == 93
  named := named
theorem mixed : Tryz.prog.follows .mixedOrders = true := by kernel_rfl
theorem copies20 : ∃ c, Tryz.f20.body = some c ∧ Copies c 26 := ⟨_, rfl, ⟨⟨_, _, _, _, _, _, _, _, _, rfl, rfl, rfl, rfl, rfl⟩⟩⟩
theorem copies21 : ∃ c, Tryz.f21.body = some c ∧ Copies c 27 := ⟨_, rfl, ⟨⟨_, _, _, _, _, _, _, _, _, rfl, rfl, rfl, rfl, rfl⟩⟩⟩
theorem named_ok : Named Tryz.prog := by
  have h : (Tryz.prog.funcs.toList.all fun fn => !(fn.name == "runtime.NumGoroutine")) = true := by kernel_rfl
  intro f fn hf
  rw [List.all_eq_true] at h
  have := h fn (by simpa using Array.mem_of_getElem? hf)
  simpa using this
theorem orc_ok (named : Nat → Nat) : OrcOk Tryz.prog (modeR5 Tryz.prog named) := by
  intro f o ho args H v H' h
  simp only [modeR5] at ho
  split at ho
  · rename_i hf
    cases ho
    subst hf
    exact ⟨⟨Tryz.f20, Tryz.func20, named_ok 20 _ Tryz.func20, rfl⟩, fun B0 w0 R σ w cargs hI hA => clone_calls mixed Tryz.func20 copies20 rfl rfl h hI hA⟩
  · split at ho
    · rename_i hf
      cases ho
      subst hf
      exact ⟨⟨Tryz.f21, Tryz.func21, named_ok 21 _ Tryz.func21, rfl⟩, fun B0 w0 R σ w cargs hI hA => clone_calls mixed Tryz.func21 copies21 rfl rfl h hI hA⟩
    · cases ho
theorem r5_calls {named : Nat → Nat} {k f : Nat} {args : List V} {v : Value} {H' : Hp} (h : evF Tryz.prog (modeR5 Tryz.prog named) k 0 f args [] = some (.lit v, H')) {cargs : Array Value} {w : World} (hA : RelA (allR w) [] args cargs) :
    Calls Tryz.prog f cargs w fun e w' => e = .returned v ∧ RowKit.Below w.heap.size w w' := data_calls mixed named_ok (orc_ok named) h hA
end Go.Ab
