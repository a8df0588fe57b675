/- The seat Ytecgfaaaloameaa: how its program is evaluated, and that this is right. -/
import Derived.Test.YtecgfaaaloameaaAbLibB
import Derived.Test.YtecgfaaaloameaaProg
namespace Go.Ab
open Go.Proofs

/-- How many slots of a function are named. -/
def namedOf (fn : Func) : Nat := (fn.tmpNames.toList.zipIdx.foldl (fun a (p : String × Nat) => if p.1 != "" then p.2 + 1 else a) 0)

/-- Two copies of slices, and what stays owned. -/
def modeR1 (P : Program) (named : Nat → Nat) : Mode where
  orc f := if f = 62 then some (cloneO P 23) else if f = 71 then some (cloneO P 43) else none
  keepRes c f := if f = 62 then (if c = 25 then some (fun _ => true) else none) else if f = 71 then some (fun _ => true) else none
  keepArg f := f == 94 || f == 95 || f == 96 || f == 99
  named := named

theorem mixed : Try.prog.follows .mixedOrders = true := by kernel_rfl

theorem copies62 : ∃ c, Try.f62.body = some c ∧ Copies c 23 := ⟨_, rfl, ⟨⟨_, _, _, _, _, _, _, _, _, rfl, rfl, rfl, rfl, rfl⟩⟩⟩
theorem copies71 : ∃ c, Try.f71.body = some c ∧ Copies c 43 := ⟨_, rfl, ⟨⟨_, _, _, _, _, _, _, _, _, rfl, rfl, rfl, rfl, rfl⟩⟩⟩

theorem named_ok : Named Try.prog := by
  have h : (Try.prog.funcs.toList.all fun fn => !(fn.name == "runtime.NumGoroutine")) = true := by kernel_rfl
  intro f fn hf
  rw [List.all_eq_true] at h
  have := h fn (by simpa using Array.mem_of_getElem? hf)
  simpa using this

theorem orc_ok (named : Nat → Nat) : OrcOk Try.prog (modeR1 Try.prog named) := by
  intro f o ho args H v H' h
  simp only [modeR1] at ho
  split at ho
  · rename_i hf
    cases ho
    subst hf
    exact ⟨⟨Try.f62, Try.func62, named_ok 62 _ Try.func62, rfl⟩, fun B0 w0 R σ w cargs hI hA => clone_calls mixed Try.func62 copies62 rfl rfl h hI hA⟩
  · split at ho
    · rename_i hf
      cases ho
      subst hf
      exact ⟨⟨Try.f71, Try.func71, named_ok 71 _ Try.func71, rfl⟩, fun B0 w0 R σ w cargs hI hA => clone_calls mixed Try.func71 copies71 rfl rfl h hI hA⟩
    · cases ho

/-- A law's call, by the abstract evaluator. -/
theorem r1_calls {named : Nat → Nat} {k f : Nat} {args : List V} {v : Value} {H' : Hp} (h : evF Try.prog (modeR1 Try.prog named) k 0 f args [] = some (.lit v, H')) {cargs : Array Value} {w : World} (hA : RelA (allR w) [] args cargs) :
    Calls Try.prog f cargs w fun e w' => e = .returned v ∧ RowKit.Below w.heap.size w w' := data_calls mixed named_ok (orc_ok named) h hA

end Go.Ab
