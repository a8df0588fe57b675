/- ForestFewer: for every input the call returns true, and each argument reads afterwards as it read before. No condition. -/
import Derived.Test.YtecgfaaaloameaaR1PLFFewer
import Derived.Test.YtecgfaaaloameaaR1Row
import Derived.Test.YtecgfaaaloameaaR1PWf
import Derived.Test.YtecgfaaaloameaaRows
import Derived.WalkKit
import Derived.ProofKit
import Derived.OpenShut
import Derived.ShutString
import Derived.ChangeOld
import Derived.Below
import Derived.SizedLaws
namespace Go.Proofs.Ytecgfaaaloameaa.forestFewer
open Go.ChangeShapes Go.WideShapes Go.ChangeAt Go.RowKit Go.Ab
set_option linter.unusedVariables false
theorem own : ownKnob Try.prog.godebug = none := by kernel_rfl
theorem laidOut : laidOutB Try.prog = true := by kernel_rfl
set_option maxRecDepth 100000 in
theorem lifted (os : Os) (started : os.Started) (H : Type) (enc : TypeId × Value → H) :
    ReturnsInHanded {} Try.checked os 19 .any (Rows.forestFewerSpec.pre6 enc Try.prog Try.f19 Rows.forestFewerRow.domain false) (Rows.forestFewerSpec.post enc Try.prog Try.f19 false true false false) := by
  refine returnsInHanded_of_change_sized (C := Try.checked) own started (by kernel_rfl) Try.func19
    (ChangeSpec.witness6 (enc := enc) (C := Try.checked) false ⟨#[], #[.slice none 0 0], []⟩ 8 (by kernel_rfl) (by kernel_rfl) (by kernel_rfl) (by kernel_rfl)) ?_
  intro W base args ds gs before hval0 hW hcnd hsz0 _
  have hval : ∀ (j : Nat) t v, Try.f19.params[j]? = some t → args[j]? = some v → Value.okWide Try.prog W .any base t v := hval0
  have hW' := hW
  obtain ⟨p, q, hA0, hV, rfl, hfz, hnd⟩ := hW
  have hA : DataW.TrodAll enc Try.prog W 0 (fun _ => true) true Try.f19.params.toList args.toList ds p := hA0
  rw [Try.params19] at hA hval
  obtain ⟨v0, vs0, d0, ds0, p0, q0, hargs, rfl, rfl, h0, r0⟩ := trodAll_cons hA
  obtain ⟨rfl, rfl, rfl⟩ := trodAll_nil r0
  obtain rfl : args = #[v0] := by cases args; simp_all
  obtain ⟨rfl, rfl⟩ := trodVars_none hV
  obtain ⟨a0, len0, cap0, rfl⟩ := okWide_slice Try.underlying22 (hval 0 22 v0 rfl rfl)
  have k0 := h0
  have lt0 : ∀ x ∈ p0, x.block < W.heap.size := by obtain ⟨m, hm⟩ := k0; exact DataW.trod_lt m _ _ _ hm
  obtain ⟨fu0, hf0⟩ := h0
  obtain ⟨w0, c0, s0⟩ := absorb 8 fu0 22 _ _ (by kernel_rfl) hf0
  obtain ⟨l0, rfl, wf0, m0⟩ := shape_tasks Try.underlying22 Try.underlying40 rfl rfl rfl rfl Try.underlying3 Try.underlying23 (by kernel_rfl) (by kernel_rfl) (by kernel_rfl) s0
  have hrel : RelA (allR W) [] [tasksV l0] #[.slice a0 len0 cap0] := ((c0.rel 0 _ _ rfl rfl).cons (RelA.nil _ _))
  obtain ⟨H', hp⟩ := xC_lit (law_FFewer 9223372036854799990 (by omega) l0 (wt_of m0 wf0))
  clear hA0 hval0 hsz0
  refine (r1_calls hp hrel).mono fun e W' ⟨he, bel⟩ => ?_
  subst he
  exact ⟨_, rfl, _, _, _, [], _, [], hW', trodAll_mk1 (shut_bool Try.underlying4 _), (trodAll_cons_mk (Below.trod laidOut (by kernel_rfl) (of_decide_eq_true (by kernel_rfl)) k0 bel lt0) trodAll_mk0), rfl, bel.frame _, fun h => by cases h⟩
theorem over : Rows.forestFewerRow.holds Try.pinned (OpenSpec.ofChange Rows.forestFewerSpec) :=
  OpenClaim.holds_of_wide 19 Try.f19 rfl rfl rfl rfl rfl rfl rfl ⟨rfl, rfl, rfl, rfl, rfl⟩ rfl rfl rfl rfl rfl (by kernel_rfl) Try.func19 (by kernel_rfl)
    (of_decide_eq_true (by kernel_rfl)) (by unfold Func.isWrapper; first | (rw [if_pos (by decide +kernel)]; kernel_rfl) | (rw [if_neg (by decide +kernel)]; exact ⟨rfl, rfl⟩))
    (fun os started H enc _ => lifted os started H enc)
end Go.Proofs.Ytecgfaaaloameaa.forestFewer
namespace Go.Proofs.Ytecgfaaaloameaa
theorem forestFewer_holds : Rows.ForestFewerSaid := forestFewer.over
end Go.Proofs.Ytecgfaaaloameaa
#print axioms Go.Proofs.Ytecgfaaaloameaa.forestFewer_holds
