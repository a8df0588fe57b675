/- What a worker's step keeps. -/
import Derived.Test.YtcmdnjaenhbdpaaGreatR5PWk2
set_option linter.unusedVariables false
set_option linter.unusedSimpArgs false
set_option linter.unusedVariables false
namespace Go.Ab
section
variable {c : CF} {t : List (Int × List Int)} {m : List Int} {w : Int} {x : WB} {d : Int}
theorem mayW_of (h : mayWB c t m w x = true) : mayC c = true ∧ (m.length : Int) = sizeC c ∧ mayB t = true ∧ (0 ≤ w ∧ w < c.1 ∧ 0 ≤ x.1 ∧ x.1 < 16) ∧ stackB t x.2.1 = true := by
  unfold mayWB at h
  simp only [Bool.and_eq_true, decide_eq_true_eq] at h
  exact ⟨h.1.1.1.1, h.1.1.1.2, h.1.1.2, h.1.2, h.2⟩
theorem mayW_mk (h1 : mayC c = true) (h2 : (m.length : Int) = sizeC c) (h3 : mayB t = true) (h4 : 0 ≤ w ∧ w < c.1 ∧ 0 ≤ x.1 ∧ x.1 < 16) (h5 : stackB t x.2.1 = true) : mayWB c t m w x = true := by
  unfold mayWB
  rw [h1, h3, h5, decide_eq_true h2, decide_eq_true h4]
  rfl
end
end Go.Ab
