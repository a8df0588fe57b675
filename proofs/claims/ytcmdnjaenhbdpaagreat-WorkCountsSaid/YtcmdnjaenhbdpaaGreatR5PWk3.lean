/- What a worker's step keeps. -/
import Derived.Test.YtcmdnjaenhbdpaaGreatR5PWk2
set_option linter.unusedVariables false
set_option linter.unusedSimpArgs false
set_option linter.unusedVariables false
namespace Go.Ab
section
variable {c : CF} {t : List (Int × List Int)} {m : List Int} {w : Int} {x : WB} {d : Int}
theorem work_evs : (workB c t m w x d).2.2.length ≤ 2 := by
  refine work_ind (P := fun r => r.2.2.length ≤ 2) (fun _ => Nat.zero_le _) ?_ ?_ ?_ ?_ ?_ ?_ ?_ ?_ ?_ ?_ ?_ ?_ ?_ ?_ ?_
  all_goals intro _ _
  all_goals dsimp only [wPop, wSeek, wLook, wFound, wPrep, wLeave, wAgain, wCommit, wRun, wPend, wPush, wOver, wSee, wWake, wDone]
  all_goals repeat' split
  all_goals simp
theorem mayW_of (h : mayWB c t m w x = true) : mayC c = true ∧ (m.length : Int) = sizeC c ∧ mayB t = true ∧ (0 ≤ w ∧ w < c.1 ∧ 0 ≤ x.1 ∧ x.1 < 16) ∧ stackB t x.2.1 = true := by
  unfold mayWB at h
  simp only [Bool.and_eq_true, decide_eq_true_eq] at h
  exact ⟨h.1.1.1.1, h.1.1.1.2, h.1.1.2, h.1.2, h.2⟩
end
end Go.Ab
