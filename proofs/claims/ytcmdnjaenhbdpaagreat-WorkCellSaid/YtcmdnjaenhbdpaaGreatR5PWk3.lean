/- What a worker's step keeps. -/
import Derived.Test.YtcmdnjaenhbdpaaGreatR5PWk2
set_option linter.unusedVariables false
set_option linter.unusedSimpArgs false
set_option linter.unusedVariables false
namespace Go.Ab
theorem push_one (c : CF) (m : List Int) (f : FR) : One m (pushB c m f).1 := by
  unfold pushB
  repeat' split
  all_goals first | exact One.same m | exact One.store m _ _ | exact One.cas m _ _ _
theorem pop_one (c : CF) (m : List Int) (f : FR) : One m (popB c m f).1 := by
  unfold popB
  repeat' split
  all_goals first | exact One.same m | exact One.store m _ _ | exact One.cas m _ _ _
theorem steal_one (c : CF) (m : List Int) (f : FR) : One m (stealB c m f).1 := by
  unfold stealB
  dsimp only
  repeat' split
  all_goals first | exact One.same m | exact One.store m _ _ | exact One.cas m _ _ _
theorem callK_one (c : CF) (m : List Int) (f : FR) : One m (callK c m f).1 := by
  unfold callK deckB
  repeat' split
  all_goals first | exact One.same m | exact push_one c m f | exact pop_one c m f | exact steal_one c m f | exact call_one c m f
section
variable {c : CF} {t : List (Int × List Int)} {m : List Int} {w : Int} {x : WB} {d : Int}
theorem work_stay (h : mayWB c t m w x = false) : workB c t m w x d = (m, x, []) := by
  unfold workB
  rw [if_pos h]
theorem work_one : One m (workB c t m w x d).1 := by
  refine work_ind (P := fun r => One m r.1) (fun _ => One.same m) ?_ ?_ ?_ ?_ ?_ ?_ ?_ ?_ ?_ ?_ ?_ ?_ ?_ ?_ ?_
  all_goals intro _ _
  all_goals dsimp only [wPop, wSeek, wLook, wFound, wPrep, wLeave, wAgain, wCommit, wRun, wPend, wPush, wOver, wSee, wWake, wDone]
  all_goals repeat' split
  all_goals (try dsimp only)
  all_goals first | exact One.same m | exact One.store m _ _ | exact callK_one c m _
theorem work_evs : (workB c t m w x d).2.2.length ≤ 2 := by
  refine work_ind (P := fun r => r.2.2.length ≤ 2) (fun _ => Nat.zero_le _) ?_ ?_ ?_ ?_ ?_ ?_ ?_ ?_ ?_ ?_ ?_ ?_ ?_ ?_ ?_
  all_goals intro _ _
  all_goals dsimp only [wPop, wSeek, wLook, wFound, wPrep, wLeave, wAgain, wCommit, wRun, wPend, wPush, wOver, wSee, wWake, wDone]
  all_goals repeat' split
  all_goals simp
theorem work_slen : (workB c t m w x d).2.1.2.1.length ≤ x.2.1.length + 1 := by
  have h1 := fun q => startB_len t x.2.1 q
  have h2 := doB_len t x.2.1
  refine work_ind (P := fun r => r.2.1.2.1.length ≤ x.2.1.length + 1) (fun _ => Nat.le_succ _) ?_ ?_ ?_ ?_ ?_ ?_ ?_ ?_ ?_ ?_ ?_ ?_ ?_ ?_ ?_
  all_goals intro _ _
  all_goals dsimp only [wPop, wSeek, wLook, wFound, wPrep, wLeave, wAgain, wCommit, wRun, wPend, wPush, wOver, wSee, wWake, wDone, toW, withW]
  all_goals repeat' split
  all_goals first | exact Nat.le_succ _ | exact h1 _ | (dsimp only; omega) | simp
theorem start_stack {s : List (Int × Int × Int)} (h : stackB t s = true) (q : Int) : stackB t (startB t s q) = true := by
  unfold startB
  split
  · rename_i g
    have := stack_iff.1 h
    exact stack_snoc.2 ⟨this.1, this.2, it_new this.1 g.2.1 g.2.2⟩
  · exact h
theorem do_keep {s : List (Int × Int × Int)} (h : stackB t s = true) : stackB t (doB t s) = true := by
  rcases snoc_cases s with rfl | ⟨r, y, rfl⟩
  · exact h
  · exact (do_stack h).1
theorem mayW_of (h : mayWB c t m w x = true) : mayC c = true ∧ (m.length : Int) = sizeC c ∧ mayB t = true ∧ (0 ≤ w ∧ w < c.1 ∧ 0 ≤ x.1 ∧ x.1 < 16) ∧ stackB t x.2.1 = true := by
  unfold mayWB at h
  simp only [Bool.and_eq_true, decide_eq_true_eq] at h
  exact ⟨h.1.1.1.1, h.1.1.1.2, h.1.1.2, h.1.2, h.2⟩
theorem mayW_mk (h1 : mayC c = true) (h2 : (m.length : Int) = sizeC c) (h3 : mayB t = true) (h4 : 0 ≤ w ∧ w < c.1 ∧ 0 ≤ x.1 ∧ x.1 < 16) (h5 : stackB t x.2.1 = true) : mayWB c t m w x = true := by
  unfold mayWB
  rw [h1, h3, h5, decide_eq_true h2, decide_eq_true h4]
  rfl
theorem work_may (h : mayWB c t m w x = true) : mayWB c t (workB c t m w x d).1 w (workB c t m w x d).2.1 = true := by
  obtain ⟨h1, h2, h3, h4, h5⟩ := mayW_of h
  have hl := (work_one (c := c) (t := t) (m := m) (w := w) (x := x) (d := d)).len
  have key : 0 ≤ (workB c t m w x d).2.1.1 ∧ (workB c t m w x d).2.1.1 < 16 ∧ stackB t (workB c t m w x d).2.1.2.1 = true := by
    have g1 := start_stack h5
    have g2 := do_keep h5
    have g3 : stackB t [] = true := stack_iff.2 ⟨h3, fun y hy => absurd hy (by simp)⟩
    refine work_ind (P := fun r => 0 ≤ r.2.1.1 ∧ r.2.1.1 < 16 ∧ stackB t r.2.1.2.1 = true) (fun _ => ⟨h4.2.2.1, h4.2.2.2, h5⟩) ?_ ?_ ?_ ?_ ?_ ?_ ?_ ?_ ?_ ?_ ?_ ?_ ?_ ?_ ?_
    all_goals intro _ _
    all_goals dsimp only [wPop, wSeek, wLook, wFound, wPrep, wLeave, wAgain, wCommit, wRun, wPend, wPush, wOver, wSee, wWake, wDone, toW, withW]
    all_goals repeat' split
    all_goals refine ⟨?_, ?_, ?_⟩
    all_goals (try dsimp only)
    all_goals first | omega | exact h5 | exact g1 _ | exact g2 | exact g3
  exact mayW_mk h1 (by rw [hl]; exact h2) h3 ⟨h4.1, h4.2.1, key.1, key.2.1⟩ key.2.2
end
theorem c_WkSame {k : Nat} (hk : 9223372036854775808 ≤ k) (x y : WB) (h : x.2.1.length ≤ 1000) : ∃ b, g_work_Same k x y = some b ∧ (b = true ↔ x = y) := by
  obtain ⟨a0, sa, ⟨f0, f1, f2, f3, f4, f5, f6⟩, a3, a4⟩ := x
  obtain ⟨b0, sb, ⟨g0, g1, g2, g3, g4, g5, g6⟩, b3, b4⟩ := y
  unfold g_work_Same
  dsimp only at h ⊢
  rw [c_TSame k hk sa sb (by omega), ob_some]
  simp only [Prod.mk.injEq, Bool.cond_eq_ite, Bool.and_eq_true, beq_iff_eq]
  repeat' split
  all_goals refine ⟨_, rfl, ?_⟩
  all_goals simp_all
end Go.Ab
