/- What a worker's step leaves. -/
import Derived.Test.YtcmdnjaenhbdpaaGreatR5PWk
set_option linter.unusedVariables false
set_option linter.unusedSimpArgs false
set_option linter.unusedVariables false
namespace Go.Ab
theorem few_w {t : List (Int × List Int)} {n : Nat} (h : (fewB t && decide ((n : Int) ≤ 40)) = true) : t.length ≤ 40 ∧ n ≤ 40 := by
  rw [Bool.and_eq_true, decide_eq_true_eq] at h
  have h1 := h.1
  unfold fewB at h1
  rw [Bool.and_eq_true, decide_eq_true_eq] at h1
  exact ⟨h1.2, by omega⟩
theorem work_ind {c : CF} {t : List (Int × List Int)} {m : List Int} {w : Int} {x : WB} {d : Int} {P : WR → Prop} (hs : mayWB c t m w x = false → P (m, x, [])) (p0 : mayWB c t m w x = true → x.1 = 0 → P (wPop c t m w x)) (p1 : mayWB c t m w x = true → x.1 = 1 → P (wSeek c m w x)) (p2 : mayWB c t m w x = true → x.1 = 2 ∨ x.1 = 3 → P (wLook c m w x d)) (p4 : mayWB c t m w x = true → x.1 = 4 → P (wFound t m w x)) (p5 : mayWB c t m w x = true → x.1 = 5 → P (wPrep c m x)) (p6 : mayWB c t m w x = true → x.1 = 6 → P (wLeave m x)) (p7 : mayWB c t m w x = true → x.1 = 7 → P (wAgain c m x)) (p8 : mayWB c t m w x = true → x.1 = 8 → P (wCommit c m x)) (p9 : mayWB c t m w x = true → x.1 = 9 → P (wRun t m w x)) (p10 : mayWB c t m w x = true → x.1 = 10 → P (wPend t m w x)) (p11 : mayWB c t m w x = true → x.1 = 11 → P (wPush c m w x)) (p12 : mayWB c t m w x = true → x.1 = 12 → P (wOver c t m w x)) (p13 : mayWB c t m w x = true → x.1 = 13 → P (wSee m w x)) (p14 : mayWB c t m w x = true → x.1 = 14 → P (wWake c m x)) (p15 : mayWB c t m w x = true → x.1 = 15 → P (wDone t m w x)) : P (workB c t m w x d) := by
  unfold workB
  by_cases hm : mayWB c t m w x = false
  · rw [if_pos hm]; exact hs hm
  rw [if_neg hm]
  have hm' : mayWB c t m w x = true := by simpa using hm
  have hb : 0 ≤ x.1 ∧ x.1 < 16 := by
    unfold mayWB at hm'
    simp only [Bool.and_eq_true, decide_eq_true_eq] at hm'
    exact hm'.1.2.2.2
  by_cases e0 : x.1 = 0
  · rw [if_pos e0]; exact p0 hm' e0
  rw [if_neg e0]
  by_cases e1 : x.1 = 1
  · rw [if_pos e1]; exact p1 hm' e1
  rw [if_neg e1]
  by_cases e2 : x.1 = 2 ∨ x.1 = 3
  · rw [if_pos e2]; exact p2 hm' e2
  rw [if_neg e2]
  by_cases e4 : x.1 = 4
  · rw [if_pos e4]; exact p4 hm' e4
  rw [if_neg e4]
  by_cases e5 : x.1 = 5
  · rw [if_pos e5]; exact p5 hm' e5
  rw [if_neg e5]
  by_cases e6 : x.1 = 6
  · rw [if_pos e6]; exact p6 hm' e6
  rw [if_neg e6]
  by_cases e7 : x.1 = 7
  · rw [if_pos e7]; exact p7 hm' e7
  rw [if_neg e7]
  by_cases e8 : x.1 = 8
  · rw [if_pos e8]; exact p8 hm' e8
  rw [if_neg e8]
  by_cases e9 : x.1 = 9
  · rw [if_pos e9]; exact p9 hm' e9
  rw [if_neg e9]
  by_cases e10 : x.1 = 10
  · rw [if_pos e10]; exact p10 hm' e10
  rw [if_neg e10]
  by_cases e11 : x.1 = 11
  · rw [if_pos e11]; exact p11 hm' e11
  rw [if_neg e11]
  by_cases e12 : x.1 = 12
  · rw [if_pos e12]; exact p12 hm' e12
  rw [if_neg e12]
  by_cases e13 : x.1 = 13
  · rw [if_pos e13]; exact p13 hm' e13
  rw [if_neg e13]
  by_cases e14 : x.1 = 14
  · rw [if_pos e14]; exact p14 hm' e14
  rw [if_neg e14]
  exact p15 hm' (by omega)
end Go.Ab
