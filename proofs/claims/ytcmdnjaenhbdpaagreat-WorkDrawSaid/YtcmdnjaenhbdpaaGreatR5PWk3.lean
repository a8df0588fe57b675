/- What a worker's step keeps. -/
import Derived.Test.YtcmdnjaenhbdpaaGreatR5PWk2
set_option linter.unusedVariables false
set_option linter.unusedSimpArgs false
set_option linter.unusedVariables false
namespace Go.Ab
theorem push_one (c : CF) (m : List Int) (f : FR) : One m (pushB c m f).1 := by
  unfold pushB
  repeat' split
  all_goals first | exact One.same m | exact One.store m _ _ | exact One.cas m _ _ _
theorem pop_one (c : CF) (m : List Int) (f : FR) : One m (popB c m f).1 := by
  unfold popB
  repeat' split
  all_goals first | exact One.same m | exact One.store m _ _ | exact One.cas m _ _ _
theorem steal_one (c : CF) (m : List Int) (f : FR) : One m (stealB c m f).1 := by
  unfold stealB
  dsimp only
  repeat' split
  all_goals first | exact One.same m | exact One.store m _ _ | exact One.cas m _ _ _
theorem callK_one (c : CF) (m : List Int) (f : FR) : One m (callK c m f).1 := by
  unfold callK deckB
  repeat' split
  all_goals first | exact One.same m | exact push_one c m f | exact pop_one c m f | exact steal_one c m f | exact call_one c m f
section
variable {c : CF} {t : List (Int × List Int)} {m : List Int} {w : Int} {x : WB} {d : Int}
theorem work_stay (h : mayWB c t m w x = false) : workB c t m w x d = (m, x, []) := by
  unfold workB
  rw [if_pos h]
theorem work_one : One m (workB c t m w x d).1 := by
  refine work_ind (P := fun r => One m r.1) (fun _ => One.same m) ?_ ?_ ?_ ?_ ?_ ?_ ?_ ?_ ?_ ?_ ?_ ?_ ?_ ?_ ?_
  all_goals intro _ _
  all_goals dsimp only [wPop, wSeek, wLook, wFound, wPrep, wLeave, wAgain, wCommit, wRun, wPend, wPush, wOver, wSee, wWake, wDone]
  all_goals repeat' split
  all_goals (try dsimp only)
  all_goals first | exact One.same m | exact One.store m _ _ | exact callK_one c m _
theorem work_evs : (workB c t m w x d).2.2.length ≤ 2 := by
  refine work_ind (P := fun r => r.2.2.length ≤ 2) (fun _ => Nat.zero_le _) ?_ ?_ ?_ ?_ ?_ ?_ ?_ ?_ ?_ ?_ ?_ ?_ ?_ ?_ ?_
  all_goals intro _ _
  all_goals dsimp only [wPop, wSeek, wLook, wFound, wPrep, wLeave, wAgain, wCommit, wRun, wPend, wPush, wOver, wSee, wWake, wDone]
  all_goals repeat' split
  all_goals simp
theorem work_slen : (workB c t m w x d).2.1.2.1.length ≤ x.2.1.length + 1 := by
  have h1 := fun q => startB_len t x.2.1 q
  have h2 := doB_len t x.2.1
  refine work_ind (P := fun r => r.2.1.2.1.length ≤ x.2.1.length + 1) (fun _ => Nat.le_succ _) ?_ ?_ ?_ ?_ ?_ ?_ ?_ ?_ ?_ ?_ ?_ ?_ ?_ ?_ ?_
  all_goals intro _ _
  all_goals dsimp only [wPop, wSeek, wLook, wFound, wPrep, wLeave, wAgain, wCommit, wRun, wPend, wPush, wOver, wSee, wWake, wDone, toW, withW]
  all_goals repeat' split
  all_goals first | exact Nat.le_succ _ | exact h1 _ | (dsimp only; omega) | simp
theorem vict_pos {w W : Int} : 0 ≤ victB d w W ↔ ¬ (W < 2 ∨ w < 0 ∨ W ≤ w) := by
  unfold victB
  split
  · rename_i h
    exact ⟨fun g => absurd g (by decide), fun g => absurd h g⟩
  · rename_i h
    exact ⟨fun _ => h, fun _ => Int.emod_nonneg _ (by omega)⟩
theorem vict_ne {w W : Int} (h : 0 ≤ victB d w W) : victB d w W ≠ w := by
  have g := vict_pos.1 h
  unfold victB
  rw [if_neg g]
  have e1 := Int.emod_nonneg d (show W - 1 ≠ 0 by omega)
  have e2 := Int.emod_lt_of_pos d (show 0 < W - 1 by omega)
  generalize d % (W - 1) = r at e1 e2
  by_cases hs : w + 1 + r < W
  · rw [Int.emod_eq_of_lt (by omega) hs]
    omega
  · have : (w + 1 + r) % W = w + 1 + r - W := by
      rw [show w + 1 + r = (w + 1 + r - W) + W by omega, Int.add_emod_right, Int.emod_eq_of_lt (by omega) (by omega)]
      omega
    rw [this]
    omega
theorem work_draw {e : Int} : workB c t m w x e = workB c t m w x d ∨ (x.1 = 2 ∧ 0 ≤ victB d w c.1 ∧ 0 ≤ victB e w c.1 ∧ victB d w c.1 ≠ victB e w c.1 ∧ ∃ a, a.length = m.length ∧ workB c t m w x d = (a, withW 3 2 (victB d w c.1) 0 x, []) ∧ workB c t m w x e = (a, withW 3 2 (victB e w c.1) 0 x, [])) := by
  by_cases hm : mayWB c t m w x = false
  · rw [work_stay hm, work_stay hm]; exact .inl rfl
  by_cases hp : x.1 = 2 ∨ x.1 = 3
  · have e0 : ∀ d, workB c t m w x d = wLook c m w x d := fun d => by
      unfold workB
      rw [if_neg hm, if_neg (by omega), if_neg (by omega), if_pos hp]
    rw [e0, e0]
    unfold wLook
    dsimp only
    by_cases ho : overB (callK c m x.2.2.1).2 = false
    · rw [if_pos ho, if_pos ho]; exact .inl rfl
    rw [if_neg ho, if_neg ho]
    by_cases h1 : (callK c m x.2.2.1).2.2.2.2.2.2.2 = 1
    · rw [if_pos h1, if_pos h1]; exact .inl rfl
    rw [if_neg h1, if_neg h1]
    by_cases h2 : x.1 = 2 ∧ 0 ≤ victB d w c.1
    · have h3 : x.1 = 2 ∧ 0 ≤ victB e w c.1 := ⟨h2.1, vict_pos.2 (vict_pos.1 h2.2)⟩
      rw [if_pos h2, if_pos h3]
      by_cases h4 : victB d w c.1 = victB e w c.1
      · rw [h4]; exact .inl rfl
      · exact .inr ⟨h2.1, h2.2, h3.2, h4, _, (callK_one c m x.2.2.1).len, rfl, rfl⟩
    · have h3 : ¬ (x.1 = 2 ∧ 0 ≤ victB e w c.1) := fun g => h2 ⟨g.1, vict_pos.2 (vict_pos.1 g.2)⟩
      rw [if_neg h2, if_neg h3]
      exact .inl rfl
  · refine .inl ?_
    unfold workB
    rw [if_neg hp, if_neg hp]
end
theorem c_WkSame {k : Nat} (hk : 9223372036854775808 ≤ k) (x y : WB) (h : x.2.1.length ≤ 1000) : ∃ b, g_work_Same k x y = some b ∧ (b = true ↔ x = y) := by
  obtain ⟨a0, sa, ⟨f0, f1, f2, f3, f4, f5, f6⟩, a3, a4⟩ := x
  obtain ⟨b0, sb, ⟨g0, g1, g2, g3, g4, g5, g6⟩, b3, b4⟩ := y
  unfold g_work_Same
  dsimp only at h ⊢
  rw [c_TSame k hk sa sb (by omega), ob_some]
  simp only [Prod.mk.injEq, Bool.cond_eq_ite, Bool.and_eq_true, beq_iff_eq]
  repeat' split
  all_goals refine ⟨_, rfl, ?_⟩
  all_goals simp_all
theorem c_WkEvs {k : Nat} (hk : 4 ≤ k) {l : List EV} (hl : l.length ≤ 2) : g_poacherref18_Evs k l l = some true := by
  unfold g_poacherref18_Evs
  obtain ⟨k, rfl⟩ : ∃ j, k = j + 4 := ⟨k - 4, by omega⟩
  match l, hl with
  | [], _ => rfl
  | [e], _ =>
    have h0 : idx [e] 0 = some e := rfl
    simp [g_poacherref18_Evs_L0, h0, ob_some, wrapS, IntKind.wrap, IntKind.bits, IntKind.signed]
  | [e, f], _ =>
    have h0 : idx [e, f] 0 = some e := rfl
    have h1 : idx [e, f] 1 = some f := rfl
    simp [g_poacherref18_Evs_L0, h0, h1, ob_some, wrapS, IntKind.wrap, IntKind.bits, IntKind.signed]
end Go.Ab
