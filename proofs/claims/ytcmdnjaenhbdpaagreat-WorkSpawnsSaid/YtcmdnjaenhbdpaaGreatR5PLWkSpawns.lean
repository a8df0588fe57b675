/- WorkSpawns. -/
import Derived.Test.YtcmdnjaenhbdpaaGreatR5PWk2
import Derived.Test.YtcmdnjaenhbdpaaGreatR5PWfs
import Derived.Test.YtcmdnjaenhbdpaaGreatR5GL6
set_option linter.unusedVariables false
set_option linter.unusedSimpArgs false
set_option linter.unusedVariables false
namespace Go.Ab
theorem pure_WkSpawns (k : Nat) (hk : 9223372036854779900 < k) (c : CF) {t : List (Int × List Int)} (ht : Wt t) {m : List Int} (hm : Wm m) (w : Int) (x : WB) (hf : Wf x.2.2.1) (hsp : x.2.2.2.1 ≤ 9223372036854775807) (d : Int) (hd : 0 ≤ d ∧ d ≤ 18446744073709551615) : g_poacherlaw18_WorkSpawns k c t m w x d = some true := by
  unfold g_poacherlaw18_WorkSpawns
  simp only [Prod.eta]
  rw [c_WkFew (by omega) ht x, ob_some]
  cases hfew : (fewB t && decide ((x.2.1.length : Int) ≤ 40)) with
  | false => rfl
  | true =>
    obtain ⟨htl, hsl⟩ := few_w hfew
    rw [Bool.not_true, cond_false]
    by_cases h500 : (500 : Int) < m.length
    · rw [ltT h500, cond_true]
    rw [ltF (by omega), cond_false, c_WkMay (by omega) c ht m w x (by omega), ob_some]
    cases hmay : mayWB c t m w x with
    | false => rfl
    | true =>
      rw [Bool.not_true, cond_false, c_WkStep (by omega) c ht hm (by omega) w hf (by omega) hsp hd, ob_some]
      have hi0 : ∀ e : EV, idx [e] 0 = some e := fun _ => rfl
      by_cases p10 : x.1 = 10
      · have e : workB c t m w x d = wPend t m w x := by unfold workB; rw [hmay]; simp [p10]
        rw [e]
        unfold wPend
        by_cases h2 : (nextB t x.2.1).1 = 2
        · simp [h2, p10, hi0, ob_some, begF]
        · simp [h2, p10, toW]
      · rw [beqF p10, cond_false]
        by_cases p11 : x.1 = 11
        · have e : workB c t m w x d = wPush c m w x := by unfold workB; rw [hmay]; simp [p11]
          rw [e, beqT p11, cond_true]
          unfold wPush
          dsimp only
          by_cases ho : overB (callK c m x.2.2.1).2 = false
          · simp [ho, p11]
          · by_cases h9 : (callK c m x.2.2.1).2.2.2.2.2.2.2 = 2
            · simp [ho, h9, withW, begF]
            · simp [ho, h9, toW, p11]
        · rw [beqF p11, cond_false]
          by_cases p12 : x.1 = 12
          · have e : workB c t m w x d = wOver c t m w x := by unfold workB; rw [hmay]; simp [p12]
            rw [e, beqT p12, cond_true]
            unfold wOver
            dsimp only
            by_cases ho : overB (callK c m x.2.2.1).2 = false
            · simp [ho, p12]
            · by_cases h9 : (callK c m x.2.2.1).2.2.2.2.2.2.2 = 2
              · have := startB_ge t x.2.1 (intU (callK c m x.2.2.1).2.2.2.2.1)
                simp [ho, h9, hi0, ob_some, this]
              · simp [ho, h9, toW]
          · rw [beqF p12, cond_false]
            have := pc_ne (c := c) (t := t) (m := m) (w := w) (d := d) p10 p11
            rw [bneI, decide_eq_false this, Bool.not_false, cond_true]
theorem law_WkSpawns (k : Nat) (hk : 9223372036854779990 < k) (c : CF) (hc : confOk c) (t : List (Int × List Int)) (ht : Wt t) (m : List Int) (hm : Wm m) (w : Int) (hw : i64 w) (x : WB) (hx : workOk x) (d : Int) (hd : u64 d) :
    xC k none 6 [.agg (confV c), tasksV t, .ro (m.map (intR .u64)), .lit (.int .i64 w), .agg (workV x), .lit (.int .u64 d)] = some (.lit (.bool true), []) := by
  obtain ⟨j, rfl⟩ : ∃ j, k = j + 61 := ⟨k - 61, by omega⟩
  have hf := hx.2.2.2.1
  have h := pure_WkSpawns j (by omega) c ht hm w x ⟨u64_of hf.2.2.2.1, u64_of hf.2.2.2.2.1, u64_of hf.2.2.2.2.2.1⟩ (by have := i64_of hx.2.2.2.2.1; omega) d (u64_of hd)
  obtain ⟨W, D, I, S⟩ := c
  obtain ⟨pc, st, ⟨a0, a1, a2, a3, a4, a5, a6⟩, sp, lk⟩ := x
  rw [confV, workV, tasksV, h_poacherlaw18_WorkSpawns, h]
  rfl
end Go.Ab
