/- WaitMissed: the law's word. -/
import Derived.Test.YthnifkacfonhgaaR2GL7
import Derived.Test.YthnifkacfonhgaaR2PWf3
set_option linter.unusedVariables false
namespace Go.Ab
theorem pure_WMissed (k : Nat) (hk : 2000 ≤ k) (c : CF) {m : List Int} (hm : Wm m) (w v : Int) (hv : 0 ≤ v ∧ v ≤ 18446744073709551615) : g_poacherlaw14_WaitMissed k c m w v = some true := by
  rw [g_poacherlaw14_WaitMissed, begin_u, ob_some]
  by_cases hl : (500 : Int) < m.length
  · rw [ltT hl]; rfl
  · rw [ltF (by omega), cond_false]
    simp only [Prod.eta]
    rw [c_Goes, ob_some]
    cases hg : goesB c m (5, 0, w, 0, 0, 0, 0) 5 5 with
    | false => rfl
    | true =>
      have ok : OkB c m w := okB_of hg
      have hs := ok.size
      have hr := load_rng hm 2
      rw [Bool.not_true, cond_false, c_Epoch hv.1, ob_some, c_Load, ob_some, c_Epoch hr.1, ob_some, beqI]
      by_cases he : epB v = epB (loadM m 2)
      · rw [decide_eq_true he]; rfl
      · have hn : Wm (storeM m 2 v) := hm.set 2 hv.1 hv.2
        have hln : (storeM m 2 v).length ≤ 1000 := by rw [store_len]; omega
        rw [decide_eq_false he, cond_false, c_WStep c hm (by omega) wf0, ob_some, wait0 ok]
        simp only []
        rw [c_Store (by omega), ob_some, c_WStep c hn hln ⟨by simp, by simpa using hr, by simp⟩, ob_some, wait1 (ok.store 2 v), load_store v (by decide) (by omega), if_neg he]
        simp only []
        rw [beqI, decide_eq_true rfl, cond_true, c_Same14 hln _ (by omega), ob_some, decide_eq_true rfl]
theorem law_WMissed (k : Nat) (hk : 9223372036854779900 < k) (c : CF) (hc : confOk c) (m : List Int) (hm : Wm m) (w : Int) (hw : i64 w) (v : Int) (hv : u64 v) : xC k none 7 [.agg (confV c), .ro (m.map (intR .u64)), .lit (.int .i64 w), .lit (.int .u64 v)] = some (.lit (.bool true), []) := by
  obtain ⟨j, rfl⟩ : ∃ j, k = j + 61 := ⟨k - 61, by omega⟩
  obtain ⟨W, D, I, S⟩ := c
  rw [confV, h_poacherlaw14_WaitMissed, pure_WMissed j (by omega) _ hm w v (u64_of hv)]
  rfl
end Go.Ab
