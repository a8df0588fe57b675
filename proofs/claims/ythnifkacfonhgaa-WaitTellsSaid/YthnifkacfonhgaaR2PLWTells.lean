/- WaitTells: the law's word. -/
import Derived.Test.YthnifkacfonhgaaR2GL3
import Derived.Test.YthnifkacfonhgaaR2PWf3
import Derived.Test.YthnifkacfonhgaaR2PWR
set_option linter.unusedVariables false
namespace Go.Ab
theorem pure_WTells (k : Nat) (hk : 2000 ≤ k) (c : CF) {m : List Int} (hm : Wm m) (f : FR) (hf : Wf f) : g_poacherlaw14_WaitTells k c m f = some true := by
  rw [g_poacherlaw14_WaitTells]
  by_cases hl : (500 : Int) < m.length
  · rw [ltT hl]; rfl
  · have hw := wait_wm (c := c) hm hf
    rw [ltF (by omega), cond_false]
    simp only [Prod.eta]
    rw [c_WStep c hm (by omega) hf, ob_some, c_RStep14 _ (by omega) c hm (by omega) hf, ob_some, c_RSame01 (by omega) _ (by omega), ob_some, c_RParked, ob_some, c_RWaits _ (by omega) c hm, ob_some, c_Parked, ob_some, c_Waits c hm, ob_some]
    simp
theorem law_WTells (k : Nat) (hk : 9223372036854779900 < k) (c : CF) (hc : confOk c) (m : List Int) (hm : Wm m) (f : FR) (hf : frameOk f) : xC k none 3 [.agg (confV c), .ro (m.map (intR .u64)), .agg (frameV f)] = some (.lit (.bool true), []) := by
  obtain ⟨j, rfl⟩ : ∃ j, k = j + 61 := ⟨k - 61, by omega⟩
  have h := pure_WTells j (by omega) c hm f ⟨u64_of hf.2.2.2.1, u64_of hf.2.2.2.2.1, u64_of hf.2.2.2.2.2.1⟩
  obtain ⟨W, D, I, S⟩ := c
  obtain ⟨a0, a1, a2, a3, a4, a5, a6⟩ := f
  rw [confV, frameV, h_poacherlaw14_WaitTells, h]
  rfl
end Go.Ab
