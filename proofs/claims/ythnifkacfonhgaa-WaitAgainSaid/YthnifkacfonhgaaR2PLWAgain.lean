/- WaitAgain: the law's word. -/
import Derived.Test.YthnifkacfonhgaaR2GL8
import Derived.Test.YthnifkacfonhgaaR2PWf3
set_option linter.unusedVariables false
namespace Go.Ab
theorem pure_WAgain (k : Nat) (hk : 2000 ≤ k) (c : CF) {m : List Int} (hm : Wm m) (f : FR) (hf : Wf f) (v : Int) (hv : 0 ≤ v ∧ v ≤ 18446744073709551615) : g_poacherlaw14_WaitAgain k c m f v = some true := by
  rw [g_poacherlaw14_WaitAgain]
  by_cases hl : (500 : Int) < m.length
  · rw [ltT hl]; rfl
  · rw [ltF (by omega), cond_false, bneI]
    simp only [Prod.eta]
    by_cases hp : f.2.1 = 2
    · rw [decide_eq_true hp, Bool.not_true, cond_false, c_Goes, ob_some]
      cases hg : goesB c m f 5 5 with
      | false => rfl
      | true =>
        have ok : OkB c m f.2.2.1 := okB_of hg
        obtain ⟨_, _, h6, _, _, h0, _, _⟩ := goes_pc hg
        obtain ⟨a0, a1, w, a3, a4, a5, a6⟩ := f
        simp only at hp ok h6 h0 ⊢
        subst hp h6 h0
        have hs := ok.size
        obtain ⟨w3, w4, w5⟩ := hf
        simp only at w3 w4 w5
        rw [Bool.not_true, cond_false, beqI]
        by_cases he : v = a5
        · rw [decide_eq_true he]; rfl
        · have hn : Wm (storeM m 2 v) := hm.set 2 hv.1 hv.2
          have hln : (storeM m 2 v).length ≤ 1000 := by rw [store_len]; omega
          have okn := ok.store 2 v
          have hl2 : loadM (storeM m 2 v) 2 = v := load_store v (by decide) (by omega)
          have hw := ok.low
          have hw2 := ok.high
          have hmc := mayC_of ok.may
          rw [decide_eq_false he, cond_false, c_Store (by omega), ob_some, c_WStep c hn hln ⟨w3, w4, w5⟩, ob_some, wait2 okn, hl2, if_neg he]
          simp only []
          rw [c_WStep c hn hln ⟨w3, w4, w5⟩, ob_some, wait1 okn, hl2, c_Epoch hv.1, ob_some, c_Epoch w4.1, ob_some]
          by_cases h1 : epB v = epB a4
          · rw [if_pos h1]
            simp only []
            rw [c_WStep c hn hln ⟨w3, w4, hv⟩, ob_some, wait2 okn, hl2, if_pos rfl]
            simp only []
            rw [c_Same14 hln _ (by omega), ob_some, decide_eq_true rfl, cond_true, beqI, decide_eq_true rfl, cond_true, ob_some, cond_true, beqI, decide_eq_true h1, cond_true, beqI, decide_eq_true rfl, cond_true, c_Parked, ob_some]
            have hpk : parkedB (5, 3, w, a3, a4, v, 0) = true := by simp [parkedB]
            rw [hpk, cond_true, c_Load, ob_some, c_Set hv.1 hv.2, ob_some, load_store _ (by decide) (by rw [store_len]; omega), beqI, decide_eq_true rfl, cond_true]
          · rw [if_neg h1]
            simp only []
            have hz : waitB c (storeM m 2 v) (5, 0, w, 0, 0, 0, 4) = (storeM m 2 v, 5, 0, w, 0, 0, 0, 4) := by
              unfold waitB goesB
              simp
            rw [c_WStep c hn hln wf0, ob_some, hz]
            simp only []
            rw [c_Same14 hln _ (by omega), ob_some, decide_eq_true rfl, cond_true, beqI, decide_eq_true rfl, cond_true, ob_some, cond_true, beqI, decide_eq_false h1, cond_false]
            simp
    · rw [decide_eq_false hp]; rfl
theorem fr_of {f : FR} (h : frameOk f) : Wf f := ⟨u64_of h.2.2.2.1, u64_of h.2.2.2.2.1, u64_of h.2.2.2.2.2.1⟩
theorem law_WAgain (k : Nat) (hk : 9223372036854779900 < k) (c : CF) (hc : confOk c) (m : List Int) (hm : Wm m) (f : FR) (hf : frameOk f) (v : Int) (hv : u64 v) : xC k none 8 [.agg (confV c), .ro (m.map (intR .u64)), .agg (frameV f), .lit (.int .u64 v)] = some (.lit (.bool true), []) := by
  obtain ⟨j, rfl⟩ : ∃ j, k = j + 61 := ⟨k - 61, by omega⟩
  have h := pure_WAgain j (by omega) c hm f (fr_of hf) v (u64_of hv)
  obtain ⟨W, D, I, S⟩ := c
  obtain ⟨a0, a1, a2, a3, a4, a5, a6⟩ := f
  rw [confV, frameV, h_poacherlaw14_WaitAgain, h]
  rfl
end Go.Ab
