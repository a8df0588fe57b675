/- NoteAgain: the law's word. -/
import Derived.Test.YthnifkacfonhgaaR2GL12
import Derived.Test.YthnifkacfonhgaaR2PN2
set_option linter.unusedVariables false
namespace Go.Ab
theorem pure_NAgain (k : Nat) (hk : 2000 ≤ k) (c : CF) {m : List Int} (hm : Wm m) (f : FR) (hf : Wf f) (v : Int) (hv : 0 ≤ v ∧ v ≤ 18446744073709551615) : g_poacherlaw15_NoteAgain k c m f v = some true := by
  rw [g_poacherlaw15_NoteAgain]
  by_cases hl : (500 : Int) < m.length
  · rw [ltT hl]; rfl
  · rw [ltF (by omega), cond_false, bneI]
    simp only [Prod.eta]
    by_cases hp : f.2.1 = 1
    · rw [decide_eq_true hp, Bool.not_true, cond_false, c_NGoes, ob_some]
      cases hg : ngoesB c m f with
      | false => rfl
      | true =>
        rw [Bool.not_true, cond_false, beqI]
        by_cases he : v = f.2.2.2.2.1
        · rw [decide_eq_true he]; rfl
        · have hn : Wm (storeM m 2 v) := hm.set 2 hv.1 hv.2
          have hln : (storeM m 2 v).length ≤ 1000 := by rw [store_len]; omega
          have hgn : ngoesB c (storeM m 2 v) f = true := by
            unfold ngoesB at hg ⊢
            rw [store_len]
            exact hg
          have h6 : f.2.2.2.2.2.2 = 0 ∧ mayC c = true ∧ (m.length : Int) = sizeC c := by
            unfold ngoesB at hg
            rw [Bool.and_eq_true, Bool.and_eq_true, Bool.and_eq_true, decide_eq_true_eq, decide_eq_true_eq, decide_eq_true_eq] at hg
            exact ⟨hg.2.1, hg.1.1.2, hg.1.2⟩
          have hmc := mayC_of h6.2.1
          have ok : OkB c m 0 := ⟨h6.2.1, h6.2.2, by decide, by omega⟩
          have hs := ok.size
          have hst : noteB c (storeM m 2 v) f = (storeM m 2 v, f.1, 0, f.2.2) := by
            unfold noteB
            rw [hgn, if_neg (by simp), if_neg (by omega), if_pos hp, load_store v (by decide) (by omega), if_neg he]
          obtain ⟨a0, a1, a2, a3, a4, a5, a6⟩ := f
          simp only at h6
          rw [decide_eq_false he, cond_false, c_Store (by omega), ob_some, c_NStep (by omega) c hn hln hf, ob_some, hst]
          simp only []
          rw [c_Same14 hln _ (by omega), ob_some, decide_eq_true rfl, cond_true, beqI, decide_eq_true rfl, cond_true, c_Over, ob_some]
          have ho : overB (a0, 0, a2, a3, a4, a5, a6) = false := by simp [overB, h6.1]
          rw [ho, Bool.not_false, cond_true, c_Owes (f := (a0, 0, a2, a3, a4, a5, a6)) hf, ob_some]
          simp [owesB]
    · rw [decide_eq_false hp]; rfl
theorem law_NAgain (k : Nat) (hk : 9223372036854779900 < k) (c : CF) (hc : confOk c) (m : List Int) (hm : Wm m) (f : FR) (hf : frameOk f) (v : Int) (hv : u64 v) : xC k none 12 [.agg (confV c), .ro (m.map (intR .u64)), .agg (frameV f), .lit (.int .u64 v)] = some (.lit (.bool true), []) := by
  obtain ⟨j, rfl⟩ : ∃ j, k = j + 61 := ⟨k - 61, by omega⟩
  have h := pure_NAgain j (by omega) c hm f ⟨u64_of hf.2.2.2.1, u64_of hf.2.2.2.2.1, u64_of hf.2.2.2.2.2.1⟩ v (u64_of hv)
  obtain ⟨W, D, I, S⟩ := c
  obtain ⟨a0, a1, a2, a3, a4, a5, a6⟩ := f
  rw [confV, frameV, h_poacherlaw15_NoteAgain, h]
  rfl
end Go.Ab
