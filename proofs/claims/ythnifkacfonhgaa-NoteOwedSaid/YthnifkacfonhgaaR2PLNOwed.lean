/- NoteOwed: the law's word. -/
import Derived.Test.YthnifkacfonhgaaR2GL10
import Derived.Test.YthnifkacfonhgaaR2PN2
set_option linter.unusedVariables false
namespace Go.Ab
theorem pure_NOwed (k : Nat) (hk : 2000 ≤ k) (c : CF) {m : List Int} (hm : Wm m) (f : FR) (hf : Wf f) (w : Int) : g_poacherlaw15_NoteOwed k c m f w = some true := by
  rw [g_poacherlaw15_NoteOwed]
  by_cases hl : (500 : Int) < m.length
  · rw [ltT hl]; rfl
  · rw [ltF (by omega), cond_false, bneI]
    simp only [Prod.eta]
    by_cases hp : f.2.1 = 2
    · rw [decide_eq_true hp, Bool.not_true, cond_false, c_NGoes, ob_some]
      cases hg : ngoesB c m f with
      | false => rfl
      | true =>
        rw [Bool.not_true, cond_false]
        by_cases h1 : w < 0
        · rw [ltT h1]; rfl
        · rw [ltF (by omega), cond_false]
          by_cases h2 : c.1 ≤ w
          · rw [leT h2]; rfl
          · rw [leF (by omega), cond_false]
            by_cases h3 : 7 < w
            · rw [ltT h3]; rfl
            · rw [ltF (by omega), cond_false, c_Park, ob_some, c_Store (by omega), ob_some]
              have h6 := hg
              unfold ngoesB at h6
              rw [Bool.and_eq_true, Bool.and_eq_true, Bool.and_eq_true, decide_eq_true_eq, decide_eq_true_eq, decide_eq_true_eq] at h6
              obtain ⟨⟨⟨hop, hmay⟩, hlen⟩, hz, _, _⟩ := h6
              have ok : OkB c m w := ⟨hmay, hlen, by omega, by omega⟩
              have hpk := ok.park
              have hn : Wm (storeM m (parkC c w) 0) := hm.set _ (by decide) (by decide)
              have hln : (storeM m (parkC c w) 0).length ≤ 1000 := by rw [store_len]; omega
              have okn := ok.store (parkC c w) 0
              have p0 : loadM (storeM m (parkC c w) 0) (parkC c w) = 0 := load_store 0 (by omega) hpk.2.2
              have hgn : ngoesB c (storeM m (parkC c w) 0) f = true := by
                unfold ngoesB at hg ⊢
                rw [store_len]
                exact hg
              generalize storeM m (parkC c w) 0 = m1 at hn hln okn p0 hgn ⊢
              rw [c_NStep (by omega) c hn hln hf, ob_some, ob_some, c_Load, ob_some, c_Owes hf, ob_some]
              obtain ⟨a0, a1, a2, a3, a4, a5, a6⟩ := f
              obtain ⟨w3, w4, w5⟩ := hf
              simp only at hp hop hz w3 w4 w5
              subst hp hz
              have hk5 := mk_rng w5.1
              have hc5 := clr_rng hk5.1 hk5.2
              -- the step
              have main : ∃ (x : Int) (g : FR), noteB c m1 (a0, 2, a2, a3, a4, a5, 0) = (wakeB c m1 x, g) ∧ Wf g ∧ owesB (a0, 2, a2, a3, a4, a5, 0) w = (decide (x = w) || owesB g w) ∧ (x = w → owesB g w = false) := by
                rcases hop with rfl | rfl
                · refine ⟨if a5 < 8 then a5 else -1, endB (6, 2, a2, a3, a4, a5, 0) 1 a5, ?_, ⟨w5, by simp [endB], by simp [endB]⟩, ?_, ?_⟩
                  · unfold noteB
                    rw [hgn]
                    simp
                  · by_cases h8 : a5 < 8
                    · rw [if_pos h8]
                      simp [owesB, overB, endB]
                      by_cases e : a5 = w
                      · simp [e]; omega
                      · simp [e]
                    · rw [if_neg h8]
                      have e1 : ¬ (-1 = w) := by omega
                      have e2 : ¬ a5 = w := by omega
                      simp [owesB, overB, endB, e1, e2]
                  · intro _
                    simp [owesB, overB, endB]
                · have hown : owesB (7, 2, a2, a3, a4, a5, 0) w = hasB a5 w := by
                    have e1 : (0 ≤ w ∧ w < 16) := by omega
                    simp [owesB, overB, e1]
                  have hmk : hasB (mkB a5) w = hasB a5 w := has_mask w5.1 (by omega) (by omega)
                  have hcl := has_clr hk5.1 hk5.2 (w := w) (by omega) (by omega)
                  rw [hmk, low_mk w5.1] at hcl
                  have hlw : lowB a5 = w → hasB a5 w = true := by
                    intro e
                    rw [← e]
                    exact low_has (by omega)
                  by_cases h0 : clrB (mkB a5) = 0
                  · refine ⟨lowB a5, endB (7, 2, a2, a3, a4, a5, 0) 1 (mkB a4), ?_, ⟨by simp [endB]; unfold mkB; omega, by simp [endB], by simp [endB]⟩, ?_, ?_⟩
                    · unfold noteB
                      rw [hgn]
                      simp [h0]
                    · rw [hown]
                      have hno : owesB (endB (7, 2, a2, a3, a4, a5, 0) 1 (mkB a4)) w = false := by simp [owesB, overB, endB]
                      rw [hno, Bool.or_false]
                      rw [h0] at hcl
                      have hz : hasB 0 w = false := by
                        have := has_nat 0 (w := w) (by omega)
                        rw [Nat.zero_testBit] at this
                        exact this
                      rw [hz] at hcl
                      by_cases e : lowB a5 = w
                      · rw [hlw e, decide_eq_true e]
                      · rw [decide_eq_false e]
                        have e2 : w ≠ lowB a5 := fun h => e h.symm
                        simpa [e2] using hcl.symm
                    · intro _
                      simp [owesB, overB, endB]
                  · refine ⟨lowB a5, (7, 2, a2, a3, a4, clrB (mkB a5), 0), ?_, ⟨w3, w4, by simp; omega⟩, ?_, ?_⟩
                    · unfold noteB
                      rw [hgn]
                      simp [h0]
                    · have hg2 : owesB (7, 2, a2, a3, a4, clrB (mkB a5), 0) w = hasB (clrB (mkB a5)) w := by
                        have e1 : (0 ≤ w ∧ w < 16) := by omega
                        simp [owesB, overB, e1]
                      rw [hown, hg2, hcl]
                      by_cases e : lowB a5 = w
                      · rw [hlw e, decide_eq_true e]; rfl
                      · have e2 : w ≠ lowB a5 := fun h => e h.symm
                        rw [decide_eq_false e]
                        simp [e2]
                    · intro e
                      have hg2 : owesB (7, 2, a2, a3, a4, clrB (mkB a5), 0) w = hasB (clrB (mkB a5)) w := by
                        have e1 : (0 ≤ w ∧ w < 16) := by omega
                        simp [owesB, overB, e1]
                      rw [hg2, hcl]
                      simp [e]
              obtain ⟨x, g, hst, hwg, ho, hx⟩ := main
              have hld := wake_load (v := x) okn p0
              rw [hst]
              simp only [Prod.eta]
              rw [c_Owes hwg, ob_some, ho]
              by_cases e : x = w
              · rw [hx e, decide_eq_true e, hld.2 e]
                rfl
              · have : (loadM (wakeB c m1 x) (parkC c w) == 1) = false := by
                  rw [beqI, decide_eq_false (fun h => e (hld.1 h))]
                rw [this, decide_eq_false e, Bool.false_or]
                cases owesB g w <;> rfl
    · rw [decide_eq_false hp]; rfl
theorem law_NOwed (k : Nat) (hk : 9223372036854779900 < k) (c : CF) (hc : confOk c) (m : List Int) (hm : Wm m) (f : FR) (hf : frameOk f) (w : Int) (hw : i64 w) : xC k none 10 [.agg (confV c), .ro (m.map (intR .u64)), .agg (frameV f), .lit (.int .i64 w)] = some (.lit (.bool true), []) := by
  obtain ⟨j, rfl⟩ : ∃ j, k = j + 61 := ⟨k - 61, by omega⟩
  have h := pure_NOwed j (by omega) c hm f ⟨u64_of hf.2.2.2.1, u64_of hf.2.2.2.2.1, u64_of hf.2.2.2.2.2.1⟩ w
  obtain ⟨W, D, I, S⟩ := c
  obtain ⟨a0, a1, a2, a3, a4, a5, a6⟩ := f
  rw [confV, frameV, h_poacherlaw15_NoteOwed, h]
  rfl
end Go.Ab
