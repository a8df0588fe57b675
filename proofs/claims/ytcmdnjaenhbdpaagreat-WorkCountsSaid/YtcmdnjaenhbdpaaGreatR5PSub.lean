/- Who submits: what is walked comes to these words. -/
import Derived.Test.YtcmdnjaenhbdpaaGreatR5PSubA
import Derived.Test.YtcmdnjaenhbdpaaGreatR5PFor4
set_option linter.unusedVariables false
set_option linter.unusedSimpArgs false
set_option linter.unusedVariables false
namespace Go.Ab
theorem wrap64u (z : Int) : IntKind.u64.wrap z = z % 18446744073709551616 := by simp [IntKind.wrap, IntKind.bits, IntKind.signed]
theorem c_SeqC {c : CF} {x : Int} (h0 : 0 ≤ x) (h1 : x ≤ 18446744073709551615) : g_lay_Seq c x = some (seqC c x) := by
  unfold g_lay_Seq seqC
  simp only [Prod.eta, c_May14, ob_some]
  cases hm : mayC c with
  | false => rfl
  | true =>
    have hc := mayC_of hm
    have hi : IntKind.u64.wrap c.2.2.1 = c.2.2.1 := wrapU (by omega) (by omega)
    have h3 := Int.emod_lt_of_pos x (show 0 < c.2.2.1 by omega)
    have h4 := Int.emod_nonneg x (show c.2.2.1 ≠ 0 by omega)
    have e1 : IntKind.i64.wrap (c.1 - 1) = c.1 - 1 := by rw [IntKind.wrap_i64]; omega
    rw [Bool.not_true, cond_false, c_in, ob_some, e1, decide_eq_true (by omega), Bool.not_true, cond_false, hi, bneI, decide_eq_false (by omega), Bool.not_false, cond_true, if_pos rfl, Int.tmod_eq_emod_of_nonneg h0]
    have e2 : IntKind.i64.wrap (x % c.2.2.1) = x % c.2.2.1 := by rw [IntKind.wrap_i64]; omega
    rw [e2, IntKind.wrap_i64]
    congr 1
    omega
theorem c_ValC {c : CF} {x : Int} (h0 : 0 ≤ x) (h1 : x ≤ 18446744073709551615) : g_lay_Val c x = some (valC c x) := by
  unfold g_lay_Val valC
  simp only [Prod.eta, c_May14, ob_some]
  cases hm : mayC c with
  | false => rfl
  | true =>
    have hc := mayC_of hm
    have hi : IntKind.u64.wrap c.2.2.1 = c.2.2.1 := wrapU (by omega) (by omega)
    have h3 := Int.emod_lt_of_pos x (show 0 < c.2.2.1 by omega)
    have h4 := Int.emod_nonneg x (show c.2.2.1 ≠ 0 by omega)
    have e1 : IntKind.i64.wrap (c.1 - 1) = c.1 - 1 := by rw [IntKind.wrap_i64]; omega
    rw [Bool.not_true, cond_false, c_in, ob_some, e1, decide_eq_true (by omega), Bool.not_true, cond_false, hi, bneI, decide_eq_false (by omega), Bool.not_false, cond_true, if_pos rfl, Int.tmod_eq_emod_of_nonneg h0]
    have e2 : IntKind.i64.wrap (x % c.2.2.1) = x % c.2.2.1 := by rw [IntKind.wrap_i64]; omega
    have e3 : IntKind.i64.wrap (6 + c.2.2.1) = 6 + c.2.2.1 := by rw [IntKind.wrap_i64]; omega
    rw [e2, e3, IntKind.wrap_i64]
    congr 1
    omega
theorem free_u {c : CF} {x : Int} (hm : mayC c = true) (h0 : 0 ≤ x) (h1 : x ≤ 18446744073709551615) : IntKind.u64.wrap (IntKind.u64.wrap (x.tdiv (IntKind.u64.wrap c.2.2.1)) * 2) = freeB c x := by
  have hc := mayC_of hm
  have hi : IntKind.u64.wrap c.2.2.1 = c.2.2.1 := wrapU (by omega) (by omega)
  have h3 : 0 ≤ x / c.2.2.1 := Int.ediv_nonneg h0 (by omega)
  have h4 : x / c.2.2.1 ≤ x := Int.ediv_le_self _ h0
  rw [hi, Int.tdiv_eq_ediv_of_nonneg h0, wrapU h3 (by omega), wrap64u]
  rfl
theorem add_u (a b : Int) : IntKind.u64.wrap (a + b) = addU a b := by rw [wrap64u]; rfl
theorem ne0 {c : CF} (hm : mayC c = true) : (IntKind.u64.wrap c.2.2.1 != 0) = true := by
  have hc := mayC_of hm
  rw [wrapU (by omega) (by omega), bneI, decide_eq_false (by omega)]
  rfl
theorem c_full {c : CF} {x : Int} (hm : mayC c = true) (h0 : 0 ≤ x) (h1 : x ≤ 18446744073709551615) : g_deq_full c x = some (fullB c x) := by
  unfold g_deq_full fullB
  rw [ne0 hm, cond_true, free_u hm h0 h1, add_u]
theorem c_Far (a b : Int) : g_word_Far a b = some (farB a b) := rfl
theorem c_EGoes (c : CF) (m : List Int) (f : FR) (op : Int) : g_enq_Goes c m f op = some (egoesB c m f op) := by
  unfold g_enq_Goes g_enq_fits egoesB
  simp only [Prod.eta, c_May14, c_Size, c_Over, ob_some]
  cases hm : mayC c with
  | false => rfl
  | true =>
    rw [cond_true, ob_some, beqI, Bool.true_and]
    by_cases h1 : (m.length : Int) = sizeC c
    · rw [decide_eq_true h1, cond_true, Bool.true_and]
      unfold overB
      rw [bneI, Bool.not_not, beqI]
      by_cases h2 : f.2.2.2.2.2.2 = 0
      · rw [decide_eq_true h2, cond_true]
        by_cases h3 : f.1 = op
        · rw [decide_eq_true h3, cond_true]
          by_cases h4 : 0 ≤ f.2.1
          · rw [leT h4, cond_true]
            congr 1
            simp [h2, h3, h4]
          · rw [leF (by omega), cond_false]
            simp [h4]
        · rw [decide_eq_false h3, cond_false]
          simp [h3]
      · rw [decide_eq_false h2, cond_false]
        simp [h2]
    · rw [decide_eq_false h1, cond_false]
      rfl
theorem egoes_pc {c : CF} {m : List Int} {f : FR} {op : Int} (h : egoesB c m f op = true) : mayC c = true ∧ (m.length : Int) = sizeC c ∧ f.2.2.2.2.2.2 = 0 ∧ f.1 = op ∧ 0 ≤ f.2.1 ∧ f.2.1 < 5 := by
  unfold egoesB at h
  rw [Bool.and_eq_true, Bool.and_eq_true, decide_eq_true_eq, decide_eq_true_eq] at h
  exact ⟨h.1.1, h.1.2, h.2⟩
theorem c_EnqStep (c : CF) {m : List Int} (hm : Wm m) (hl : m.length ≤ 1000) {f : FR} (hf : Wf f) : g_enq_Step c m f = some (enqB c m f) := by
  unfold g_enq_Step enqB
  try simp only [Prod.eta]
  rw [clone_ok (by omega), ob_some, c_EGoes, ob_some]
  cases h : egoesB c m f 3 with
  | false => rfl
  | true =>
    obtain ⟨hmay, _, h6, h0, h1, h1'⟩ := egoes_pc h
    rw [Bool.not_true, cond_false, if_neg (by simp)]
    obtain ⟨a0, a1, a2, a3, a4, a5, a6⟩ := f
    simp only at h6 h0 h1 h1' ⊢
    have e : decide (0 ≤ a1 ∧ a1.toNat < 5) = true := by rw [decide_eq_true_eq]; omega
    rw [e, cond_true]
    obtain ⟨w3, w4, w5⟩ := hf
    simp only at w3 w4 w5
    rcases (show a1 = 0 ∨ a1 = 1 ∨ a1 = 2 ∨ a1 = 3 ∨ a1 = 4 by omega) with rfl | rfl | rfl | rfl | rfl
    · simp [c_Load, ob_some]
    · simp only [c_SeqC w4.1 w4.2, c_Load, ob_some, ne0 hmay, free_u hmay w4.1 w4.2, c_Far, c_End6, beqI, cond_true]
      by_cases h5 : loadM m (seqC c a4) = freeB c a4
      · simp [h5]
      · by_cases h7 : farB (loadM m (seqC c a4)) (freeB c a4) < 0
        · simp [h5, h7, endB]
        · simp [h5, h7]
    · simp only [add_u, c_Cas hl, ob_some]
      cases hc : (casM m 5 a4 (addU a4 1)).2 <;> simp [hc]
    · simp only [c_ValC w4.1 w4.2, c_Store hl, ob_some]
      simp
    · simp only [c_SeqC w4.1 w4.2, ne0 hmay, free_u hmay w4.1 w4.2, add_u, c_Store hl, ob_some, c_End6, cond_true]
      simp [endB]
theorem c_DeqStep (c : CF) {m : List Int} (hm : Wm m) (hl : m.length ≤ 1000) {f : FR} (hf : Wf f) : g_deq_Step c m f = some (deqB c m f) := by
  unfold g_deq_Step deqB
  try simp only [Prod.eta]
  rw [clone_ok (by omega), ob_some, c_EGoes, ob_some]
  cases h : egoesB c m f 4 with
  | false => rfl
  | true =>
    obtain ⟨hmay, _, h6, h0, h1, h1'⟩ := egoes_pc h
    rw [Bool.not_true, cond_false, if_neg (by simp)]
    obtain ⟨a0, a1, a2, a3, a4, a5, a6⟩ := f
    simp only at h6 h0 h1 h1' ⊢
    obtain ⟨w3, w4, w5⟩ := hf
    simp only at w3 w4 w5
    rcases (show a1 = 0 ∨ a1 = 1 ∨ a1 = 2 ∨ a1 = 3 ∨ a1 = 4 by omega) with rfl | rfl | rfl | rfl | rfl
    · simp [c_Load, ob_some]
    · simp only [c_SeqC w4.1 w4.2, c_Load, ob_some, c_full hmay w4.1 w4.2, c_Far, c_End6, beqI]
      by_cases h5 : farB (loadM m (seqC c a4)) (fullB c a4) = 0
      · simp [h5]
      · by_cases h7 : farB (loadM m (seqC c a4)) (fullB c a4) < 0
        · simp [h5, h7, endB]
        · simp [h5, h7]
    · simp only [add_u, c_Cas hl, ob_some]
      cases hc : (casM m 4 a4 (addU a4 1)).2 <;> simp [hc]
    · simp only [c_ValC w4.1 w4.2, c_Load, ob_some]
      simp
    · simp only [c_SeqC w4.1 w4.2, c_full hmay w4.1 w4.2, add_u, c_Store hl, ob_some, c_End6]
      simp [endB]
theorem c_InjStep (c : CF) {m : List Int} (hm : Wm m) (hl : m.length ≤ 1000) {f : FR} (hf : Wf f) : g_inject_Step c m f = some (injB c m f) := by
  unfold g_inject_Step injB
  simp only [Prod.eta, c_EnqStep c hm hl hf, c_DeqStep c hm hl hf, ob_some, beqI]
  by_cases h3 : f.1 = 3
  · simp [h3]
  · by_cases h4 : f.1 = 4
    · simp [h4]
    · simp [h3, h4, clone_ok (b := 8) (l := m) (by omega), ob_some]
theorem c_EvtStep {k : Nat} (hk : 1000 ≤ k) (c : CF) {m : List Int} (hm : Wm m) (hl : m.length ≤ 1000) {f : FR} (hf : Wf f) : g_event_Step k c m f = some (evtB c m f) := by
  unfold g_event_Step evtB
  simp only [Prod.eta, c_WStep c hm hl hf, c_NStep hk c hm hl hf, ob_some, beqI]
  by_cases h5 : f.1 = 5
  · rw [decide_eq_true h5, cond_true, if_pos h5]
  · rw [decide_eq_false h5, cond_false, if_neg h5]
    by_cases h6 : f.1 = 6
    · rw [decide_eq_true h6, cond_true, cond_true, if_pos (.inl h6)]
    · rw [decide_eq_false h6, cond_false]
      by_cases h7 : f.1 = 7
      · rw [decide_eq_true h7, cond_true, if_pos (.inr h7)]
      · rw [decide_eq_false h7, cond_false, if_neg (by omega), clone_ok (by omega), ob_some]
theorem c_Add {m : List Int} (hl : m.length ≤ 1000) (i v : Int) : g_cell_Add m i v = some (if 0 ≤ i ∧ i < m.length then (storeM m i (addU (loadM m i) v), loadM m i) else (m, 0)) := by
  unfold g_cell_Add
  rw [clone_ok (by omega), ob_some, c_is, ob_some]
  by_cases h : 0 ≤ i ∧ i < m.length
  · have hd : decide (0 ≤ i ∧ i.toNat < m.length) = true := decide_eq_true (by omega)
    rw [decide_eq_true h, Bool.not_true, cond_false, (load_at h).1, ob_some, hd, cond_true, (load_at h).2, ob_some, ob_some, if_pos h, add_u]
    unfold storeM
    rw [if_pos h.1]
  · rw [decide_eq_false h, Bool.not_false, cond_true, if_neg h]
theorem size_low {c : CF} (h : mayC c = true) : 12 ≤ sizeC c ∧ sizeC c ≤ 190 := by
  have hm := mayC_of h
  have := top_rng h (w := c.1) (by omega) (by omega)
  unfold sizeC
  rw [if_pos h]
  have e : topC c c.1 = 6 + 2 * c.2.2.1 + c.1 * (3 + c.2.1) := rfl
  have h3 : 1 * (3 + c.2.1) ≤ c.1 * (3 + c.2.1) := Int.mul_le_mul_of_nonneg_right (by omega) (by omega)
  omega
end Go.Ab
