/- The functions of chapters 14 .., as words: what is walked comes to these. -/
import Derived.Test.YtcmdnjaenhbdpaaGreatR5GW
import Derived.Test.YtcmdnjaenhbdpaaGreatR5PWd
set_option linter.unusedVariables false
set_option linter.unusedSimpArgs false
set_option maxRecDepth 100000
set_option linter.unusedVariables false
namespace Go.Ab
theorem mayC_of {c : CF} (h : mayC c = true) : 1 ≤ c.1 ∧ c.1 ≤ 8 ∧ (c.2.1 = 1 ∨ c.2.1 = 2 ∨ c.2.1 = 4 ∨ c.2.1 = 8 ∨ c.2.1 = 16) ∧ 1 ≤ c.2.2.1 ∧ c.2.2.1 ≤ 16 ∧ 0 ≤ c.2.2.2 ∧ c.2.2.2 ≤ 4 := by
  unfold mayC at h
  exact of_decide_eq_true h
theorem top_rng {c : CF} (h : mayC c = true) {w : Int} (h0 : 0 ≤ w) (h1 : w ≤ 8) : 8 ≤ topC c w ∧ topC c w ≤ 190 ∧ w * (3 + c.2.1) ≤ 152 ∧ 0 ≤ w * (3 + c.2.1) := by
  obtain ⟨_, _, hD, _, _, _, _⟩ := mayC_of h
  have a : 0 ≤ w * (3 + c.2.1) := Int.mul_nonneg h0 (by omega)
  have b : w * (3 + c.2.1) ≤ 8 * 19 := Int.mul_le_mul h1 (by omega) (by omega) (by omega)
  unfold topC
  omega
theorem c_in (a b c : Int) : g_lay_in a b c = some (decide (b ≤ a ∧ a ≤ c)) := by
  unfold g_lay_in
  by_cases h : b ≤ a
  · simp [h]
  · simp [h]
theorem two_D {D : Int} (h1 : 1 ≤ D) (h2 : D ≤ 16) : (andI IntKind.i64 D (IntKind.i64.wrap (D - 1)) == 0) = decide (D = 1 ∨ D = 2 ∨ D = 4 ∨ D = 8 ∨ D = 16) := by
  have : D = 1 ∨ D = 2 ∨ D = 3 ∨ D = 4 ∨ D = 5 ∨ D = 6 ∨ D = 7 ∨ D = 8 ∨ D = 9 ∨ D = 10 ∨ D = 11 ∨ D = 12 ∨ D = 13 ∨ D = 14 ∨ D = 15 ∨ D = 16 := by omega
  rcases this with rfl | rfl | rfl | rfl | rfl | rfl | rfl | rfl | rfl | rfl | rfl | rfl | rfl | rfl | rfl | rfl <;> decide +kernel
theorem c_May14 (c : CF) : g_lay_May c = some (mayC c) := by
  obtain ⟨W, D, I, S⟩ := c
  unfold g_lay_May mayC
  simp only [c_in, ob_some]
  by_cases h1 : 1 ≤ W ∧ W ≤ 8
  · rw [decide_eq_true h1, cond_true]
    by_cases h2 : 1 ≤ D ∧ D ≤ 16
    · rw [decide_eq_true h2, cond_true, two_D h2.1 h2.2]
      by_cases h3 : D = 1 ∨ D = 2 ∨ D = 4 ∨ D = 8 ∨ D = 16
      · rw [decide_eq_true h3, cond_true]
        by_cases h4 : 1 ≤ I ∧ I ≤ 16
        · rw [decide_eq_true h4, cond_true]
          congr 1
          apply decide_eq_decide.2
          omega
        · rw [decide_eq_false h4, cond_false]
          symm
          congr 1
          apply decide_eq_false
          omega
      · rw [decide_eq_false h3, cond_false]
        symm
        congr 1
        apply decide_eq_false
        omega
    · rw [decide_eq_false h2, cond_false]
      symm
      congr 1
      apply decide_eq_false
      omega
  · rw [decide_eq_false h1, cond_false]
    symm
    congr 1
    apply decide_eq_false
    omega
theorem c_base {c : CF} (h : mayC c = true) {w : Int} (h0 : 0 ≤ w) (h1 : w ≤ 8) : g_lay_base c w = some (topC c w) := by
  have ht := top_rng h h0 h1
  have hm := mayC_of h
  obtain ⟨W, D, I, S⟩ := c
  simp only [topC] at ht hm ⊢
  unfold g_lay_base
  simp only
  rw [wrapI (z := 2 * I) (by omega), wrapI (z := 6 + 2 * I) (by omega), wrapI (z := 3 + D) (by omega), wrapI (z := w * (3 + D)) (by omega), wrapI (by omega)]
theorem c_Size (c : CF) : g_lay_Size c = some (sizeC c) := by
  unfold g_lay_Size sizeC
  try simp only [Prod.eta]
  rw [c_May14, ob_some]
  cases h : mayC c with
  | false => rfl
  | true =>
    have hm := mayC_of h
    rw [Bool.not_true, cond_false, if_pos rfl, c_base h (by omega) (by omega), ob_some]
theorem c_Over (f : FR) : g_frame_Over f = some (overB f) := rfl
theorem c_End6 (f : FR) (r v : Int) : g_frame_End f r v = some (endB f r v) := rfl
theorem c_Goes (c : CF) (m : List Int) (f : FR) (op pcs : Int) : g_push_Goes c m f op pcs = some (goesB c m f op pcs) := by
  obtain ⟨a0, a1, a2, a3, a4, a5, a6⟩ := f
  unfold g_push_Goes goesB
  try simp only [Prod.eta]
  rw [c_May14, ob_some]
  cases h : mayC c with
  | false => rfl
  | true =>
    rw [cond_true, c_Size, ob_some, beqI]
    by_cases h1 : (m.length : Int) = sizeC c
    · rw [decide_eq_true h1, cond_true, c_Over, ob_some, overB]
      simp only
      by_cases h2 : a6 = 0
      · subst h2
        have e : (!((0 : Int) != 0)) = true := rfl
        rw [e, cond_true]
        by_cases h3 : 0 ≤ a2
        · rw [leT h3, cond_true]
          by_cases h4 : a2 < c.1
          · rw [ltT h4, cond_true, beqI]
            by_cases h5 : a0 = op
            · rw [decide_eq_true h5, cond_true]
              by_cases h6 : 0 ≤ a1
              · rw [leT h6, cond_true]
                simp [h3, h4, h5, h6]
              · rw [leF (by omega), cond_false]
                simp [h6]
            · rw [decide_eq_false h5, cond_false]
              simp [h5]
          · rw [ltF (by omega), cond_false]
            simp [h4]
        · rw [leF (by omega), cond_false]
          simp [h3]
      · have e : (!(a6 != 0)) = false := by simp [h2]
        rw [e, cond_false]
        simp [h2]
    · rw [decide_eq_false h1, cond_false]
      simp
theorem c_Park (c : CF) (w : Int) : g_lay_Park c w = some (parkC c w) := by
  unfold g_lay_Park parkC
  try simp only [Prod.eta]
  rw [c_May14, ob_some]
  cases h : mayC c with
  | false => simp
  | true =>
    have hm := mayC_of h
    rw [Bool.not_true, cond_false, wrapI (by omega), c_in, ob_some]
    by_cases h1 : 0 ≤ w ∧ w ≤ c.1 - 1
    · have ht := top_rng h h1.1 (by omega)
      rw [decide_eq_true h1, Bool.not_true, cond_false, c_base h (by omega) (by omega), ob_some, wrapI (by omega), if_pos ⟨rfl, by omega, by omega⟩]
    · rw [decide_eq_false h1, Bool.not_false, cond_true, if_neg (by omega)]
theorem c_is (m : List Int) (i : Int) : g_cell_is m i = some (decide (0 ≤ i ∧ i < m.length)) := by
  unfold g_cell_is
  by_cases h : 0 ≤ i
  · simp [h]
  · simp [h]
theorem load_at {m : List Int} {i : Int} (h : 0 ≤ i ∧ i < m.length) : idx m i = some (loadM m i) ∧ m[i.toNat]? = some (loadM m i) := by
  have h2 : i.toNat < m.length := by omega
  rw [idx, if_pos h.1, loadM, if_pos h.1, List.getElem?_eq_getElem h2]
  exact ⟨rfl, rfl⟩
theorem load_out {m : List Int} {i : Int} (h : ¬ (0 ≤ i ∧ i < m.length)) : loadM m i = 0 := by
  unfold loadM
  split
  · rw [List.getElem?_eq_none (by omega)]
    rfl
  · rfl
theorem store_out {m : List Int} {i v : Int} (h : ¬ (0 ≤ i ∧ i < m.length)) : storeM m i v = m := by
  unfold storeM
  split
  · rw [List.set_eq_of_length_le (by omega)]
  · rfl
theorem store_len {m : List Int} {i v : Int} : (storeM m i v).length = m.length := by
  unfold storeM
  split <;> simp
theorem Wm.set {m : List Int} (h : Wm m) (i : Int) {v : Int} (h0 : 0 ≤ v) (h1 : v ≤ 18446744073709551615) : Wm (storeM m i v) := by
  refine ⟨by rw [store_len]; exact h.len, fun x hx => ?_⟩
  unfold storeM at hx
  split at hx
  · rcases List.mem_or_eq_of_mem_set hx with hx | rfl
    · exact h.num x hx
    · exact ⟨h0, h1⟩
  · exact h.num x hx
theorem Wm.cas {m : List Int} (h : Wm m) (i o : Int) {v : Int} (h0 : 0 ≤ v) (h1 : v ≤ 18446744073709551615) : Wm (casM m i o v).1 := by
  unfold casM
  split
  · exact h.set i h0 h1
  · exact h
theorem c_Load (m : List Int) (i : Int) : g_cell_Load m i = some (loadM m i) := by
  unfold g_cell_Load
  rw [c_is, ob_some]
  by_cases h : 0 ≤ i ∧ i < m.length
  · rw [decide_eq_true h, Bool.not_true, cond_false, (load_at h).1, ob_some]
  · rw [decide_eq_false h, Bool.not_false, cond_true, load_out h]
theorem clone_ok {α : Type} {b : Nat} {l : List α} (h : l.length * b ≤ 70368744177664) : g_clone b l = some l := by
  unfold g_clone
  have : Nat.ble (l.length * b) 70368744177664 = true := Nat.ble_eq_true_of_le h
  rw [this, ck_true]
section
variable {m : List Int} (hl : m.length ≤ 1000)
include hl
theorem c_Store (i v : Int) : g_cell_Store m i v = some (storeM m i v) := by
  unfold g_cell_Store
  rw [clone_ok (by omega), ob_some, c_is, ob_some]
  by_cases h : 0 ≤ i ∧ i < m.length
  · rw [decide_eq_true h, Bool.not_true, cond_false, (load_at h).1, ob_some, decide_eq_true (by omega), cond_true, (load_at h).2, ob_some, ob_some, storeM, if_pos h.1]
  · rw [decide_eq_false h, Bool.not_false, cond_true, store_out h]
theorem c_Cas (i o v : Int) : g_cell_Cas m i o v = some (casM m i o v) := by
  unfold g_cell_Cas casM
  rw [clone_ok (by omega), ob_some, c_is, ob_some]
  by_cases h : 0 ≤ i ∧ i < m.length
  · rw [decide_eq_true h, Bool.not_true, cond_false, (load_at h).1, ob_some, bneI]
    by_cases h2 : loadM m i = o
    · rw [decide_eq_true h2, Bool.not_true, cond_false, decide_eq_true (by omega), cond_true, (load_at h).2, ob_some, ob_some, if_pos ⟨h.1, h.2, h2⟩, storeM, if_pos h.1]
    · rw [decide_eq_false h2, Bool.not_false, cond_true, decide_eq_true (by omega), cond_true, (load_at h).2, ob_some, ob_some, if_neg (fun hh => h2 hh.2.2)]
      have := (load_at h).2
      rw [List.getElem?_eq_some_iff] at this
      obtain ⟨h3, h4⟩ := this
      rw [← h4, List.set_getElem_self]
  · rw [decide_eq_false h, Bool.not_false, cond_true, if_neg (fun hh => h ⟨hh.1, hh.2.1⟩)]
end
theorem c_Set {e w : Int} (h0 : 0 ≤ e) (h1 : e ≤ 18446744073709551615) : g_word_Set e w = some (setB e w) := by
  unfold g_word_Set
  by_cases h2 : w < 0
  · rw [ltT h2, cond_true, setB, if_neg (by omega)]
  · rw [ltF (by omega), cond_false]
    by_cases h3 : 16 ≤ w
    · rw [leT h3, cond_true, setB, if_neg (by omega)]
    · rw [leF (by omega), cond_false, leT (by omega), cond_true, shl_u (by omega) (by omega), set_u h0 h1 (by omega) (by omega)]
theorem c_Epoch {e : Int} (h0 : 0 ≤ e) : g_word_Epoch e = some (epB e) := by
  unfold g_word_Epoch
  rw [epoch_u h0]
theorem c_Mask {e : Int} (h0 : 0 ≤ e) (h1 : e ≤ 18446744073709551615) : g_word_Mask e = some (mkB e) := by
  unfold g_word_Mask
  rw [mask_u h0 h1]
def Wf (f : FR) : Prop := (0 ≤ f.2.2.2.1 ∧ f.2.2.2.1 ≤ 18446744073709551615) ∧ (0 ≤ f.2.2.2.2.1 ∧ f.2.2.2.2.1 ≤ 18446744073709551615) ∧ (0 ≤ f.2.2.2.2.2.1 ∧ f.2.2.2.2.2.1 ≤ 18446744073709551615)
theorem goes_pc {c : CF} {m : List Int} {f : FR} {op pcs : Int} (h : goesB c m f op pcs = true) : mayC c = true ∧ (m.length : Int) = sizeC c ∧ f.2.2.2.2.2.2 = 0 ∧ 0 ≤ f.2.2.1 ∧ f.2.2.1 < c.1 ∧ f.1 = op ∧ 0 ≤ f.2.1 ∧ f.2.1 < pcs := by
  unfold goesB at h
  rw [Bool.and_eq_true, Bool.and_eq_true, decide_eq_true_eq, decide_eq_true_eq] at h
  exact ⟨h.1.1, h.1.2, h.2⟩
theorem c_WStep (c : CF) {m : List Int} (hm : Wm m) (hl : m.length ≤ 1000) {f : FR} (hf : Wf f) : g_wait_Step c m f = some (waitB c m f) := by
  have hr := load_rng hm 2
  unfold g_wait_Step waitB
  try simp only [Prod.eta]
  rw [clone_ok (by omega), ob_some, c_Goes, ob_some]
  cases h : goesB c m f 5 5 with
  | false => rfl
  | true =>
    obtain ⟨_, _, h6, h2, h2', h0, h1, h1'⟩ := goes_pc h
    rw [cond_true, if_neg (by simp)]
    obtain ⟨a0, a1, a2, a3, a4, a5, a6⟩ := f
    simp only at h6 h2 h2' h0 h1 h1' ⊢
    have e : decide (0 ≤ a1 ∧ a1.toNat < 5) = true := by rw [decide_eq_true_eq]; omega
    rw [e, cond_true]
    obtain ⟨_, w4, w5⟩ := hf
    simp only at w4 w5
    have hp : a1 = 0 ∨ a1 = 1 ∨ a1 = 2 ∨ a1 = 3 ∨ a1 = 4 := by omega
    rcases hp with rfl | rfl | rfl | rfl | rfl
    · simp [c_Load, ob_some]
    · simp only [c_Load, ob_some, c_Epoch hr.1, c_Epoch w4.1, bneI, c_End6]
      by_cases h5 : epB (loadM m 2) = epB a4
      · simp [h5]
      · simp [h5, endB]
    · simp only [c_Set w5.1 w5.2, ob_some, c_Cas hl]
      cases hc : (casM m 2 a5 (setB a5 a2)).2 <;> simp [hc]
    · simp only [c_Park, c_Load, ob_some, bneI]
      by_cases h5 : loadM m (parkC c a2) = 0
      · simp [h5]
      · simp [h5]
    · simp only [c_Park, ob_some, c_Store hl, c_End6]
      simp [endB]
end Go.Ab
