/- WaitCells: the law's word. -/
import Derived.Test.YthnifkacfonhgaaR2GL4D
import Derived.Test.YthnifkacfonhgaaR2GL4
import Derived.Test.YthnifkacfonhgaaR2PWf3
set_option linter.unusedVariables false
set_option linter.unusedSimpArgs false
set_option linter.unusedVariables false
namespace Go.Ab
theorem wc_skip (k : Nat) (c : CF) {m a : List Int} (f : FR) (hl : m.length ≤ 1000) (hal : a.length = m.length) (g : FR) (cnt at_ : Int) : ∀ (d j n : Nat), j + d ≤ m.length → (∀ x, j ≤ x → x < j + d → a[x]? = m[x]?) →
    o_WaitCells_L0 k c m f (n + d) a g.1 g.2.1 g.2.2.1 g.2.2.2.1 g.2.2.2.2.1 g.2.2.2.2.2.1 g.2.2.2.2.2.2 cnt at_ (j : Int) = o_WaitCells_L0 k c m f n a g.1 g.2.1 g.2.2.1 g.2.2.2.1 g.2.2.2.2.1 g.2.2.2.2.2.1 g.2.2.2.2.2.2 cnt at_ ((j + d : Nat) : Int)
  | 0, j, n, _, _ => rfl
  | d + 1, j, n, h, he => by
    have h1 : m[j]? = some m[j] := List.getElem?_eq_getElem (by omega)
    have h2 : a[j]? = some m[j] := by rw [he j (by omega) (by omega), h1]
    have e : n + (d + 1) = (n + d) + 1 := rfl
    rw [e, o_WaitCells_L0, ltN (by omega), cond_true, idx_of h2, ob_some, idx_of h1, ob_some, bneI, decide_eq_true rfl, Bool.not_true, cond_false, wrapS (by omega), wc_skip k c f hl hal g cnt at_ d (j + 1) n (by omega) fun x h3 h4 => he x (by omega) (by omega)]
    have : j + 1 + d = j + (d + 1) := by omega
    rw [this]
theorem wc_same (k : Nat) (hk : 2000 ≤ k) (c : CF) {m : List Int} (f g : FR) (hl : m.length ≤ 1000) (hg : goesB c m f 5 5 = false → g = f) :
    o_WaitCells_L0 k c m f (k + 60) m g.1 g.2.1 g.2.2.1 g.2.2.2.1 g.2.2.2.2.1 g.2.2.2.2.2.1 g.2.2.2.2.2.2 0 (-1) 0 = some true := by
  obtain ⟨n, hn⟩ : ∃ n, k + 60 = (n + 1) + m.length := ⟨k + 60 - m.length - 1, by omega⟩
  have := wc_skip k c f hl rfl g 0 (-1) m.length 0 (n + 1) (by omega) fun x _ _ => rfl
  have e0 : ((0 : Nat) : Int) = 0 := rfl
  rw [e0] at this
  rw [hn, this, Nat.zero_add, o_WaitCells_L0, lt_len, cond_false]
  simp only [Prod.eta]
  rw [c_Goes, ob_some]
  cases hgo : goesB c m f 5 5 with
  | false =>
    rw [hg hgo]
    simp
  | true =>
    rw [Bool.not_true, cond_false]
    rfl
theorem wc_one (k : Nat) (hk : 2000 ≤ k) (c : CF) {m : List Int} (f g : FR) (hl : m.length ≤ 1000) (i v : Int) (hi : 0 ≤ i ∧ i < m.length) (hv : v ≠ loadM m i) (hgo : goesB c m f 5 5 = true)
    (hc : (f.2.1 = 2 ∧ i = 2 ∧ 0 ≤ loadM m 2 ∧ loadM m 2 ≤ 18446744073709551615 ∧ v = setB (loadM m 2) f.2.2.1 ∧ g.2.1 = 3) ∨ (f.2.1 = 4 ∧ v = 0 ∧ i = parkC c f.2.2.1)) :
    o_WaitCells_L0 k c m f (k + 60) (storeM m i v) g.1 g.2.1 g.2.2.1 g.2.2.2.1 g.2.2.2.2.1 g.2.2.2.2.2.1 g.2.2.2.2.2.2 0 (-1) 0 = some true := by
  have hal : (storeM m i v).length = m.length := store_len
  obtain ⟨p, rfl⟩ : ∃ p : Nat, i = p := ⟨i.toNat, by omega⟩
  have hpl : p < m.length := by omega
  have hset : storeM m (p : Int) v = m.set p v := by unfold storeM; rw [if_pos (by omega)]; rfl
  have hne : ∀ x, x ≠ p → (storeM m (p : Int) v)[x]? = m[x]? := fun x hx => by rw [hset, List.getElem?_set_ne (fun e => hx e.symm)]
  have hat : (storeM m (p : Int) v)[p]? = some v := by rw [hset, List.getElem?_set_self hpl]
  have hmp : m[p]? = some (loadM m p) := (load_at hi).2
  obtain ⟨n, hn⟩ : ∃ n, k + 60 = ((n + 1) + (m.length - p - 1) + 1) + p := ⟨k + 60 - m.length - 1, by omega⟩
  have s1 := wc_skip k c (a := storeM m (p : Int) v) f hl hal g 0 (-1) p 0 ((n + 1) + (m.length - p - 1) + 1) (by omega) fun x _ hx => hne x (by omega)
  have e0 : ((0 : Nat) : Int) = 0 := rfl
  have s2 := wc_skip k c (a := storeM m (p : Int) v) f hl hal g 1 (p : Int) (m.length - p - 1) (p + 1) (n + 1) (by omega) fun x hx _ => hne x (by omega)
  have w1 : IntKind.i64.wrap (0 + 1) = 1 := by decide
  rw [e0] at s1
  rw [hn, s1, Nat.zero_add, o_WaitCells_L0, ltN hpl, cond_true, idx_of hat, ob_some, idx_of hmp, ob_some, bneI, decide_eq_false hv, Bool.not_false, cond_true, w1, wrapS (by omega), s2]
  have e1 : p + 1 + (m.length - p - 1) = m.length := by omega
  rw [e1, o_WaitCells_L0, lt_len, cond_false]
  simp only [Prod.eta]
  rw [c_Goes, ob_some, hgo, Bool.not_true, cond_false, beqI, decide_eq_false (by decide), cond_false, beqI, decide_eq_true rfl, cond_true, beqI]
  rcases hc with ⟨h1, h2, h3, h4, h5, h6⟩ | ⟨h1, h2, h3⟩
  · rw [decide_eq_true h1, cond_true, beqI, decide_eq_true h2, cond_true, idx_of hat, ob_some, idx_of hmp, ob_some, h2, c_Set h3 h4, ob_some, beqI, decide_eq_true h5, cond_true, beqI, decide_eq_true h6, cond_true]
  · rw [decide_eq_false (by omega), cond_false, beqI, decide_eq_true h1, cond_true, c_Park, ob_some, beqI, decide_eq_true h3, cond_true, idx_of hat, ob_some, h2]
    rfl
theorem pure_WCells (k : Nat) (hk : 2000 ≤ k) (c : CF) {m : List Int} (hm : Wm m) (f : FR) (hf : Wf f) : o_WaitCells k c m f = some true := by
  rw [o_WaitCells]
  by_cases hl : (500 : Int) < m.length
  · rw [ltT hl]; rfl
  · rw [ltF (by omega), cond_false]
    simp only [Prod.eta]
    have hl' : m.length ≤ 1000 := by omega
    rw [c_WStep c hm hl' hf, ob_some]
    have hr := load_rng hm 2
    have one : ∀ (i v : Int) (g : FR), goesB c m f 5 5 = true → ((f.2.1 = 2 ∧ i = 2 ∧ 0 ≤ loadM m 2 ∧ loadM m 2 ≤ 18446744073709551615 ∧ v = setB (loadM m 2) f.2.2.1 ∧ g.2.1 = 3) ∨ (f.2.1 = 4 ∧ v = 0 ∧ i = parkC c f.2.2.1)) →
        waitB c m f = (storeM m i v, g) → (bif ((waitB c m f).1.length : Int) != m.length then some false else o_WaitCells_L0 k c m f (k + 60) (waitB c m f).1 (waitB c m f).2.1 (waitB c m f).2.2.1 (waitB c m f).2.2.2.1 (waitB c m f).2.2.2.2.1 (waitB c m f).2.2.2.2.2.1 (waitB c m f).2.2.2.2.2.2.1 (waitB c m f).2.2.2.2.2.2.2 0 (-1) 0) = some true := by
      intro i v g hgo hc hst
      rw [hst, lenNe, decide_eq_true (show (storeM m i v).length = m.length from store_len), Bool.not_true, cond_false]
      simp only
      by_cases hi : 0 ≤ i ∧ i < m.length
      · by_cases hv : v = loadM m i
        · rw [hv, store_same]
          exact wc_same k hk c f g hl' fun h => by rw [hgo] at h; cases h
        · exact wc_one k hk c f g hl' i v hi hv hgo hc
      · rw [store_out hi]
        exact wc_same k hk c f g hl' fun h => by rw [hgo] at h; cases h
    have same : ∀ g : FR, waitB c m f = (m, g) → (goesB c m f 5 5 = false → g = f) → (bif ((waitB c m f).1.length : Int) != m.length then some false else o_WaitCells_L0 k c m f (k + 60) (waitB c m f).1 (waitB c m f).2.1 (waitB c m f).2.2.1 (waitB c m f).2.2.2.1 (waitB c m f).2.2.2.2.1 (waitB c m f).2.2.2.2.2.1 (waitB c m f).2.2.2.2.2.2.1 (waitB c m f).2.2.2.2.2.2.2 0 (-1) 0) = some true := by
      intro g hst hg
      rw [hst, lenNe, decide_eq_true rfl, Bool.not_true, cond_false]
      exact wc_same k hk c f g hl' hg
    cases hgo : goesB c m f 5 5 with
    | false =>
      exact same f (by unfold waitB; rw [hgo, if_pos rfl]) fun _ => rfl
    | true =>
      have ok := okB_of hgo
      obtain ⟨_, _, h6, _, _, h0, _, _⟩ := goes_pc hgo
      obtain ⟨a0, a1, w, a3, a4, a5, a6⟩ := f
      simp only at h6 h0 ok
      subst h6 h0
      by_cases p0 : a1 = 0
      · subst p0
        exact same _ (wait0 ok) fun h => by rw [hgo] at h; cases h
      · by_cases p1 : a1 = 1
        · subst p1
          by_cases he : epB (loadM m 2) = epB a4
          · exact same _ (by rw [wait1 ok, if_pos he]) fun h => by rw [hgo] at h; cases h
          · exact same _ (by rw [wait1 ok, if_neg he]) fun h => by rw [hgo] at h; cases h
        · by_cases p2 : a1 = 2
          · subst p2
            by_cases he : loadM m 2 = a5
            · exact one 2 _ _ hgo (.inl ⟨rfl, rfl, hr.1, hr.2, by rw [he], rfl⟩) (by rw [wait2 ok, if_pos he])
            · exact same _ (by rw [wait2 ok, if_neg he]) fun h => by rw [hgo] at h; cases h
          · by_cases p3 : a1 = 3
            · subst p3
              exact same _ (wait3 ok) fun h => by rw [hgo] at h; cases h
            · have p4 : a1 = 4 := by
                have := goes_pc hgo
                simp only at this
                omega
              subst p4
              exact one _ 0 _ hgo (.inr ⟨rfl, rfl, rfl⟩) (wait4 ok)
theorem ob_id {α : Type} (A : Option α) : (ob A fun x => some x) = A := by cases A <;> rfl
theorem cells_L0 (k : Nat) (c : CF) (m : List Int) (f : FR) : ∀ (n : Nat) (s3 : List Int) (s4 s5 s6 s7 s8 s9 s10 s11 : Int) (s12 : Bool) (s17 s18 s19 : Int), g_poacherlaw14_WaitCells_L0 k c m f n s3 s4 s5 s6 s7 s8 s9 s10 s11 s12 s17 s18 s19 = o_WaitCells_L0 k c m f n s3 s4 s5 s6 s7 s8 s9 s10 s17 s18 s19
  | 0, _, _, _, _, _, _, _, _, _, _, _, _, _ => rfl
  | n + 1, s3, s4, s5, s6, s7, s8, s9, s10, s11, s12, s17, s18, s19 => by
    rw [g_poacherlaw14_WaitCells_L0, o_WaitCells_L0]
    simp only [cells_L0 k c m f n, e33, ob_id]
    rfl
theorem law_WCells (k : Nat) (hk : 9223372036854779900 < k) (c : CF) (hc : confOk c) (m : List Int) (hm : Wm m) (f : FR) (hf : frameOk f) : xC k none 4 [.agg (confV c), .ro (m.map (intR .u64)), .agg (frameV f)] = some (.lit (.bool true), []) := by
  obtain ⟨j, rfl⟩ : ∃ j, k = j + 61 := ⟨k - 61, by omega⟩
  have h := pure_WCells j (by omega) c hm f ⟨u64_of hf.2.2.2.1, u64_of hf.2.2.2.2.1, u64_of hf.2.2.2.2.2.1⟩
  have e : g_poacherlaw14_WaitCells j c m f = o_WaitCells j c m f := by
    unfold g_poacherlaw14_WaitCells o_WaitCells
    simp only [cells_L0]
  obtain ⟨W, D, I, S⟩ := c
  obtain ⟨a0, a1, a2, a3, a4, a5, a6⟩ := f
  rw [confV, frameV, h_poacherlaw14_WaitCells, e, h]
  rfl
end Go.Ab
