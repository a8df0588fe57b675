/- NoteCells: the law's word. -/
import Derived.Test.YthnifkacfonhgaaR2GL9
import Derived.Test.YthnifkacfonhgaaR2PN2
set_option linter.unusedVariables false
namespace Go.Ab
theorem nc_skip (k : Nat) (c : CF) {m a : List Int} (f : FR) (hl : m.length ≤ 1000) (hal : a.length = m.length) (g : FR) (cnt at_ : Int) : ∀ (d j n : Nat), j + d ≤ m.length → (∀ x, j ≤ x → x < j + d → a[x]? = m[x]?) →
    g_poacherlaw15_NoteCells_L0 k c m f (n + d) a g.1 g.2.1 g.2.2.1 g.2.2.2.1 g.2.2.2.2.1 g.2.2.2.2.2.1 g.2.2.2.2.2.2 cnt at_ (j : Int) = g_poacherlaw15_NoteCells_L0 k c m f n a g.1 g.2.1 g.2.2.1 g.2.2.2.1 g.2.2.2.2.1 g.2.2.2.2.2.1 g.2.2.2.2.2.2 cnt at_ ((j + d : Nat) : Int)
  | 0, j, n, _, _ => rfl
  | d + 1, j, n, h, he => by
    have h1 : m[j]? = some m[j] := List.getElem?_eq_getElem (by omega)
    have h2 : a[j]? = some m[j] := by rw [he j (by omega) (by omega), h1]
    have e : n + (d + 1) = (n + d) + 1 := rfl
    rw [e, g_poacherlaw15_NoteCells_L0, ltN (by omega), cond_true, idx_of h2, ob_some, idx_of h1, ob_some, bneI, decide_eq_true rfl, Bool.not_true, cond_false, wrapS (by omega), nc_skip k c f hl hal g cnt at_ d (j + 1) n (by omega) fun x h3 h4 => he x (by omega) (by omega)]
    have : j + 1 + d = j + (d + 1) := by omega
    rw [this]
/-- The last part: which worker's cell it is. -/
theorem nc_park (k : Nat) (c : CF) {m a : List Int} (f : FR) (cnt at_ : Int)
    (R : Bool → Prop) (hR : ∀ n b, R b → g_poacherlaw15_NoteCells_L1 k c m f (n + 1) a cnt at_ b 8 = some true) : ∀ (d j n : Nat) (b : Bool), j + d = 8 → d < n → (∀ b', (b' = true ↔ (b = true ∨ ∃ w : Nat, j ≤ w ∧ w < 8 ∧ at_ = parkC c w)) → R b') →
    g_poacherlaw15_NoteCells_L1 k c m f n a cnt at_ b (j : Int) = some true
  | 0, j, n, b, hj, hn, h => by
    obtain ⟨n, rfl⟩ := fuel hn
    have : j = 8 := by omega
    subst this
    exact hR n b (h b ⟨fun x => .inl x, fun x => x.elim id fun ⟨w, h1, h2, _⟩ => by omega⟩)
  | d + 1, j, n, b, hj, hn, h => by
    obtain ⟨n, rfl⟩ := fuel hn
    rw [g_poacherlaw15_NoteCells_L1, ltT (by omega), cond_true, wrapS (by omega)]
    cases b with
    | true =>
      rw [cond_true]
      exact nc_park k c f cnt at_ R hR d (j + 1) n true (by omega) (by omega) fun b' hb => h b' ⟨fun _ => .inl rfl, fun _ => hb.2 (.inl rfl)⟩
    | false =>
      rw [cond_false]
      simp only [Prod.eta]
      rw [c_Park, ob_some, beqI]
      refine nc_park k c f cnt at_ R hR d (j + 1) n _ (by omega) (by omega) fun b' hb => h b' ?_
      rw [hb]
      constructor
      · rintro (h1 | ⟨w, h1, h2, h3⟩)
        · exact .inr ⟨j, by omega, by omega, of_decide_eq_true h1⟩
        · exact .inr ⟨w, by omega, h2, h3⟩
      · rintro (h1 | ⟨w, h1, h2, h3⟩)
        · cases h1
        · by_cases e : w = j
          · subst e; exact .inl (decide_eq_true h3)
          · exact .inr ⟨w, by omega, h2, h3⟩
theorem nc_same (k : Nat) (hk : 2000 ≤ k) (c : CF) {m : List Int} (f g : FR) (hl : m.length ≤ 1000) (hg : ngoesB c m f = false → g = f) :
    g_poacherlaw15_NoteCells_L0 k c m f (k + 60) m g.1 g.2.1 g.2.2.1 g.2.2.2.1 g.2.2.2.2.1 g.2.2.2.2.2.1 g.2.2.2.2.2.2 0 (-1) 0 = some true := by
  obtain ⟨n, hn⟩ : ∃ n, k + 60 = (n + 1) + m.length := ⟨k + 60 - m.length - 1, by omega⟩
  have := nc_skip k c f hl rfl g 0 (-1) m.length 0 (n + 1) (by omega) fun x _ _ => rfl
  have e0 : ((0 : Nat) : Int) = 0 := rfl
  rw [e0] at this
  rw [hn, this, Nat.zero_add, g_poacherlaw15_NoteCells_L0, lt_len, cond_false]
  simp only [Prod.eta]
  rw [c_NGoes, ob_some]
  cases hgo : ngoesB c m f with
  | false =>
    rw [hg hgo]
    simp
  | true =>
    rw [Bool.not_true, cond_false]
    have hp := nc_park k c (m := m) (a := m) f 0 (-1) (fun _ => True) (fun n b _ => by
      rw [g_poacherlaw15_NoteCells_L1, ltF (by decide), cond_false, beqI, decide_eq_true rfl, cond_true]) 8 0 (k + 60) false (by omega) (by omega) fun _ _ => trivial
    exact hp
theorem nc_one (k : Nat) (hk : 2000 ≤ k) (c : CF) {m : List Int} (f g : FR) (hl : m.length ≤ 1000) (i v : Int) (hi : 0 ≤ i ∧ i < m.length) (hv : v ≠ loadM m i) (hgo : ngoesB c m f = true)
    (hc : (f.2.1 = 1 ∧ i = 2 ∧ 0 ≤ v ∧ 0 ≤ loadM m 2 ∧ epB v = (IntKind.u64.wrap (epB (loadM m 2) + 1)).tmod 281474976710656) ∨ (f.2.1 = 2 ∧ v = 1 ∧ ∃ w : Nat, w < 8 ∧ i = parkC c w)) :
    g_poacherlaw15_NoteCells_L0 k c m f (k + 60) (storeM m i v) g.1 g.2.1 g.2.2.1 g.2.2.2.1 g.2.2.2.2.1 g.2.2.2.2.2.1 g.2.2.2.2.2.2 0 (-1) 0 = some true := by
  have hal : (storeM m i v).length = m.length := store_len
  obtain ⟨p, rfl⟩ : ∃ p : Nat, i = p := ⟨i.toNat, by omega⟩
  have hpl : p < m.length := by omega
  have hset : storeM m (p : Int) v = m.set p v := by unfold storeM; rw [if_pos (by omega)]; rfl
  have hne : ∀ x, x ≠ p → (storeM m (p : Int) v)[x]? = m[x]? := fun x hx => by rw [hset, List.getElem?_set_ne (fun e => hx e.symm)]
  have hat : (storeM m (p : Int) v)[p]? = some v := by rw [hset, List.getElem?_set_self hpl]
  have hmp : m[p]? = some (loadM m p) := (load_at hi).2
  obtain ⟨n, hn⟩ : ∃ n, k + 60 = ((n + 1) + (m.length - p - 1) + 1) + p := ⟨k + 60 - m.length - 1, by omega⟩
  have s1 := nc_skip k c (a := storeM m (p : Int) v) f hl hal g 0 (-1) p 0 ((n + 1) + (m.length - p - 1) + 1) (by omega) fun x _ hx => hne x (by omega)
  have e0 : ((0 : Nat) : Int) = 0 := rfl
  have s2 := nc_skip k c (a := storeM m (p : Int) v) f hl hal g 1 (p : Int) (m.length - p - 1) (p + 1) (n + 1) (by omega) fun x hx _ => hne x (by omega)
  have w1 : IntKind.i64.wrap (0 + 1) = 1 := by decide
  rw [e0] at s1
  rw [hn, s1, Nat.zero_add, g_poacherlaw15_NoteCells_L0, ltN hpl, cond_true, idx_of hat, ob_some, idx_of hmp, ob_some, bneI, decide_eq_false hv, Bool.not_false, cond_true, w1, wrapS (by omega), s2]
  have e1 : p + 1 + (m.length - p - 1) = m.length := by omega
  rw [e1, g_poacherlaw15_NoteCells_L0, lt_len, cond_false]
  simp only [Prod.eta]
  rw [c_NGoes, ob_some, hgo, Bool.not_true, cond_false]
  refine nc_park k c (m := m) (a := storeM m (p : Int) v) f 1 (p : Int) (fun b => f.2.1 = 2 → b = true) (fun n b hb => ?_) 8 0 (k + 60) false (by omega) (by omega) fun b' hb h2 => ?_
  · rw [g_poacherlaw15_NoteCells_L1, ltF (by decide), cond_false, beqI, decide_eq_false (by decide), cond_false, beqI, decide_eq_true rfl, cond_true, beqI]
    rcases hc with ⟨h1, h2, h3, h4, h5⟩ | ⟨h1, h2, _⟩
    · rw [decide_eq_true h1, cond_true, beqI, decide_eq_true h2, cond_true, idx_of hat, ob_some, c_Epoch h3, ob_some, idx_of hmp, ob_some, h2, c_Epoch h4, ob_some, beqI, decide_eq_true h5, cond_true]
    · rw [decide_eq_false (by omega), cond_false, beqI, decide_eq_true h1, cond_true, hb h1, cond_true, idx_of hat, ob_some, h2]
      rfl
  · rcases hc with ⟨h1, _⟩ | ⟨_, _, w, h3, h4⟩
    · omega
    · exact hb.2 (.inr ⟨w, by omega, h3, h4⟩)
theorem pure_NCells (k : Nat) (hk : 2000 ≤ k) (c : CF) {m : List Int} (hm : Wm m) (f : FR) (hf : Wf f) : g_poacherlaw15_NoteCells k c m f = some true := by
  rw [g_poacherlaw15_NoteCells]
  by_cases hl : (500 : Int) < m.length
  · rw [ltT hl]; rfl
  · rw [ltF (by omega), cond_false]
    simp only [Prod.eta]
    have hl' : m.length ≤ 1000 := by omega
    rw [c_NStep (by omega) c hm hl' hf, ob_some]
    have hr := load_rng hm 2
    have he := ep_rng hr.1 hr.2
    -- a store that may change nothing
    have one : ∀ (i v : Int) (g : FR), ngoesB c m f = true → ((f.2.1 = 1 ∧ i = 2 ∧ 0 ≤ v ∧ 0 ≤ loadM m 2 ∧ epB v = (IntKind.u64.wrap (epB (loadM m 2) + 1)).tmod 281474976710656) ∨ (f.2.1 = 2 ∧ v = 1 ∧ (0 ≤ i → ∃ w : Nat, w < 8 ∧ i = parkC c w))) →
        noteB c m f = (storeM m i v, g) → (bif ((noteB c m f).1.length : Int) != m.length then some false else g_poacherlaw15_NoteCells_L0 k c m f (k + 60) (noteB c m f).1 (noteB c m f).2.1 (noteB c m f).2.2.1 (noteB c m f).2.2.2.1 (noteB c m f).2.2.2.2.1 (noteB c m f).2.2.2.2.2.1 (noteB c m f).2.2.2.2.2.2.1 (noteB c m f).2.2.2.2.2.2.2 0 (-1) 0) = some true := by
      intro i v g hgo hc hst
      rw [hst, lenNe, decide_eq_true (show (storeM m i v).length = m.length from store_len), Bool.not_true, cond_false]
      simp only
      by_cases hi : 0 ≤ i ∧ i < m.length
      · by_cases hv : v = loadM m i
        · rw [hv, store_same]
          exact nc_same k hk c f g hl' fun h => by rw [hgo] at h; cases h
        · refine nc_one k hk c f g hl' i v hi hv hgo ?_
          rcases hc with h | ⟨h1, h2, h3⟩
          · exact .inl h
          · exact .inr ⟨h1, h2, h3 hi.1⟩
      · rw [store_out hi]
        exact nc_same k hk c f g hl' fun h => by rw [hgo] at h; cases h
    have same : ∀ g : FR, noteB c m f = (m, g) → (ngoesB c m f = false → g = f) → (bif ((noteB c m f).1.length : Int) != m.length then some false else g_poacherlaw15_NoteCells_L0 k c m f (k + 60) (noteB c m f).1 (noteB c m f).2.1 (noteB c m f).2.2.1 (noteB c m f).2.2.2.1 (noteB c m f).2.2.2.2.1 (noteB c m f).2.2.2.2.2.1 (noteB c m f).2.2.2.2.2.2.1 (noteB c m f).2.2.2.2.2.2.2 0 (-1) 0) = some true := by
      intro g hst hg
      rw [hst, lenNe, decide_eq_true rfl, Bool.not_true, cond_false]
      exact nc_same k hk c f g hl' hg
    have w8 : ∀ v : Int, 0 ≤ parkC c v → ∃ w : Nat, w < 8 ∧ parkC c v = parkC c w := by
      intro v hp
      by_cases h : mayC c = true ∧ 0 ≤ v ∧ v < c.1
      · have := mayC_of h.1
        exact ⟨v.toNat, by omega, by rw [show ((v.toNat : Nat) : Int) = v by omega]⟩
      · rw [parkC, if_neg h] at hp
        omega
    cases hgo : ngoesB c m f with
    | false =>
      exact same f (by unfold noteB; rw [hgo, if_pos rfl]) fun _ => rfl
    | true =>
      by_cases p0 : f.2.1 = 0
      · refine same _ (by unfold noteB; rw [hgo, if_neg (by simp), if_pos p0]) fun h => by rw [hgo] at h; cases h
      · by_cases p1 : f.2.1 = 1
        · by_cases hx : loadM m 2 = f.2.2.2.2.1
          · refine one 2 _ _ hgo (.inl ⟨p1, rfl, ?_, hr.1, ?_⟩) (by unfold noteB; rw [hgo, if_neg (by simp), if_neg p0, if_pos p1, if_pos hx])
            · split
              · exact (pack_rng _ _).1
              · exact (pack_rng _ _).1
            · rw [← hx, wrapU (by omega) (by omega), Int.tmod_eq_emod_of_nonneg (by omega)]
              split
              · unfold bumpB epB packB; omega
              · unfold wipeB epB packB; omega
          · refine same _ (by unfold noteB; rw [hgo, if_neg (by simp), if_neg p0, if_pos p1, if_neg hx]) fun h => by rw [hgo] at h; cases h
        · have h2 : f.2.1 = 2 := by
            have := hgo
            unfold ngoesB at this
            rw [Bool.and_eq_true, decide_eq_true_eq] at this
            omega
          by_cases h6 : f.1 = 6
          · exact one _ 1 _ hgo (.inr ⟨h2, rfl, w8 _⟩) (by unfold noteB wakeB; rw [hgo, if_neg (by simp), if_neg p0, if_neg p1, if_pos h6])
          · exact one _ 1 _ hgo (.inr ⟨h2, rfl, w8 _⟩) (by unfold noteB wakeB; rw [hgo, if_neg (by simp), if_neg p0, if_neg p1, if_neg h6])
theorem law_NCells (k : Nat) (hk : 9223372036854779900 < k) (c : CF) (hc : confOk c) (m : List Int) (hm : Wm m) (f : FR) (hf : frameOk f) : xC k none 9 [.agg (confV c), .ro (m.map (intR .u64)), .agg (frameV f)] = some (.lit (.bool true), []) := by
  obtain ⟨j, rfl⟩ : ∃ j, k = j + 61 := ⟨k - 61, by omega⟩
  have h := pure_NCells j (by omega) c hm f ⟨u64_of hf.2.2.2.1, u64_of hf.2.2.2.2.1, u64_of hf.2.2.2.2.2.1⟩
  obtain ⟨W, D, I, S⟩ := c
  obtain ⟨a0, a1, a2, a3, a4, a5, a6⟩ := f
  rw [confV, frameV, h_poacherlaw15_NoteCells, h]
  rfl
end Go.Ab
