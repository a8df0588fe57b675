/- What is under a task, as it is walked. -/
import Derived.Test.YtecgfaaaloameaaR1GU
import Derived.Test.YtecgfaaaloameaaR1PFor
import Derived.Test.YtecgfaaaloameaaR1PUnd
set_option linter.unusedVariables false
namespace Go.Ab
theorem idx_kids {t : List (Int × List Int)} {r : Int} (h0 : 0 ≤ r) (h1 : r < t.length) : ∃ w, idx t r = some (w, kidsOf t r) ∧ (w, kidsOf t r) ∈ t := by
  have h : r.toNat < t.length := by omega
  refine ⟨t[r.toNat].1, ?_, ?_⟩
  · rw [idx, if_pos h0, List.getElem?_eq_getElem h, kidsOf, List.getElem?_eq_getElem h]
    rfl
  · rw [kidsOf, List.getElem?_eq_getElem h]
    exact List.getElem_mem h
theorem c_down (t : List (Int × List Int)) (ht : Wt t) (hb : mayB t = true) : ∀ (d : Nat) (r : Int), 0 ≤ r → r < t.length → (t.length : Int) - r ≤ d →
    ∀ (k e g : Nat) (l : List Int), 9223372036854775808 + 4 * d ≤ k → e ≤ 1 → l.length + (underB t r).length ≤ 1000000 → ∃ g', downF k t r e g l = some (true, 1, l ++ underB t r, g')
  | 0, r, _, _, _ => by omega
  | d + 1, r, h0, h1, h2 => by
    intro k e g l hk he hl
    have hm := may_of hb
    obtain ⟨k, rfl⟩ : ∃ j, k = j + 4 := ⟨k - 4, by omega⟩
    rw [downF, down_step]
    rw [under_unf hm h0 h1] at hl ⊢
    simp only [List.length_cons] at hl
    have e1 : (e == 1 || e == 0) = true := by
      have : e = 0 ∨ e = 1 := by omega
      rcases this with rfl | rfl <;> rfl
    have e2 : room (l ++ [r]).length 8 = true := roomT (by simp; omega)
    obtain ⟨w, hw, hwm⟩ := idx_kids h0 h1
    have hkl : (kidsOf t r).length ≤ 9223372036854775807 := ht.kids (w, kidsOf t r) hwm
    rw [e1, ck_true, e2, cond_true, hw, ob_some]
    have key : ∀ (ks : List Int) (i n : Nat) (l : List Int) (g : Nat), (kidsOf t r).drop i = ks → i ≤ (kidsOf t r).length → ks.length < n → l.length + (ks.flatMap (underB t)).length ≤ 1000000 →
        ∃ g', e_forest_under_1_1_E0_L0 (downF k) k n (kidsOf t r) ((kidsOf t r).length : Int) t l g (i : Int) 1 = some (-1, 1, l ++ ks.flatMap (underB t), g') := by
      intro ks
      induction ks with
      | nil =>
        intro i n l g hi hil hn hl
        obtain ⟨n, rfl⟩ := fuel hn
        have : i = (kidsOf t r).length := by have := drop_nil hi; omega
        subst this
        rw [e_forest_under_1_1_E0_L0, lt_len, cond_false]
        exact ⟨g, by simp⟩
      | cons q ks ih =>
        intro i n l g hi hil hn hl
        obtain ⟨n, rfl⟩ := fuel hn
        obtain ⟨a, b, c, m, f⟩ := drop_cons hi
        have hq := kid_rng hm h0 m
        rw [List.flatMap_cons, List.length_append] at hl
        obtain ⟨g1, hg1⟩ := c_down t ht hb d q (by omega) hq.2 (by omega) k 1 g l (by omega) (by omega) (by omega)
        rw [e_forest_under_1_1_E0_L0, ltN a, cond_true, idx_of b, ob_some, hg1, ob_some]
        simp only [Bool.not_true, cond_false]
        rw [wrapS (by omega)]
        obtain ⟨g2, hg2⟩ := ih (i + 1) n (l ++ underB t q) g1 c (by omega) (by simp only [List.length_cons] at hn; omega) (by simp only [List.length_append]; omega)
        exact ⟨g2, by rw [hg2, List.flatMap_cons, List.append_assoc]⟩
    obtain ⟨g2, hg2⟩ := key (kidsOf t r) 0 (k + 1) (l ++ [r]) (g + 1) rfl (Nat.zero_le _) (by omega) (by simp; simp at hl; omega)
    refine ⟨g2, ?_⟩
    have h0' : ((0 : Nat) : Int) = 0 := rfl
    rw [h0'] at hg2
    rw [hg2, ob_some]
    simp
theorem c_und (t : List (Int × List Int)) (ht : Wt t) (hb : mayB t = true) : ∀ (d : Nat) (r : Int), 0 ≤ r → r < t.length → (t.length : Int) - r ≤ d →
    ∀ (k : Nat), 9223372036854775808 + d ≤ k → undF k t r = some (underB t r)
  | 0, r, _, _, _ => by omega
  | d + 1, r, h0, h1, h2 => by
    intro k hk
    have hm := may_of hb
    obtain ⟨k, rfl⟩ : ∃ j, k = j + 1 := ⟨k - 1, by omega⟩
    rw [undF, und_step]
    have hl := under_len hb h0 h1
    rw [under_unf hm h0 h1] at hl ⊢
    simp only [List.length_cons] at hl
    obtain ⟨w, hw, hwm⟩ := idx_kids h0 h1
    have hkl : (kidsOf t r).length ≤ 9223372036854775807 := ht.kids (w, kidsOf t r) hwm
    have key : ∀ (ks : List Int) (i n : Nat) (l : List Int), (kidsOf t r).drop i = ks → i ≤ (kidsOf t r).length → ks.length < n → l.length + (ks.flatMap (underB t)).length ≤ 1000000 →
        und_step_L0 (undF k) k t r n l.length (i : Int) l = some (l ++ ks.flatMap (underB t)) := by
      intro ks
      induction ks with
      | nil =>
        intro i n l hi hil hn hl
        obtain ⟨n, rfl⟩ := fuel hn
        have : i = (kidsOf t r).length := by have := drop_nil hi; omega
        subst this
        rw [und_step_L0, hw, ob_some, lt_len, cond_false, decide_eq_true (Nat.le_refl _), ck_true, List.take_length]
        simp
      | cons q ks ih =>
        intro i n l hi hil hn hl
        obtain ⟨n, rfl⟩ := fuel hn
        obtain ⟨a, b, c, m, f⟩ := drop_cons hi
        have hq := kid_rng hm h0 m
        rw [List.flatMap_cons, List.length_append] at hl
        rw [und_step_L0, hw, ob_some, ltN a, cond_true, ob_some, idx_of b, ob_some, c_und t ht hb d q (by omega) hq.2 (by omega) k (by omega), ob_some, decide_eq_true (Nat.le_refl _), ck_true, List.take_length, roomT (by simp only [List.length_append]; omega), cond_true, wrapS (by omega),
          ih (i + 1) n (l ++ underB t q) c (by omega) (by simp only [List.length_cons] at hn; omega) (by simp only [List.length_append]; omega), List.flatMap_cons, List.append_assoc]
    have := key (kidsOf t r) 0 k [r] rfl (Nat.zero_le _) (by omega) (by simp; simp at hl; omega)
    simpa using this
section
variable (k : Nat) (hk : 9223372036854776000 ≤ k)
include hk
theorem c_Under (t : List (Int × List Int)) (ht : Wt t) (q : Int) : g_forest_Under k t q = some (underA t q) := by
  rw [g_forest_Under, c_May k (by omega) t ht, ob_some]
  unfold underA
  cases hb : mayB t with
  | false => simp
  | true =>
    rw [Bool.not_true, cond_false]
    by_cases h0 : q < 0
    · rw [ltT h0, cond_true, if_neg (by omega)]
    · rw [ltF (by omega), cond_false]
      by_cases h1 : q < t.length
      · have h30 := (may_of hb).len
        have := under_len hb (show 0 ≤ q by omega) h1
        rw [leF (by omega), cond_false, if_pos ⟨rfl, by omega, h1⟩]
        obtain ⟨g', hg⟩ := c_down t ht hb 30 q (by omega) h1 (by omega) (k + 16) 0 0 [] (by omega) (by omega) (by simp; omega)
        rw [hg]
        rfl
      · rw [leT (by omega), cond_true, if_neg (by omega)]
theorem c_RUnder (t : List (Int × List Int)) (ht : Wt t) (q : Int) : g_poacherref04_Under k t q = some (underA t q) := by
  rw [g_poacherref04_Under, c_RMay k (by omega) t ht, ob_some]
  unfold underA
  cases hb : mayB t with
  | false => simp
  | true =>
    rw [Bool.not_true, cond_false]
    by_cases h0 : q < 0
    · rw [ltT h0, cond_true, if_neg (by omega)]
    · rw [ltF (by omega), cond_false]
      by_cases h1 : q < t.length
      · have h30 := (may_of hb).len
        rw [leF (by omega), cond_false, if_pos ⟨rfl, by omega, h1⟩, c_und t ht hb 30 q (by omega) h1 (by omega) (k + 1) (by omega)]
        rfl
      · rw [leT (by omega), cond_true, if_neg (by omega)]
end
theorem underA_len {t : List (Int × List Int)} {q : Int} : (underA t q).length ≤ 30 := by
  unfold underA
  split
  · rename_i h; exact under_len h.1 h.2.1 h.2.2
  · simp
end Go.Ab
