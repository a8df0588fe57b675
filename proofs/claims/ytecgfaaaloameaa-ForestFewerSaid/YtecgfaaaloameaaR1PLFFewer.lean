/- ForestFewer: the law's word. -/
import Derived.Test.YtecgfaaaloameaaR1GL19
import Derived.Test.YtecgfaaaloameaaR1PFor
import Derived.Test.YtecgfaaaloameaaR1PMore
import Derived.Test.YtecgfaaaloameaaR1PWf
set_option linter.unusedVariables false
namespace Go.Ab
theorem fewer_in (k : Nat) (t : List (Int × List Int)) (h0 : 0 < t.length) (h30 : t.length ≤ 30) (o : List (Int × List Int) → Int → Nat → Option Bool) (w : Int) (ks : List Int) (i e1 : Nat) (L : List (Int × List Int)) (ht : t[i]? = some (w, ks)) (hks : ks.length ≤ 1000) (hL : L.length ≤ 1000) (he : e1 = 2 ∨ e1 = 0) :
    ∀ (r : List Int) (j n e2 : Nat) (acc : List Int), ks.drop j = r → j ≤ ks.length → r.length < n → e2 ≤ 1 → acc.length ≤ j →
    g_poacherlaw04_ForestFewer_L1 k t o n w (j : Int) acc L (i : Int) e1 e2 = o (L ++ [(w, acc ++ r.filter fun q => q != ((t.length : Int) - 1))]) ((i + 1 : Nat) : Int) 2
  | [], j, n, e2, acc, hr, hj, hn, he2, ha => by
    obtain ⟨n, rfl⟩ := fuel hn
    have : j = ks.length := by have := drop_nil hr; omega
    subst this
    have hi := (List.getElem?_eq_some_iff.1 ht).1
    have h1 : (e1 == 2 || e1 == 0) = true := by rcases he with rfl | rfl <;> rfl
    rw [g_poacherlaw04_ForestFewer_L1, idx_of ht, ob_some, lt_len, cond_false, h1, ck_true, roomT (by simp; omega), cond_true, wrapS (by omega)]
    simp
  | q :: r, j, n, e2, acc, hr, hj, hn, he2, ha => by
    obtain ⟨n, rfl⟩ := fuel hn
    obtain ⟨a, b, c, d, e⟩ := drop_cons hr
    have h1 : (e2 == 1 || e2 == 0) = true := by
      have : e2 = 0 ∨ e2 = 1 := by omega
      rcases this with rfl | rfl <;> rfl
    rw [g_poacherlaw04_ForestFewer_L1, idx_of ht, ob_some, ltN a, cond_true, ob_some, idx_of b, ob_some, wrapI (z := (t.length : Int) - 1) (by omega), bneI, wrapS (by omega)]
    by_cases h : q = (t.length : Int) - 1
    · rw [decide_eq_true h, Bool.not_true, cond_false, fewer_in k t h0 h30 o w ks i e1 L ht hks hL he r (j + 1) n e2 acc c (by omega) (by simp only [List.length_cons] at hn; omega) he2 (by omega)]
      simp [h]
    · rw [decide_eq_false h, Bool.not_false, cond_true, ob_some, idx_of b, ob_some, h1, ck_true, roomT (by simp; omega), cond_true, fewer_in k t h0 h30 o w ks i e1 L ht hks hL he r (j + 1) n 1 (acc ++ [q]) c (by omega) (by simp only [List.length_cons] at hn; omega) (by omega) (by simp; omega)]
      simp [h]
theorem few_wt' {t : List (Int × List Int)} (h : fewB t = true) : t.length ≤ 40 ∧ ∀ x ∈ t, x.2.length ≤ 40 := by
  unfold fewB at h
  rw [Bool.and_eq_true, decide_eq_true_eq] at h
  obtain ⟨h1, h2⟩ := h
  refine ⟨h2, fun x hx => ?_⟩
  rw [List.take_of_length_le (by omega), List.all_eq_true] at h1
  simpa using h1 x hx
theorem pure_FFewer (k : Nat) (hk : 9223372036854776200 ≤ k) (t : List (Int × List Int)) (ht : Wt t) : g_poacherlaw04_ForestFewer k t = some true := by
  rw [g_poacherlaw04_ForestFewer, c_Few _ (by omega) t ht, ob_some]
  cases hf : fewB t with
  | false => rfl
  | true =>
    obtain ⟨h40, hk40⟩ := few_wt' hf
    rw [Bool.not_true, cond_false, c_May _ (by omega) t ht, ob_some]
    cases hb : mayB t with
    | false => rfl
    | true =>
      have hm := may_of hb
      have h30 := hm.len
      rw [Bool.not_true, cond_false, beqI]
      by_cases hz : (t.length : Int) = 0
      · rw [decide_eq_true hz]; rfl
      · have h0 : 0 < t.length := by omega
        rw [decide_eq_false hz, cond_false]
        let F : Int × List Int → Int × List Int := fun x => (x.1, x.2.filter fun k => k != ((t.length : Int) - 1))
        have wtf : Wt (fewer t) := by
          refine ⟨by simp [fewer]; omega, fun x hx => ?_⟩
          obtain ⟨y, hy, rfl⟩ := List.mem_map.1 hx
          have := hk40 y ((List.dropLast_sublist t).subset hy)
          have h2 := List.length_filter_le (fun k => k != ((t.length : Int) - 1)) y.2
          simp only
          omega
        have hmf := of_may (fewer_may hm h0)
        have hfl : (fewer t).length = t.length - 1 := by simp [fewer]
        have fin : ∀ n e, g_poacherlaw04_ForestFewer_L0 k t (n + 1) (fewer t) ((t.length - 1 : Nat) : Int) e = some true := by
          intro n e
          have hw : IntKind.i64.wrap ((t.length : Int) - 1) = ((t.length - 1 : Nat) : Int) := by rw [wrapI (by omega)]; omega
          have hg : t[t.length - 1]? = some t[t.length - 1] := List.getElem?_eq_getElem (by omega)
          rw [g_poacherlaw04_ForestFewer_L0, hw, ltF (Int.le_refl _), cond_false, c_Sums _ (by omega) t ht, ob_some, c_Sums _ (by omega) _ wtf, ob_some, c_May _ (by omega) _ wtf, ob_some, hmf, cond_true, if_pos hb, if_pos rfl, hfl]
          simp only []
          have hs := fewer_sum h0
          have hb1 : ∀ l : List (Int × List Int), (∀ x ∈ l, 0 ≤ x.1 ∧ x.1 ≤ 20) → 0 ≤ (l.map (·.1)).sum ∧ (l.map (·.1)).sum ≤ 20 * (l.length : Int) := by
            intro l
            induction l with
            | nil => intro _; simp
            | cons x l ih =>
              intro h
              have := h x (by simp)
              have := ih fun y hy => h y (by simp [hy])
              rw [List.map_cons, List.sum_cons, List.length_cons]
              omega
          have hb2 := hb1 _ (fewer_may hm h0).work
          have hb3 := hm.work t[t.length - 1] (List.getElem_mem _)
          rw [wrapI (by omega), beqI, decide_eq_true (by omega), cond_true, idx_of hg, ob_some, wrapI (by omega), hs, beq_self_eq_true]
        have outer : ∀ d i n e, i + d = t.length - 1 → d < n → e = 2 ∨ e = 0 → g_poacherlaw04_ForestFewer_L0 k t n ((t.take i).map F) (i : Int) e = some true := by
          intro d
          induction d with
          | zero =>
            intro i n e hi hn he
            obtain ⟨n, rfl⟩ := fuel hn
            have hi' : i = t.length - 1 := by omega
            have hT : (t.take i).map F = fewer t := by rw [hi', ← List.dropLast_eq_take]; rfl
            rw [hT, hi']
            exact fin n e
          | succ d ih =>
            intro i n e hi hn he
            obtain ⟨n, rfl⟩ := fuel hn
            have hw : IntKind.i64.wrap ((t.length : Int) - 1) = ((t.length - 1 : Nat) : Int) := by rw [wrapI (by omega)]; omega
            have hil : i < t.length := by omega
            have hg : t[i]? = some t[i] := List.getElem?_eq_getElem hil
            have hkk := hk40 t[i] (List.getElem_mem hil)
            rw [g_poacherlaw04_ForestFewer_L0, hw, ltN (by omega), cond_true, idx_of hg, ob_some]
            have h00 : (0 : Int) = ((0 : Nat) : Int) := rfl
            rw [h00, fewer_in k t h0 h30 _ t[i].1 t[i].2 i e _ hg (by omega) (by simp; omega) he t[i].2 0 (k + 60) 0 [] rfl (by omega) (by omega) (by omega) (by simp)]
            have hS : (t.take i).map F ++ [(t[i].1, [] ++ t[i].2.filter fun q => q != ((t.length : Int) - 1))] = (t.take (i + 1)).map F := by
              rw [List.take_add_one, hg, List.map_append]
              rfl
            rw [hS]
            exact ih (i + 1) n 2 (by omega) (by omega) (.inl rfl)
        exact outer (t.length - 1) 0 (k + 60) 0 (by omega) (by omega) (.inr rfl)
theorem law_FFewer (k : Nat) (hk : 9223372036854779900 < k) (t : List (Int × List Int)) (ht : Wt t) : xC k none 19 [tasksV t] = some (.lit (.bool true), []) := by
  obtain ⟨j, rfl⟩ : ∃ j, k = j + 61 := ⟨k - 61, by omega⟩
  rw [tasksV, h_poacherlaw04_ForestFewer, pure_FFewer j (by omega) t ht]
  rfl
end Go.Ab
