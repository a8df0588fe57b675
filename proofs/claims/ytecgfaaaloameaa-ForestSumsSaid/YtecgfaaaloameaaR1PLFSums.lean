/- ForestSums: the law's word. -/
import Derived.Test.YtecgfaaaloameaaR1GL22
import Derived.Test.YtecgfaaaloameaaR1PUndF
import Derived.Test.YtecgfaaaloameaaR1PWf
set_option linter.unusedVariables false
namespace Go.Ab
def wkOf (t : List (Int × List Int)) (q : Int) : Int := ((t[q.toNat]?).getD (0, [])).1
theorem wk_rng {t : List (Int × List Int)} (hm : May t) (q : Int) : 0 ≤ wkOf t q ∧ wkOf t q ≤ 20 := by
  unfold wkOf
  cases h : t[q.toNat]? with
  | none => simp
  | some x => exact hm.work x (List.mem_of_getElem? h)
theorem wk_all {t : List (Int × List Int)} : (t.map (·.1)).sum = wsum t.length fun i => wkOf t i := by
  unfold wsum
  congr 1
  apply List.ext_getElem
  · simp
  · intro i h1 h2
    simp at h1
    simp [wkOf, h1]
theorem wk_sum {t : List (Int × List Int)} (hm : May t) (l : List Int) : 0 ≤ (l.map (wkOf t)).sum := by
  induction l with
  | nil => simp
  | cons x l ih => rw [List.map_cons, List.sum_cons]; have := wk_rng hm x; omega
theorem sums_in (k : Nat) (t : List (Int × List Int)) (hm : May t) (o : Int → Int → List Int → Int → Int → Int → Option Bool) (l s9 : List Int) (s7 s8 s45 s46 : Int) (hl : l.length ≤ 1000) (hr : ∀ x ∈ l, 0 ≤ x ∧ x < t.length) : ∀ r (i n : Nat) (A : Int), l.drop i = r → i ≤ l.length → r.length < n → 0 ≤ A → A + (r.map (wkOf t)).sum ≤ 1000 →
    g_poacherlaw04_ForestSums_L1 k t o n s7 s8 s9 s45 l A (i : Int) s46 = o s7 s8 s9 s45 (IntKind.i64.wrap (s46 + 1)) (A + (r.map (wkOf t)).sum)
  | [], i, n, A, hd, hi, hn, h0, h1 => by
    obtain ⟨n, rfl⟩ := fuel hn
    have : i = l.length := by have := drop_nil hd; omega
    subst this
    rw [g_poacherlaw04_ForestSums_L1, lt_len, cond_false]
    simp
  | x :: r, i, n, A, hd, hi, hn, h0, h1 => by
    obtain ⟨n, rfl⟩ := fuel hn
    obtain ⟨a, b, c, d, e⟩ := drop_cons hd
    have hx := hr x d
    have hw := wk_rng hm x
    have hs := wk_sum hm r
    rw [List.map_cons, List.sum_cons] at h1 ⊢
    have hxt : idx t x = some (wkOf t x, ((t[x.toNat]?).getD (0, [])).2) := by
      rw [idx, if_pos hx.1, wkOf, List.getElem?_eq_getElem (by omega)]
      rfl
    rw [g_poacherlaw04_ForestSums_L1, ltN a, cond_true, idx_of b, ob_some, ltF hx.1, cond_false, ob_some, leF hx.2, cond_false, ob_some, hxt, ob_some, wrapS (by omega), wrapI (by omega)]
    simp only []
    rw [sums_in k t hm o l s9 s7 s8 s45 s46 hl hr r (i + 1) n _ c (by omega) (by simp only [List.length_cons] at hn; omega) (by omega) (by omega), Int.add_assoc]
theorem pure_FSums (k : Nat) (hk : 9223372036854776200 ≤ k) (t : List (Int × List Int)) (ht : Wt t) : g_poacherlaw04_ForestSums k t = some true := by
  rw [g_poacherlaw04_ForestSums, c_Few _ (by omega) t ht, ob_some]
  cases fewB t with
  | false => rfl
  | true =>
    rw [Bool.not_true, cond_false, c_Sums _ (by omega) t ht, ob_some, c_May _ (by omega) t ht, ob_some]
    cases hb : mayB t with
    | false => rfl
    | true =>
      rw [Bool.not_true, cond_false, c_Roots _ (by omega) t ht, ob_some, if_pos rfl]
      have hm := may_of hb
      have h30 := hm.len
      have hrl : (rootsB t).length ≤ 30 := by
        unfold rootsB
        rw [if_pos hb]
        have := rootsAt_len t t.length 0
        omega
      have htot : (t.map (·.1)).sum ≤ 600 := by
        rw [wk_all]
        have : wsum t.length (fun i => wkOf t i) ≤ 20 * wsum t.length (fun _ => 1) := by
          have h2 : ∀ n, wsum n (fun i => wkOf t i) ≤ 20 * wsum n (fun _ => 1) := by
            intro n
            induction n with
            | zero => exact Int.le_refl _
            | succ n ih => rw [wsum_succ, wsum_succ]; have := wk_rng hm (n : Int); omega
          exact h2 _
        rw [wsum_one] at this
        omega
      have outer : ∀ r (i n S : Nat) (A : Int), (rootsB t).drop i = r → i ≤ (rootsB t).length → r.length < n → S + (r.flatMap (underB t)).length = t.length → 0 ≤ A → A + ((r.flatMap (underB t)).map (wkOf t)).sum = (t.map (·.1)).sum →
          g_poacherlaw04_ForestSums_L0 k t n (t.length : Int) (t.map (·.1)).sum (rootsB t) (S : Int) (i : Int) A = some true := by
        intro r
        induction r with
        | nil =>
          intro i n S A hr hi hn hS h0 hA
          obtain ⟨n, rfl⟩ := fuel hn
          have : i = (rootsB t).length := by have := drop_nil hr; omega
          subst this
          simp at hS hA
          rw [g_poacherlaw04_ForestSums_L0, lt_len, cond_false, hS, hA]
          simp
        | cons x r ih =>
          intro i n S A hr hi hn hS h0 hA
          obtain ⟨n, rfl⟩ := fuel hn
          obtain ⟨a, b, c, d, e⟩ := drop_cons hr
          have hx := (mem_roots hb).1 d
          have hu := under_len hb hx.1 hx.2.1
          have hAe : underA t x = underB t x := by rw [underA, if_pos ⟨hb, hx.1, hx.2.1⟩]
          rw [List.flatMap_cons, List.length_append] at hS
          rw [List.flatMap_cons, List.map_append, List.sum_append] at hA
          have hs1 := wk_sum hm (underB t x)
          have hs2 := wk_sum hm (r.flatMap (underB t))
          rw [g_poacherlaw04_ForestSums_L0, ltN a, cond_true, idx_of b, ob_some, c_Under _ (by omega) t ht, ob_some, hAe]
          have h00 : (0 : Int) = ((0 : Nat) : Int) := rfl
          rw [h00, sums_in k t hm _ (underB t x) (rootsB t) _ _ _ (i : Int) (by omega) (fun y hy => by have := under_rng hm hx.1 hx.2.1 y hy; omega) (underB t x) 0 (k + 60) A rfl (by omega) (by omega) h0 (by omega)]
          rw [wrapS (by omega), wrapI (by omega)]
          have := ih (i + 1) n (S + (underB t x).length) (A + ((underB t x).map (wkOf t)).sum) c (by omega) (by simp only [List.length_cons] at hn; omega) (by omega) (by omega) (by omega)
          rw [Int.natCast_add] at this
          exact this
      have := outer (rootsB t) 0 (k + 60) 0 0 rfl (Nat.zero_le _) (by omega) (by have := allB_len hb; unfold allB at this; omega) (by omega) (by have := all_sum hb (wkOf t); unfold allB at this; rw [this, wk_all]; omega)
      exact this
theorem law_FSums (k : Nat) (hk : 9223372036854779900 < k) (t : List (Int × List Int)) (ht : Wt t) : xC k none 22 [tasksV t] = some (.lit (.bool true), []) := by
  obtain ⟨j, rfl⟩ : ∃ j, k = j + 61 := ⟨k - 61, by omega⟩
  rw [tasksV, h_poacherlaw04_ForestSums, pure_FSums j (by omega) t ht]
  rfl
end Go.Ab
