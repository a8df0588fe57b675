/- ForestUnder: the law's word. -/
import Derived.Test.YtecgfaaaloameaaR1GL18
import Derived.Test.YtecgfaaaloameaaR1PUndF
import Derived.Test.YtecgfaaaloameaaR1PWf
set_option linter.unusedVariables false
namespace Go.Ab
theorem under_look (k : Nat) (t : List (Int × List Int)) (v1 p : Int) (U : List Int) (m : Nat) (hm : m ≤ U.length) (hU : U.length ≤ 1000) : ∀ (d i n : Nat) (b : Bool), i + d = m → d < n → (b = true ∨ ∃ j, i ≤ j ∧ j < m ∧ U[j]? = some p) →
    g_poacherlaw04_ForestUnder_L1 k t v1 (m : Int) n U p b (i : Int) = some true
  | 0, i, n, b, hi, hn, h => by
    obtain ⟨n, rfl⟩ := fuel hn
    rw [g_poacherlaw04_ForestUnder_L1, ltF (by omega), cond_false]
    rcases h with h | ⟨j, h1, h2, _⟩
    · rw [h]
    · omega
  | d + 1, i, n, b, hi, hn, h => by
    obtain ⟨n, rfl⟩ := fuel hn
    rw [g_poacherlaw04_ForestUnder_L1, ltN (by omega), cond_true, wrapS (by omega)]
    cases b with
    | true => rw [cond_true]; exact under_look k t v1 p U m hm hU d (i + 1) n true (by omega) (by omega) (.inl rfl)
    | false =>
      have hb : U[i]? = some U[i] := List.getElem?_eq_getElem (by omega)
      rw [cond_false, idx_of hb, ob_some, beqI]
      refine under_look k t v1 p U m hm hU d (i + 1) n _ (by omega) (by omega) ?_
      rcases h with h | ⟨j, h1, h2, h3⟩
      · cases h
      · by_cases e : i = j
        · subst e
          rw [hb] at h3
          exact .inl (by simpa using h3)
        · exact .inr ⟨j, by omega, h2, h3⟩
theorem pure_FUnder (k : Nat) (hk : 9223372036854776200 ≤ k) (t : List (Int × List Int)) (ht : Wt t) (q z : Int) : g_poacherlaw04_ForestUnder k t q z = some true := by
  rw [g_poacherlaw04_ForestUnder, c_Few _ (by omega) t ht, ob_some]
  cases fewB t with
  | false => rfl
  | true =>
    rw [Bool.not_true, cond_false, c_May _ (by omega) t ht, ob_some]
    cases hb : mayB t with
    | false => rfl
    | true =>
      rw [Bool.not_true, cond_false]
      by_cases h0 : q < 0
      · rw [ltT h0]; rfl
      · rw [ltF (by omega), cond_false]
        by_cases h1 : (t.length : Int) ≤ q
        · rw [leT h1]; rfl
        · rw [leF (by omega), cond_false, c_Under _ (by omega) t ht, ob_some]
          have hm := may_of hb
          have h0' : 0 ≤ q := by omega
          have h1' : q < t.length := by omega
          have hA : underA t q = underB t q := by rw [underA, if_pos ⟨hb, h0', h1'⟩]
          have hu := under_len hb h0' h1'
          have e2 : room 1 8 = true := rfl
          rw [hA, e2, cond_true]
          obtain ⟨w, hw, hwm⟩ := idx_kids h0' h1'
          have hkl : (kidsOf t q).length ≤ 9223372036854775807 := ht.kids (w, kidsOf t q) hwm
          have hunf := under_unf hm h0' h1'
          have fin : ∀ n, g_poacherlaw04_ForestUnder_L0 k t q z (n + 1) (underB t q) (underB t q).length ((kidsOf t q).length : Int) (underB t q) = some true := by
            intro n
            rw [g_poacherlaw04_ForestUnder_L0, hw, ob_some, lt_len, cond_false, decide_eq_true (Nat.le_refl _), ck_true, List.take_length, c_Ints _ (by omega) _ _ (by omega), ob_some, decide_eq_true rfl, Bool.not_true, cond_false]
            by_cases hz : z < 1
            · rw [ltT hz]; rfl
            · rw [ltF (by omega), cond_false]
              by_cases hz2 : ((underB t q).length : Int) ≤ z
              · rw [leT hz2]; rfl
              · obtain ⟨m, rfl⟩ : ∃ m : Nat, z = m := ⟨z.toNat, by omega⟩
                have hml : m < (underB t q).length := by omega
                have hg : (underB t q)[m]? = some (underB t q)[m] := List.getElem?_eq_getElem hml
                rw [leF (by omega), cond_false, idx_of hg, ob_some, c_Parent _ (by omega) t ht, ob_some]
                have hsp : underB t q = (underB t q).take m ++ (underB t q)[m] :: (underB t q).drop (m + 1) := by
                  rw [← List.drop_eq_getElem_cons hml, List.take_append_drop]
                have hmem := under_par hb h0' h1' _ _ _ hsp (by
                  intro hn
                  have := congrArg List.length hn
                  rw [List.length_take, List.length_nil] at this
                  omega)
                obtain ⟨j, hj, hje⟩ := List.getElem_of_mem hmem
                simp at hj
                rw [List.getElem_take] at hje
                have := under_look k t q (parentB t (underB t q)[m]) (underB t q) m (by omega) (by omega) m 0 (k + 60) false (by omega) (by omega) (.inr ⟨j, by omega, by omega, by rw [List.getElem?_eq_getElem (by omega), hje]⟩)
                simpa using this
          have key : ∀ (ks : List Int) (i n : Nat) (l : List Int), (kidsOf t q).drop i = ks → i ≤ (kidsOf t q).length → ks.length < n → l ++ ks.flatMap (underB t) = underB t q →
              g_poacherlaw04_ForestUnder_L0 k t q z n (underB t q) l.length (i : Int) l = some true := by
            intro ks
            induction ks with
            | nil =>
              intro i n l hi hil hn hl
              obtain ⟨n, rfl⟩ := fuel hn
              have : i = (kidsOf t q).length := by have := drop_nil hi; omega
              subst this
              simp at hl
              subst hl
              exact fin n
            | cons x ks ih =>
              intro i n l hi hil hn hl
              obtain ⟨n, rfl⟩ := fuel hn
              obtain ⟨a, b, c, m, f⟩ := drop_cons hi
              have hx := kid_rng hm h0' m
              have hAx : underA t x = underB t x := by rw [underA, if_pos ⟨hb, by omega, hx.2⟩]
              have hll := congrArg List.length hl
              rw [List.flatMap_cons] at hl
              simp only [List.flatMap_cons, List.length_append] at hll
              rw [g_poacherlaw04_ForestUnder_L0, hw, ob_some, ltN a, cond_true, ob_some, idx_of b, ob_some, c_Under _ (by omega) t ht, ob_some, hAx, decide_eq_true (Nat.le_refl _), ck_true, List.take_length, roomT (by simp only [List.length_append]; omega), cond_true, wrapS (by omega),
                ih (i + 1) n (l ++ underB t x) c (by omega) (by simp only [List.length_cons] at hn; omega) (by rw [List.append_assoc]; exact hl)]
          have := key (kidsOf t q) 0 (k + 60) [q] rfl (Nat.zero_le _) (by omega) (by rw [hunf]; rfl)
          simpa using this
theorem law_FUnder (k : Nat) (hk : 9223372036854779900 < k) (t : List (Int × List Int)) (ht : Wt t) (q : Int) (hq : i64 q) (z : Int) (hz : i64 z) : xC k none 18 [tasksV t, .lit (.int .i64 q), .lit (.int .i64 z)] = some (.lit (.bool true), []) := by
  obtain ⟨j, rfl⟩ : ∃ j, k = j + 61 := ⟨k - 61, by omega⟩
  rw [tasksV, h_poacherlaw04_ForestUnder, pure_FUnder j (by omega) t ht q z]
  rfl
end Go.Ab
