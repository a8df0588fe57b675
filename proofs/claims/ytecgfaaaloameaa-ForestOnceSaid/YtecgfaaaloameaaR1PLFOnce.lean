/- ForestOnce: the law's word. -/
import Derived.Test.YtecgfaaaloameaaR1GL17
import Derived.Test.YtecgfaaaloameaaR1PUndF
import Derived.Test.YtecgfaaaloameaaR1PWf
set_option linter.unusedVariables false
namespace Go.Ab
theorem once_in (k : Nat) (t : List (Int × List Int)) (q : Int) (o : List Int → Int → Int → Int → Option Bool) (l s6 : List Int) (s37 s48 : Int) (hl : l.length ≤ 1000) : ∀ r (i n c : Nat), l.drop i = r → i ≤ l.length → r.length < n → c ≤ 1000 + i →
    g_poacherlaw04_ForestOnce_L1 k t q o n s6 s37 l (c : Int) (i : Int) s48 = o s6 s37 (IntKind.i64.wrap (s48 + 1)) ((c + r.count q : Nat) : Int)
  | [], i, n, c, hr, hi, hn, hc => by
    obtain ⟨n, rfl⟩ := fuel hn
    have : i = l.length := by have := drop_nil hr; omega
    subst this
    rw [g_poacherlaw04_ForestOnce_L1, lt_len, cond_false]
    simp
  | x :: r, i, n, c, hr, hi, hn, hc => by
    obtain ⟨n, rfl⟩ := fuel hn
    obtain ⟨a, b, c', d, e⟩ := drop_cons hr
    rw [g_poacherlaw04_ForestOnce_L1, ltN a, cond_true, idx_of b, ob_some, beqI, List.count_cons]
    have hb : (x == q) = decide (x = q) := beqI x q
    rw [hb, wrapS (i := i) (by omega)]
    by_cases h : x = q
    · rw [decide_eq_true h, cond_true, wrapS (by omega), once_in k t q o l s6 s37 s48 hl r (i + 1) n (c + 1) c' (by omega) (by simp only [List.length_cons] at hn; omega) (by omega)]
      have e2 : c + 1 + r.count q = c + (r.count q + if true = true then 1 else 0) := by simp; omega
      rw [e2]
    · rw [decide_eq_false h, cond_false, once_in k t q o l s6 s37 s48 hl r (i + 1) n c c' (by omega) (by simp only [List.length_cons] at hn; omega) (by omega)]
      simp
theorem pure_FOnce (k : Nat) (hk : 9223372036854776200 ≤ k) (t : List (Int × List Int)) (ht : Wt t) (q : Int) : g_poacherlaw04_ForestOnce k t q = some true := by
  rw [g_poacherlaw04_ForestOnce, c_Few _ (by omega) t ht, ob_some]
  cases fewB t with
  | false => rfl
  | true =>
    rw [Bool.not_true, cond_false, c_May _ (by omega) t ht, ob_some]
    cases hb : mayB t with
    | false => rfl
    | true =>
      rw [Bool.not_true, cond_false]
      by_cases h0 : q < 0
      · rw [ltT h0]; rfl
      · rw [ltF (by omega), cond_false]
        by_cases h1 : (t.length : Int) ≤ q
        · rw [leT h1]; rfl
        · rw [leF (by omega), cond_false, c_Roots _ (by omega) t ht, ob_some]
          have hm := may_of hb
          have h30 := hm.len
          have hrl : (rootsB t).length ≤ 30 := by
            unfold rootsB
            rw [if_pos hb]
            have := rootsAt_len t t.length 0
            omega
          have outer : ∀ r (i n S C : Nat), (rootsB t).drop i = r → i ≤ (rootsB t).length → r.length < n → S + (r.flatMap (underB t)).length = t.length → C + (r.flatMap (underB t)).count q = 1 →
              g_poacherlaw04_ForestOnce_L0 k t q n (rootsB t) (S : Int) (i : Int) (C : Int) = some true := by
            intro r
            induction r with
            | nil =>
              intro i n S C hr hi hn hS hC
              obtain ⟨n, rfl⟩ := fuel hn
              have : i = (rootsB t).length := by have := drop_nil hr; omega
              subst this
              simp at hS hC
              subst hS hC
              have hp := par_lt hb (q := q) (by omega)
              rw [g_poacherlaw04_ForestOnce_L0, lt_len, cond_false, c_Parent _ (by omega) t ht, ob_some]
              simp [hp]
            | cons x r ih =>
              intro i n S C hr hi hn hS hC
              obtain ⟨n, rfl⟩ := fuel hn
              obtain ⟨a, b, c, d, e⟩ := drop_cons hr
              have hx := (mem_roots hb).1 d
              have hu := under_len hb hx.1 hx.2.1
              have hA : underA t x = underB t x := by rw [underA, if_pos ⟨hb, hx.1, hx.2.1⟩]
              rw [List.flatMap_cons, List.length_append] at hS
              rw [List.flatMap_cons, List.count_append] at hC
              rw [g_poacherlaw04_ForestOnce_L0, ltN a, cond_true, idx_of b, ob_some, c_Under _ (by omega) t ht, ob_some, hA]
              have h00 : (0 : Int) = ((0 : Nat) : Int) := rfl
              rw [h00]
              rw [once_in k t q _ (underB t x) (rootsB t) _ (i : Int) (by omega) (underB t x) 0 (k + 60) C ?_ (by omega) (by omega) ?_]
              · rw [wrapS (by omega), wrapI (by omega)]
                have := ih (i + 1) n (S + (underB t x).length) (C + (underB t x).count q) c (by omega) (by simp only [List.length_cons] at hn; omega) (by omega) (by omega)
                rw [Int.natCast_add] at this
                exact this
              · rfl
              · omega
          have := outer (rootsB t) 0 (k + 60) 0 0 rfl (Nat.zero_le _) (by omega) (by have := allB_len hb; unfold allB at this; omega) (by have := all_count hb t.length q (by omega) (by omega) (by omega); unfold allB at this; omega)
          exact this
theorem law_FOnce (k : Nat) (hk : 9223372036854779900 < k) (t : List (Int × List Int)) (ht : Wt t) (q : Int) (hq : i64 q) : xC k none 17 [tasksV t, .lit (.int .i64 q)] = some (.lit (.bool true), []) := by
  obtain ⟨j, rfl⟩ : ∃ j, k = j + 61 := ⟨k - 61, by omega⟩
  rw [tasksV, h_poacherlaw04_ForestOnce, pure_FOnce j (by omega) t ht q]
  rfl
end Go.Ab
