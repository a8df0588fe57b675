/- ThinkStart: the law's word. -/
import Derived.Test.YtecgfaaaloameaaR1GL13
import Derived.Test.YtecgfaaaloameaaR1PThk
set_option linter.unusedVariables false
namespace Go.Ab
theorem pure_Start (k : Nat) (hk : 9223372036854775808 ≤ k) (t : List (Int × List Int)) (ht : Wt t) (s : List (Int × Int × Int)) (q i : Int) : g_poacherlaw17_ThinkStart k t s q i = some true := by
  rw [g_poacherlaw17_ThinkStart, c_Few _ (by omega) t ht, ob_some]
  cases hf : fewB t with
  | false => rfl
  | true =>
    have hF := few_of hf
    rw [Bool.not_true, cond_false]
    by_cases hs : (40 : Int) < (s.length : Nat)
    · rw [ltT hs]; rfl
    · have hs' : s.length ≤ 40 := by omega
      have hsl := startB_len t s q
      rw [ltF (by omega), cond_false, c_TMay _ (by omega) t ht _ (by omega), ob_some]
      cases h : stackB t s with
      | false => rfl
      | true =>
        obtain ⟨hm, hi⟩ := stack_iff.1 h
        rw [Bool.not_true, cond_false, c_TStart _ (by omega) t ht s (by omega), ob_some, c_TSame _ (by omega) _ _ (by omega), ob_some]
        by_cases h0 : q < 0
        · have e : startB t s q = s := by rw [startB, if_neg (by omega)]
          rw [ltT h0, e]
          simp
        · rw [ltF (by omega), cond_false]
          by_cases h1 : (t.length : Int) ≤ q
          · have e : startB t s q = s := by rw [startB, if_neg (by omega)]
            rw [leT h1, e]
            simp
          · have e : startB t s q = s ++ [(q, 0, 0)] := by rw [startB, if_pos ⟨h, by omega, by omega⟩]
            have hn := it_new hm (show 0 ≤ q by omega) (show q < t.length by omega)
            have hst : stackB t (s ++ [(q, 0, 0)]) = true := stack_snoc.2 ⟨hm, hi, hn⟩
            have hL := left_snoc hst
            have hb := sum_cost hF hm hi
            have hl : leftB t s = (s.map (costB t)).sum := by rw [leftB, if_pos h]
            have hw := (may_of hm).work _ (own_mem hn.h0 hn.h1)
            have hkk := hF.kids _ (own_mem hn.h0 hn.h1)
            simp only at hw hkk
            rw [leF (by omega), cond_false, e, c_TMay _ (by omega) t ht _ (by simp; omega), hst, c_TLeft _ (by omega) t hF _ (by simp; omega), c_TLeft _ (by omega) t hF _ (by omega), idx_own (by omega) (by omega)]
            have e1 : (((s ++ [(q, (0 : Int), (0 : Int))]).length : Int) != IntKind.i64.wrap ((s.length : Int) + 1)) = false := by
              rw [wrapI (by omega)]
              simp
            have e2 : idx (s ++ [(q, (0 : Int), (0 : Int))]) (s.length : Int) = some (q, 0, 0) := by rw [idx_nat]; simp
            have fin : (leftB t (s ++ [(q, 0, 0)]) == IntKind.i64.wrap (IntKind.i64.wrap (IntKind.i64.wrap (leftB t s + (ownT t q).1) + ((ownT t q).2.length : Int)) + 1)) = true := by
              rw [wrapI (z := leftB t s + (ownT t q).1) (by omega), wrapI (z := leftB t s + (ownT t q).1 + _) (by omega), wrapI (by omega), hL, beq_iff_eq]
              unfold costB
              simp only
              omega
            simp only [e1, cond_false, ob_some, Bool.not_true, e2, beq_self_eq_true, Bool.and_self, fin]
            by_cases h3 : i < 0
            · rw [ltT h3]; rfl
            · rw [ltF (by omega), cond_false]
              by_cases h4 : (s.length : Int) ≤ i
              · rw [leT h4]; rfl
              · have g1 : s[i.toNat]? = some s[i.toNat] := List.getElem?_eq_getElem (by omega)
                have g2 : idx s i = some s[i.toNat] := by rw [idx, if_pos (by omega), g1]
                have g3 : idx (s ++ [(q, (0 : Int), (0 : Int))]) i = some s[i.toNat] := by rw [idx, if_pos (by omega), List.getElem?_append_left (by omega), g1]
                rw [leF (by omega), cond_false, g2, g3, ob_some, ob_some, tripEq, decide_eq_true rfl]
                rfl
theorem law_Start (k : Nat) (hk : 9223372036854775900 < k) (t : List (Int × List Int)) (ht : Wt t) (s : List (Int × Int × Int)) (hs : s.length ≤ 9223372036854775807) (q : Int) (hq : i64 q) (i : Int) (hi : i64 i) : xC k none 13 [tasksV t, .ro (s.map threeV), .lit (.int .i64 q), .lit (.int .i64 i)] = some (.lit (.bool true), []) := by
  obtain ⟨j, rfl⟩ : ∃ j, k = j + 61 := ⟨k - 61, by omega⟩
  rw [tasksV, h_poacherlaw17_ThinkStart, pure_Start j (by omega) t ht s q i]
  rfl
end Go.Ab
