/- ThinkLess: the law's word. -/
import Derived.Test.YtecgfaaaloameaaR1GL11
import Derived.Test.YtecgfaaaloameaaR1PThk
set_option linter.unusedVariables false
namespace Go.Ab
theorem pure_Less (k : Nat) (hk : 9223372036854775808 ≤ k) (t : List (Int × List Int)) (ht : Wt t) (s : List (Int × Int × Int)) : g_poacherlaw17_ThinkLess k t s = some true := by
  rw [g_poacherlaw17_ThinkLess, c_Few _ (by omega) t ht, ob_some]
  cases hf : fewB t with
  | false => rfl
  | true =>
    have hF := few_of hf
    rw [Bool.not_true, cond_false]
    by_cases hs : (40 : Int) < (s.length : Nat)
    · rw [ltT hs]; rfl
    · have hs' : s.length ≤ 40 := by omega
      have hdl := doB_len t s
      rw [ltF (by omega), cond_false, c_TMay _ (by omega) t ht _ (by omega), ob_some]
      cases h : stackB t s with
      | false => rfl
      | true =>
        obtain ⟨hm, hi⟩ := stack_iff.1 h
        have hb := sum_cost hF hm hi
        have hl : leftB t s = (s.map (costB t)).sum := by rw [leftB, if_pos h]
        rw [Bool.not_true, cond_false, c_TDo _ (by omega) t ht s (by omega), ob_some, c_TLeft _ (by omega) t hF s (by omega), ob_some]
        rcases snoc_cases s with rfl | ⟨r, x, rfl⟩
        · rw [hl]
          rfl
        · obtain ⟨h1, h2⟩ := do_stack h
          have e0 : (leftB t (r ++ [x]) == 0) = false := by
            rw [beq_eq_false_iff_ne, hl]
            have : (r ++ [x]).length = r.length + 1 := by simp
            omega
          have hd : r.length ≤ (doB t (r ++ [x])).length := by rw [doB_snoc]; split <;> (try split) <;> (try split) <;> simp
          have hrl : (r ++ [x]).length = r.length + 1 := by simp
          rw [e0, cond_false, c_TMay _ (by omega) t ht _ (by omega), ob_some, h1, cond_true, c_TLeft _ (by omega) t hF _ (by omega), ob_some, wrapI (by omega), h2, beq_self_eq_true, cond_true, leT (by omega), cond_true, wrapI (by omega), leT (by omega)]
theorem law_Less (k : Nat) (hk : 9223372036854775900 < k) (t : List (Int × List Int)) (ht : Wt t) (s : List (Int × Int × Int)) (hs : s.length ≤ 9223372036854775807) : xC k none 11 [tasksV t, .ro (s.map threeV)] = some (.lit (.bool true), []) := by
  obtain ⟨j, rfl⟩ : ∃ j, k = j + 61 := ⟨k - 61, by omega⟩
  rw [tasksV, h_poacherlaw17_ThinkLess, pure_Less j (by omega) t ht s]
  rfl
end Go.Ab
