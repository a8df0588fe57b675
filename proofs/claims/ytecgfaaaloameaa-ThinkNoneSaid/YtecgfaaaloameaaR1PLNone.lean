/- ThinkNone: the law's word. -/
import Derived.Test.YtecgfaaaloameaaR1GL15
import Derived.Test.YtecgfaaaloameaaR1PThk
set_option linter.unusedVariables false
namespace Go.Ab
theorem pure_None (k : Nat) (hk : 9223372036854775808 ≤ k) (t : List (Int × List Int)) (ht : Wt t) (s : List (Int × Int × Int)) (q : Int) : g_poacherlaw17_ThinkNone k t s q = some true := by
  rw [g_poacherlaw17_ThinkNone, c_Few _ (by omega) t ht, ob_some]
  cases hf : fewB t with
  | false => rfl
  | true =>
    have hF := few_of hf
    rw [Bool.not_true, cond_false]
    by_cases hs : (40 : Int) < (s.length : Nat)
    · rw [ltT hs]; rfl
    · have hs' : s.length ≤ 40 := by omega
      rw [ltF (by omega), cond_false, c_TNext _ (by omega) t ht s (by omega), ob_some, c_TDo _ (by omega) t ht s (by omega), ob_some, c_TMay _ (by omega) t ht s (by omega), ob_some, c_TSame _ (by omega) _ _ (by have := doB_len t s; omega), ob_some, ob_some, c_TLeft _ (by omega) t hF s (by omega), ob_some, c_TStart _ (by omega) t ht s (by omega), ob_some, c_TSame _ (by omega) _ _ (by have := startB_len t s q; omega), ob_some]
      rcases snoc_cases s with rfl | ⟨r, x, rfl⟩
      · cases h : stackB t [] with
        | true => simp [nextB, doB, h]
        | false => simp [nextB, doB, leftB, startB, h]
      · have e1 : ((((r ++ [x]).length : Nat) : Int) == 0) = false := by simp; omega
        rw [e1, nextB_snoc, doB_snoc]
        cases h : stackB t (r ++ [x]) with
        | true =>
          obtain ⟨hm, hr', hx⟩ := stack_snoc.1 h
          rw [if_neg (show ¬ (true = false) by simp), if_neg (show ¬ (true = false) by simp)]
          split
          · simp
          · split <;> simp
        | false => simp [leftB, startB, h]
theorem law_None (k : Nat) (hk : 9223372036854775900 < k) (t : List (Int × List Int)) (ht : Wt t) (s : List (Int × Int × Int)) (hs : s.length ≤ 9223372036854775807) (q : Int) (hq : i64 q) : xC k none 15 [tasksV t, .ro (s.map threeV), .lit (.int .i64 q)] = some (.lit (.bool true), []) := by
  obtain ⟨j, rfl⟩ : ∃ j, k = j + 61 := ⟨k - 61, by omega⟩
  rw [tasksV, h_poacherlaw17_ThinkNone, pure_None j (by omega) t ht s q]
  rfl
end Go.Ab
