/- ThinkLast: the law's word. -/
import Derived.Test.YtecgfaaaloameaaR1GL14
import Derived.Test.YtecgfaaaloameaaR1PThk
set_option linter.unusedVariables false
namespace Go.Ab
theorem pure_Last (k : Nat) (hk : 9223372036854775808 ≤ k) (t : List (Int × List Int)) (ht : Wt t) (s : List (Int × Int × Int)) : g_poacherlaw17_ThinkLast k t s = some true := by
  rw [g_poacherlaw17_ThinkLast, c_Few _ (by omega) t ht, ob_some]
  cases hf : fewB t with
  | false => rfl
  | true =>
    have hF := few_of hf
    rw [Bool.not_true, cond_false]
    by_cases hs : (40 : Int) < (s.length : Nat)
    · rw [ltT hs]; rfl
    · have hs' : s.length ≤ 40 := by omega
      rw [ltF (by omega), cond_false]
      rcases snoc_cases s with rfl | ⟨r, x, rfl⟩
      · rfl
      · have e1 : ((((r ++ [x]).length : Nat) : Int) == 0) = false := by simp; omega
        have hr : r.length + 1 ≤ 40 := by simpa using hs'
        have e2 : (r ++ [x]).drop r.length = [x] := by simp
        rw [e1, cond_false, c_TMay _ (by omega) t ht _ (by omega), ob_some]
        cases h : stackB t (r ++ [x]) with
        | false => rfl
        | true =>
          obtain ⟨hm, hr', hx⟩ := stack_snoc.1 h
          have h' : stackB t ([] ++ [x]) = true := stack_snoc.2 ⟨hm, by simp, hx⟩
          have hd := doB_len t (r ++ [x])
          rw [snoc_len, wrapI (by omega), Int.toNat_natCast, e2, c_TDo _ (by omega) t ht _ (by omega), ob_some, c_TDo _ (by omega) t ht [x] (by simp), ob_some, c_TNext _ (by omega) t ht _ (by omega), ob_some, c_TNext _ (by omega) t ht [x] (by simp), ob_some]
          have e3 : nextB t [x] = nextB t (r ++ [x]) := by
            have a := nextB_snoc t [] x
            rw [h', List.nil_append] at a
            rw [a, nextB_snoc, h]
          have a := doB_snoc t [] x
          rw [h', List.nil_append] at a
          have b := doB_snoc t r x
          rw [h] at b
          have hl : r.length ≤ (doB t (r ++ [x])).length := by rw [b]; split <;> (try split) <;> (try split) <;> simp
          have e4 : (doB t (r ++ [x])).take r.length = r := by rw [b]; split <;> (try split) <;> (try split) <;> simp at *
          have e5 : (doB t (r ++ [x])).drop r.length = doB t [x] := by
            rw [a, b]
            split
            · rename_i hc; cases hc
            · split
              · simp
              · split <;> simp
          rw [e3, e4, e5]
          have d1 : decide ((0 : Int) ≤ (r.length : Int) ∧ (r.length : Int) ≤ ((r ++ [x]).length : Nat)) = true := by simp; omega
          have d2 : decide ((0 : Int) ≤ (r.length : Int) ∧ (r.length : Int) ≤ ((doB t (r ++ [x])).length : Nat)) = true := by simp; omega
          rw [d1, d2, ltF (by omega), snoc_take, c_TSame _ (by omega) _ _ (by omega), ob_some, c_TSame _ (by omega) _ _ (by rw [← e5]; simp; omega), ob_some]
          simp
theorem law_Last (k : Nat) (hk : 9223372036854775900 < k) (t : List (Int × List Int)) (ht : Wt t) (s : List (Int × Int × Int)) (hs : s.length ≤ 9223372036854775807) : xC k none 14 [tasksV t, .ro (s.map threeV)] = some (.lit (.bool true), []) := by
  obtain ⟨j, rfl⟩ : ∃ j, k = j + 61 := ⟨k - 61, by omega⟩
  rw [tasksV, h_poacherlaw17_ThinkLast, pure_Last j (by omega) t ht s]
  rfl
end Go.Ab
