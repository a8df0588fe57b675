/- ThinkTells: the law's word. -/
import Derived.Test.YtecgfaaaloameaaR1GL10
import Derived.Test.YtecgfaaaloameaaR1PThkR
set_option linter.unusedVariables false
namespace Go.Ab
theorem pure_TTells (k : Nat) (hk : 9223372036854775808 ≤ k) (t : List (Int × List Int)) (ht : Wt t) (s r : List (Int × Int × Int)) (q : Int) : g_poacherlaw17_ThinkTells k t s r q = some true := by
  rw [g_poacherlaw17_ThinkTells, c_Few _ (by omega) t ht, ob_some]
  cases hf : fewB t with
  | false => rfl
  | true =>
    have hF := few_of hf
    rw [Bool.not_true, cond_false]
    by_cases hs : (40 : Int) < (s.length : Nat)
    · rw [ltT hs]; rfl
    · by_cases hr : (40 : Int) < (r.length : Nat)
      · rw [ltF (by omega), ltT hr]; rfl
      · have hd := doB_len t s
        have hsl := startB_len t s q
        rw [ltF (by omega), ltF (by omega), cond_false, cond_false]
        rw [c_TDo _ (by omega) t ht s (by omega), ob_some, c_RTDo _ (by omega) t ht s (by omega), ob_some, c_RTSame _ (by omega) _ _ (by omega), ob_some, c_TStart _ (by omega) t ht s (by omega), ob_some, c_RTStart _ (by omega) t ht s (by omega), ob_some, c_RTSame _ (by omega) _ _ (by omega), ob_some,
          c_RTMay _ (by omega) t ht s (by omega), ob_some, c_RTSame _ (by omega) _ _ (by omega), ob_some, c_TNext _ (by omega) t ht s (by omega), ob_some, c_RTNext _ (by omega) t ht s (by omega), ob_some, c_TLeft _ (by omega) t hF s (by omega), ob_some, c_RTLeft _ (by omega) t hF s (by omega), ob_some,
          c_TMay _ (by omega) t ht s (by omega), ob_some, c_TSame _ (by omega) _ _ (by omega), ob_some]
        simp
theorem law_TTells (k : Nat) (hk : 9223372036854775900 < k) (t : List (Int × List Int)) (ht : Wt t) (s : List (Int × Int × Int)) (hs : s.length ≤ 9223372036854775807) (r : List (Int × Int × Int)) (hr : r.length ≤ 9223372036854775807) (q : Int) (hq : i64 q) : xC k none 10 [tasksV t, .ro (s.map threeV), .ro (r.map threeV), .lit (.int .i64 q)] = some (.lit (.bool true), []) := by
  obtain ⟨j, rfl⟩ : ∃ j, k = j + 61 := ⟨k - 61, by omega⟩
  rw [tasksV, h_poacherlaw17_ThinkTells, pure_TTells j (by omega) t ht s r q]
  rfl
end Go.Ab
