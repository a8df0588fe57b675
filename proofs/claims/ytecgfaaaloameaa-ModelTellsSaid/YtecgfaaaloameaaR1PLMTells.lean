/- ModelTells: the law's word. -/
import Derived.Test.YtecgfaaaloameaaR1GL3
import Derived.Test.YtecgfaaaloameaaR1PModR
set_option linter.unusedVariables false
namespace Go.Ab
theorem pure_MTells (k : Nat) (hk : 9223372036854775808 ≤ k) (t : List (Int × List Int)) (ht : Wt t) (s : List Int) (e : Int × Int × Int) (l : List (Int × Int × Int)) : g_poacherlaw21_ModelTells k t s e l = some true := by
  rw [g_poacherlaw21_ModelTells, c_Few _ (by omega) t ht, ob_some]
  cases hf : fewB t with
  | false => rfl
  | true =>
    rw [Bool.not_true, cond_false]
    by_cases hs : (60 : Int) < (s.length : Nat)
    · rw [ltT hs]; rfl
    · by_cases hl : (200 : Int) < (l.length : Nat)
      · rw [ltF (by omega), ltT hl]; rfl
      · have h1 := stepE_len t s e
        have h2 := newB_len t
        have h3 : (runE t l).1.length ≤ 30 := by rw [runE, runL_len]; exact h2
        rw [ltF (by omega), ltF (by omega), cond_false, cond_false]
        rw [c_Step _ (by omega) t ht s (by omega), ob_some, c_RStep _ (by omega) t ht s (by omega), ob_some]
        simp only [Prod.eta]
        rw [c_Ints _ (by omega) _ _ (by omega), ob_some, c_New _ (by omega) t ht, ob_some, c_RNew _ (by omega) t ht, ob_some, c_Ints _ (by omega) _ _ (by omega), ob_some, c_End _ (by omega) t ht l (by omega), ob_some, (c_RRun _ (by omega) t ht l (by omega)).1, ob_some, c_Ints _ (by omega) _ _ (by omega), ob_some,
          (c_RRun _ (by omega) t ht l (by omega)).2, ob_some, c_RCalm _ (by omega) s (by omega), ob_some, c_Accepts _ (by omega) t ht l (by omega), ob_some, c_Calm _ (by omega) s (by omega), ob_some]
        simp
theorem law_MTells (k : Nat) (hk : 9223372036854775900 < k) (t : List (Int × List Int)) (ht : Wt t) (s : List Int) (hs : s.length ≤ 9223372036854775807) (e : Int × Int × Int) (he : i64 e.1 ∧ i64 e.2.1 ∧ i64 e.2.2) (l : List (Int × Int × Int)) (hl : l.length ≤ 9223372036854775807) :
    xC k none 3 [tasksV t, intsV .i64 s, .agg (threeV e), .ro (l.map threeV)] = some (.lit (.bool true), []) := by
  obtain ⟨j, rfl⟩ : ∃ j, k = j + 61 := ⟨k - 61, by omega⟩
  have h := h_poacherlaw21_ModelTells j t s e.1 e.2.1 e.2.2 l
  rw [pure_MTells j (by omega) t ht s _ l] at h
  exact h
end Go.Ab
