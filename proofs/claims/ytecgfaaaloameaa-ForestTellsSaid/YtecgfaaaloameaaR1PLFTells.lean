/- ForestTells: the law's word. -/
import Derived.Test.YtecgfaaaloameaaR1GL16
import Derived.Test.YtecgfaaaloameaaR1PUndF
import Derived.Test.YtecgfaaaloameaaR1PWf
set_option linter.unusedVariables false
namespace Go.Ab
theorem rootsB_len {t : List (Int × List Int)} (ht : Wt t) : (rootsB t).length ≤ 9223372036854775807 := by
  have := ht.len
  unfold rootsB
  split
  · have := rootsAt_len t t.length 0; omega
  · simp
theorem pure_FTells (k : Nat) (hk : 9223372036854776200 ≤ k) (t u : List (Int × List Int)) (ht : Wt t) (hu : Wt u) (q : Int) : g_poacherlaw04_ForestTells k t u q = some true := by
  rw [g_poacherlaw04_ForestTells, c_Few _ (by omega) t ht, ob_some, c_Few _ (by omega) u hu, ob_some]
  cases fewB t with
  | false => rfl
  | true =>
    cases fewB u with
    | false => rfl
    | true =>
      simp only [Bool.not_true, cond_false]
      rw [c_Sums _ (by omega) t ht, ob_some, c_RSums _ (by omega) t ht, ob_some, c_RMay _ (by omega) t ht, ob_some, c_RSame _ (by omega) t u ht, ob_some, c_Roots _ (by omega) t ht, ob_some, c_RRoots _ (by omega) t ht, ob_some,
        c_Ints _ (by omega) _ _ (rootsB_len ht), ob_some, c_Under _ (by omega) t ht, ob_some, c_RUnder _ (by omega) t ht, ob_some, c_Ints _ (by omega) _ _ (by have := underA_len (t := t) (q := q); omega), ob_some,
        c_May _ (by omega) t ht, ob_some, c_Same _ (by omega) t u ht, ob_some, c_Parent _ (by omega) t ht, ob_some, c_RParent _ (by omega) t ht, ob_some]
      simp
theorem law_FTells (k : Nat) (hk : 9223372036854779900 < k) (t : List (Int × List Int)) (ht : Wt t) (u : List (Int × List Int)) (hu : Wt u) (q : Int) (hq : i64 q) : xC k none 16 [tasksV t, tasksV u, .lit (.int .i64 q)] = some (.lit (.bool true), []) := by
  obtain ⟨j, rfl⟩ : ∃ j, k = j + 61 := ⟨k - 61, by omega⟩
  rw [tasksV, tasksV, h_poacherlaw04_ForestTells, pure_FTells j (by omega) t u ht hu q]
  rfl
end Go.Ab
