/- ForestMore: the law's word. -/
import Derived.Test.YtecgfaaaloameaaR1GL21
import Derived.Test.YtecgfaaaloameaaR1PFor
import Derived.Test.YtecgfaaaloameaaR1PMore
import Derived.Test.YtecgfaaaloameaaR1PWf
set_option linter.unusedVariables false
namespace Go.Ab
theorem few_wt {t : List (Int × List Int)} (h : fewB t = true) : t.length ≤ 40 ∧ ∀ x ∈ t, x.2.length ≤ 40 := by
  unfold fewB at h
  rw [Bool.and_eq_true, decide_eq_true_eq] at h
  obtain ⟨h1, h2⟩ := h
  refine ⟨h2, fun x hx => ?_⟩
  rw [List.take_of_length_le (by omega), List.all_eq_true] at h1
  simpa using h1 x hx
theorem pure_FMore (k : Nat) (hk : 9223372036854776200 ≤ k) (t : List (Int × List Int)) (ht : Wt t) (w z : Int) : g_poacherlaw04_ForestMore k t w z = some true := by
  rw [g_poacherlaw04_ForestMore, c_Few _ (by omega) t ht, ob_some]
  cases hf : fewB t with
  | false => rfl
  | true =>
    obtain ⟨h40, hk40⟩ := few_wt hf
    rw [Bool.not_true, cond_false, c_May _ (by omega) t ht, ob_some]
    cases hb : mayB t with
    | false => rfl
    | true =>
      have hm := may_of hb
      have h30 := hm.len
      have hroom : decide (t.length * 32 ≤ 70368744177664) = true := decide_eq_true (by omega)
      have hroom2 : room (t ++ [(w, ([] : List Int))]).length 32 = true := roomT (by simp; omega)
      have wt1 : Wt (t ++ [(w, [])]) := by
        refine ⟨by simp; omega, fun x hx => ?_⟩
        rcases List.mem_append.1 hx with hx | hx
        · exact ht.kids x hx
        · simp at hx
          subst hx
          simp
      have hM : mayB (t ++ [(w, [])]) = decide (t.length < 30 ∧ 0 ≤ w ∧ w ≤ 20) := may_eq (by rw [decide_eq_true_eq]; exact (more_may hm w).symm)
      rw [Bool.not_true, cond_false, hroom, cond_true, hroom2, cond_true]
      by_cases hn : (t.length : Int) < 30
      · rw [ltT hn, cond_true]
        by_cases hw : 0 ≤ w
        · rw [leT hw, cond_true, c_May _ (by omega) _ wt1, ob_some]
          by_cases hw2 : w ≤ 20
          · have hMt : mayB (t ++ [(w, [])]) = true := by rw [hM, decide_eq_true_eq]; omega
            rw [hMt, leT hw2]
            simp only [Bool.not_true, beq_self_eq_true, cond_false]
            have leaf : (ob (g_forest_Roots (k + 39) (t ++ [(w, [])])) fun x21 => ob (g_forest_Roots (k + 39) t) fun x22 => some ((x21.length : Int) == IntKind.i64.wrap ((x22.length : Int) + 1))) = some true := by
              rw [c_Roots _ (by omega) _ wt1, ob_some, c_Roots _ (by omega) t ht, ob_some, more_roots hb hMt]
              have hrl : (rootsB t).length ≤ 30 := by
                unfold rootsB
                rw [if_pos hb]
                have := rootsAt_len t t.length 0
                omega
              rw [wrapS (by omega)]
              simp
            by_cases hz : z < 0
            · rw [ltT hz, cond_true]
              exact leaf
            · rw [ltF (by omega), cond_false]
              by_cases hz2 : (t.length : Int) ≤ z
              · rw [leT hz2, cond_true]
                exact leaf
              · obtain ⟨p, rfl⟩ : ∃ p : Nat, z = p := ⟨z.toNat, by omega⟩
                have hp : p < t.length := by omega
                have hx : t[p]? = some t[p] := List.getElem?_eq_getElem hp
                have hxk := hk40 t[p] (List.getElem_mem hp)
                have h3 : decide ((t ++ [(w, ([] : List Int))]).length * 32 ≤ 70368744177664) = true := decide_eq_true (by simp; omega)
                have h4 : decide (t[p].2.length * 8 ≤ 70368744177664) = true := decide_eq_true (by omega)
                have h5 : room (t[p].2 ++ [(t.length : Int)]).length 8 = true := roomT (by simp; omega)
                have h6 : decide ((0 : Int) ≤ (p : Int) ∧ (p : Int).toNat < (t ++ [(w, ([] : List Int))]).length) = true := by simp; omega
                have h7 : (t ++ [(w, [])])[(p : Int).toNat]? = some t[p] := by rw [Int.toNat_natCast, List.getElem?_append_left hp, hx]
                have hG : (t ++ [(w, [])]).set (p : Int).toNat (t[p].1, t[p].2 ++ [(t.length : Int)]) = given t w p t[p] := rfl
                have wt2 : Wt (given t w p t[p]) := by
                  refine ⟨by rw [given_len]; omega, fun y hy => ?_⟩
                  rcases List.mem_or_eq_of_mem_set hy with hy | rfl
                  · exact wt1.kids y hy
                  · simp; omega
                have hg : mayB (given t w p t[p]) = true := of_may (given_may hm hx (by omega) hw hw2)
                rw [leF (by omega), cond_false, h3, cond_true, idx_of hx, ob_some, h4, cond_true, h5, cond_true, h6, cond_true, h7, ob_some, hG, c_May _ (by omega) _ wt2, ob_some, hg, cond_true, c_Roots _ (by omega) _ wt2, ob_some, c_Roots _ (by omega) t ht, ob_some, given_roots hb hx hg, beq_self_eq_true, cond_true, c_Parent _ (by omega) _ wt2, ob_some, given_par hb hx hg, if_pos rfl, beq_self_eq_true]
          · have hMf : mayB (t ++ [(w, [])]) = false := by rw [hM, decide_eq_false_iff_not]; omega
            rw [hMf, leF (by omega)]
            rfl
        · have hMf : mayB (t ++ [(w, [])]) = false := by rw [hM, decide_eq_false_iff_not]; omega
          rw [leF (by omega), cond_false, c_May _ (by omega) _ wt1, ob_some, hMf]
          rfl
      · have hMf : mayB (t ++ [(w, [])]) = false := by rw [hM, decide_eq_false_iff_not]; omega
        rw [ltF (by omega), cond_false, c_May _ (by omega) _ wt1, ob_some, hMf]
        rfl
theorem law_FMore (k : Nat) (hk : 9223372036854779900 < k) (t : List (Int × List Int)) (ht : Wt t) (w : Int) (hw : i64 w) (z : Int) (hz : i64 z) : xC k none 21 [tasksV t, .lit (.int .i64 w), .lit (.int .i64 z)] = some (.lit (.bool true), []) := by
  obtain ⟨j, rfl⟩ : ∃ j, k = j + 61 := ⟨k - 61, by omega⟩
  rw [tasksV, h_poacherlaw04_ForestMore, pure_FMore j (by omega) t ht w z]
  rfl
end Go.Ab
