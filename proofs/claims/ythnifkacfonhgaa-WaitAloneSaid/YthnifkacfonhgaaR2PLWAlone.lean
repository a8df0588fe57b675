/- WaitAlone: the law's word. -/
import Derived.Test.YthnifkacfonhgaaR2GL6
import Derived.Test.YthnifkacfonhgaaR2PWf3
set_option linter.unusedVariables false
namespace Go.Ab
theorem waits_ok {c : CF} {m : List Int} {w : Int} (ok : OkB c m w) (hm : Wm m) : waitsB c m w = hasB (loadM m 2) w := by
  have hr := load_rng hm 2
  have hmc := mayC_of ok.may
  have h1 := ok.low
  have h2 := ok.high
  unfold waitsB
  rw [ok.may, decide_eq_true ⟨ok.len, ok.low, ok.high⟩, has_mask hr.1 h1 (by omega)]
  rfl
theorem parked3 {w a3 a4 a5 : Int} : parkedB (5, 3, w, a3, a4, a5, 0) = true := by simp [parkedB]
theorem pure_WAlone (k : Nat) (hk : 2000 ≤ k) (c : CF) {m : List Int} (hm : Wm m) (w v : Int) (hv : 0 ≤ v ∧ v ≤ 18446744073709551615) : g_poacherlaw14_WaitAlone k c m w v = some true := by
  rw [g_poacherlaw14_WaitAlone, begin_u, ob_some]
  by_cases hl : (500 : Int) < m.length
  · rw [ltT hl]; rfl
  · rw [ltF (by omega), cond_false]
    simp only [Prod.eta]
    rw [c_Goes, ob_some]
    cases hg : goesB c m (5, 0, w, 0, 0, 0, 0) 5 5 with
    | false => rfl
    | true =>
      have ok : OkB c m w := okB_of hg
      rw [Bool.not_true, cond_false, beqI]
      by_cases hz : v = 0
      · rw [decide_eq_true hz]; rfl
      · have hp := ok.park
        have hmc := mayC_of ok.may
        have hw1 := ok.low
        have hw2 := ok.high
        rw [decide_eq_false hz, cond_false, c_Park, ob_some, c_Store (by omega), ob_some]
        generalize hpp : parkC c w = p at hp ⊢
        have h1 : Wm (storeM m p 0) := hm.set p (by decide) (by decide)
        have l1 : (storeM m p 0).length = m.length := store_len
        have ok1 := ok.store p 0
        have p1 : loadM (storeM m p 0) p = 0 := load_store 0 (by omega) hp.2.2
        generalize storeM m p 0 = m1 at h1 l1 ok1 p1 ⊢
        have he := load_rng h1 2
        have hse := set_rng (w := w) he.1 he.2
        have h2 : Wm (storeM m1 2 (setB (loadM m1 2) w)) := h1.set 2 hse.1 hse.2
        have l2 : (storeM m1 2 (setB (loadM m1 2) w)).length = m.length := by rw [store_len, l1]
        have ok2 := ok1.store 2 (setB (loadM m1 2) w)
        have v2 : loadM (storeM m1 2 (setB (loadM m1 2) w)) 2 = setB (loadM m1 2) w := load_store _ (by decide) (by omega)
        have p2 : loadM (storeM m1 2 (setB (loadM m1 2) w)) p = 0 := by rw [load_store_ne _ (by omega), p1]
        have i1 : IntKind.i64.wrap (0 + 1) = 1 := by decide
        have i2 : IntKind.i64.wrap (1 + 1) = 2 := by decide
        have i3 : IntKind.i64.wrap (2 + 1) = 3 := by decide
        have f1 : ∀ k : Nat, k + 60 = (k + 59) + 1 := fun k => rfl
        have f2 : ∀ k : Nat, k + 59 = (k + 58) + 1 := fun k => rfl
        have f3 : ∀ k : Nat, k + 58 = (k + 57) + 1 := fun k => rfl
        have f4 : ∀ k : Nat, k + 57 = (k + 56) + 1 := fun k => rfl
        rw [f1, g_poacherlaw14_WaitAlone_L0, ltT (by decide), cond_true]
        simp only [Prod.eta]
        rw [c_WStep c h1 (by omega) wf0, ob_some, wait0 ok1, i1]
        simp only []
        rw [f2, g_poacherlaw14_WaitAlone_L0, ltT (by decide), cond_true]
        simp only [Prod.eta]
        rw [c_WStep c h1 (by omega) ⟨by simp, he, by simp⟩, ob_some, wait1 ok1, if_pos rfl, i2]
        simp only []
        rw [f3, g_poacherlaw14_WaitAlone_L0, ltT (by decide), cond_true]
        simp only [Prod.eta]
        rw [c_WStep c h1 (by omega) ⟨by simp, he, he⟩, ob_some, wait2 ok1, if_pos rfl, i3]
        simp only []
        rw [f4, g_poacherlaw14_WaitAlone_L0, ltF (by decide), cond_false]
        simp only [Prod.eta]
        rw [c_Load, ob_some, v2, c_Epoch hse.1, ob_some, c_Load, ob_some, c_Epoch he.1, ob_some, c_WStep c h2 (by omega) ⟨by simp, he, he⟩, ob_some, wait3 ok2, hpp, p2, if_pos rfl, c_Parked, ob_some, parked3, cond_true, c_Waits c h2, ob_some, waits_ok ok2 h2, v2, has_set he.1 he.2 hw1 (by omega) hw1, decide_eq_true rfl, Bool.true_or, cond_true]
        simp only []
        rw [c_Parked, ob_some, parked3, cond_true, c_Same14 (by omega) _ (by omega), ob_some, decide_eq_true rfl, c_Park, ob_some, hpp, c_Store (by omega), ob_some]
        generalize storeM m1 2 (setB (loadM m1 2) w) = m2 at h2 l2 ok2 v2 p2 ⊢
        have h3 : Wm (storeM m2 p v) := h2.set p hv.1 hv.2
        have l3 : (storeM m2 p v).length = m.length := by rw [store_len, l2]
        have ok3 := ok2.store p v
        have p3 : loadM (storeM m2 p v) p = v := load_store v (by omega) (by omega)
        have v3 : loadM (storeM m2 p v) 2 = setB (loadM m1 2) w := by rw [load_store_ne _ (by omega), v2]
        rw [c_WStep c h3 (by omega) ⟨by simp, he, by simp⟩, ob_some, wait3 ok3, hpp, p3, if_neg hz]
        simp only []
        rw [c_WStep c h3 (by omega) ⟨by simp, he, hv⟩, ob_some, wait4 ok3, hpp]
        simp only []
        generalize storeM m2 p v = m3 at h3 l3 ok3 p3 v3 ⊢
        have h4 : Wm (storeM m3 p 0) := h3.set p (by decide) (by decide)
        have ok4 := ok3.store p 0
        have v4 : loadM (storeM m3 p 0) 2 = setB (loadM m1 2) w := by rw [load_store_ne _ (by omega), v3]
        rw [beqI, ep_set he.1 he.2 hw1 (by omega), decide_eq_true rfl, cond_true, cond_true, beqI, decide_eq_true rfl, cond_true, ob_some, c_Load, ob_some, load_store 0 (by omega) (by omega), beqI, decide_eq_true rfl, cond_true, c_Waits c h4, ob_some, waits_ok ok4 h4, v4, has_set he.1 he.2 hw1 (by omega) hw1, decide_eq_true rfl, Bool.true_or]
theorem law_WAlone (k : Nat) (hk : 9223372036854779900 < k) (c : CF) (hc : confOk c) (m : List Int) (hm : Wm m) (w : Int) (hw : i64 w) (v : Int) (hv : u64 v) : xC k none 6 [.agg (confV c), .ro (m.map (intR .u64)), .lit (.int .i64 w), .lit (.int .u64 v)] = some (.lit (.bool true), []) := by
  obtain ⟨j, rfl⟩ : ∃ j, k = j + 61 := ⟨k - 61, by omega⟩
  obtain ⟨W, D, I, S⟩ := c
  rw [confV, h_poacherlaw14_WaitAlone, pure_WAlone j (by omega) _ hm w v (u64_of hv)]
  rfl
end Go.Ab
