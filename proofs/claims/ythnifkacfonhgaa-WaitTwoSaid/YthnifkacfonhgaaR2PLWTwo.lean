/- WaitTwo: the law's word. -/
import Derived.Test.YthnifkacfonhgaaR2GL5
import Derived.Test.YthnifkacfonhgaaR2PWf3
set_option linter.unusedVariables false
namespace Go.Ab
theorem waits_ok2 {c : CF} {m : List Int} {w : Int} (ok : OkB c m w) (hm : Wm m) : waitsB c m w = hasB (loadM m 2) w := by
  have hr := load_rng hm 2
  have hmc := mayC_of ok.may
  have h1 := ok.low
  have h2 := ok.high
  unfold waitsB
  rw [ok.may, decide_eq_true ⟨ok.len, ok.low, ok.high⟩, has_mask hr.1 h1 (by omega)]
  rfl
theorem parked3' {w a3 a4 a5 : Int} : parkedB (5, 3, w, a3, a4, a5, 0) = true := by simp [parkedB]
theorem two_fin (k : Nat) (c : CF) {m m1 : List Int} (hm : Wm m) (w v : Int) (h1 : Wm m1) (l1 : m1.length ≤ 1000) (okw : OkB c m1 w) (okv : OkB c m1 v) (pw : loadM m1 (parkC c w) = 0) (pv : loadM m1 (parkC c v) = 0)
    (bw : hasB (loadM m1 2) w = true) (bv : hasB (loadM m1 2) v = true) (he : epB (loadM m1 2) = epB (loadM m 2)) : ∀ (d i n : Nat) (x y x' y' : Int), (0 ≤ x ∧ x ≤ 18446744073709551615) → (0 ≤ y ∧ y ≤ 18446744073709551615) → (0 ≤ x' ∧ x' ≤ 18446744073709551615) → (0 ≤ y' ∧ y' ≤ 18446744073709551615) → i + d = 12 → d < n →
    g_poacherlaw14_WaitTwo_L0 k c m w v n m1 (i : Int) 5 3 w 0 x y 0 5 3 v 0 x' y' 0 = some true := by
  have hr := load_rng hm 2
  have hr1 := load_rng h1 2
  intro d
  induction d with
  | zero =>
    intro i n x y x' y' hx hy hx' hy' hi hn
    obtain ⟨n, rfl⟩ := fuel hn
    rw [g_poacherlaw14_WaitTwo_L0, ltF (by omega), cond_false]
    simp only [Prod.eta]
    rw [c_Parked, ob_some, parked3', cond_true, c_Parked, ob_some, parked3', cond_true, c_Waits c h1, ob_some, waits_ok2 okw h1, bw, cond_true, c_Waits c h1, ob_some, waits_ok2 okv h1, bv, cond_true, c_Load, ob_some, c_Epoch hr1.1, ob_some, c_Load, ob_some, c_Epoch hr.1, ob_some, he]
    simp
  | succ d ih =>
    intro i n x y x' y' hx hy hx' hy' hi hn
    obtain ⟨n, rfl⟩ := fuel hn
    rw [g_poacherlaw14_WaitTwo_L0, ltT (by omega), cond_true]
    simp only [Prod.eta]
    rw [c_WStep c h1 l1 ⟨by simp, hx, hy⟩, ob_some, wait3 okw, pw, if_pos rfl]
    simp only []
    rw [c_WStep c h1 l1 ⟨by simp, hx', hy'⟩, ob_some, wait3 okv, pv, if_pos rfl]
    simp only []
    rw [wrapS (by omega)]
    exact ih (i + 1) n x 0 x' 0 hx (by simp) hx' (by simp) (by omega) (by omega)
theorem pure_WTwo (k : Nat) (hk : 2000 ≤ k) (c : CF) {m : List Int} (hm : Wm m) (w v : Int) : g_poacherlaw14_WaitTwo k c m w v = some true := by
  rw [g_poacherlaw14_WaitTwo, begin_u, ob_some, begin_u, ob_some]
  by_cases hl : (500 : Int) < m.length
  · rw [ltT hl]; rfl
  · rw [ltF (by omega), cond_false, beqI]
    by_cases hvw : v = w
    · rw [decide_eq_true hvw]; rfl
    · rw [decide_eq_false hvw, cond_false]
      simp only [Prod.eta]
      rw [c_Goes, ob_some]
      cases hg : goesB c m (5, 0, w, 0, 0, 0, 0) 5 5 with
      | false => rfl
      | true =>
        rw [Bool.not_true, cond_false, c_Goes, ob_some]
        cases hg2 : goesB c m (5, 0, v, 0, 0, 0, 0) 5 5 with
        | false => rfl
        | true =>
          have okw : OkB c m w := okB_of hg
          have okv : OkB c m v := okB_of hg2
          have hpw := okw.park
          have hpv := okv.park
          have hne := park_ne okv okw hvw
          have hmc := mayC_of okw.may
          have w1 := okw.low
          have w2 := okw.high
          have v1 := okv.low
          have v2 := okv.high
          rw [Bool.not_true, cond_false, c_Park, ob_some, c_Store (by omega), ob_some, c_Park, ob_some, c_Store (by rw [store_len]; omega), ob_some]
          generalize hp : parkC c w = p at hpw hne ⊢
          generalize hq : parkC c v = q at hpv hne ⊢
          have h1 : Wm (storeM (storeM m p 0) q 0) := (hm.set p (by decide) (by decide)).set q (by decide) (by decide)
          have l1 : (storeM (storeM m p 0) q 0).length = m.length := by rw [store_len, store_len]
          have o1 := (okw.store p 0).store q 0
          have u1 := (okv.store p 0).store q 0
          have lp : loadM (storeM (storeM m p 0) q 0) p = 0 := by rw [load_store_ne _ hne, load_store _ (by omega) (by omega)]
          have lq : loadM (storeM (storeM m p 0) q 0) q = 0 := by rw [load_store _ (by omega) (by rw [store_len]; omega)]
          have le : loadM (storeM (storeM m p 0) q 0) 2 = loadM m 2 := by rw [load_store_ne _ (by omega), load_store_ne _ (by omega)]
          generalize storeM (storeM m p 0) q 0 = m1 at h1 l1 o1 u1 lp lq le ⊢
          have he := load_rng hm 2
          generalize hE : loadM m 2 = e at he le
          have hse := set_rng (w := w) he.1 he.2
          have i1 : IntKind.i64.wrap (0 + 1) = 1 := by decide
          have i2 : IntKind.i64.wrap (1 + 1) = 2 := by decide
          have i3 : IntKind.i64.wrap (2 + 1) = 3 := by decide
          have i4 : IntKind.i64.wrap (3 + 1) = 4 := by decide
          have i5 : IntKind.i64.wrap (4 + 1) = 5 := by decide
          have f1 : ∀ k : Nat, k + 60 = (k + 59) + 1 := fun k => rfl
          have f2 : ∀ k : Nat, k + 59 = (k + 58) + 1 := fun k => rfl
          have f3 : ∀ k : Nat, k + 58 = (k + 57) + 1 := fun k => rfl
          have f4 : ∀ k : Nat, k + 57 = (k + 56) + 1 := fun k => rfl
          have f5 : ∀ k : Nat, k + 56 = (k + 55) + 1 := fun k => rfl
          have n3 : ((3 : Nat) : Int) = 3 := rfl
          have n5 : ((5 : Nat) : Int) = 5 := rfl
          rw [f1, g_poacherlaw14_WaitTwo_L0, ltT (by decide), cond_true]
          simp only [Prod.eta]
          rw [c_WStep c h1 (by omega) wf0, ob_some, wait0 o1, le]
          simp only []
          rw [c_WStep c h1 (by omega) wf0, ob_some, wait0 u1, le, i1]
          simp only []
          rw [f2, g_poacherlaw14_WaitTwo_L0, ltT (by decide), cond_true]
          simp only [Prod.eta]
          rw [c_WStep c h1 (by omega) ⟨by simp, he, by simp⟩, ob_some, wait1 o1, le, if_pos rfl]
          simp only []
          rw [c_WStep c h1 (by omega) ⟨by simp, he, by simp⟩, ob_some, wait1 u1, le, if_pos rfl, i2]
          simp only []
          rw [f3, g_poacherlaw14_WaitTwo_L0, ltT (by decide), cond_true]
          simp only [Prod.eta]
          rw [c_WStep c h1 (by omega) ⟨by simp, he, he⟩, ob_some, wait2 o1, le, if_pos rfl]
          simp only []
          have h2 : Wm (storeM m1 2 (setB e w)) := h1.set 2 hse.1 hse.2
          have l2 : (storeM m1 2 (setB e w)).length = m.length := by rw [store_len, l1]
          have o2 := o1.store 2 (setB e w)
          have u2 := u1.store 2 (setB e w)
          have x2 : loadM (storeM m1 2 (setB e w)) 2 = setB e w := load_store _ (by decide) (by omega)
          have lp2 : loadM (storeM m1 2 (setB e w)) p = 0 := by rw [load_store_ne _ (by omega), lp]
          have lq2 : loadM (storeM m1 2 (setB e w)) q = 0 := by rw [load_store_ne _ (by omega), lq]
          generalize storeM m1 2 (setB e w) = m2 at h2 l2 o2 u2 x2 lp2 lq2 ⊢
          rw [c_WStep c h2 (by omega) ⟨by simp, he, he⟩, ob_some, wait2 u2, x2, i3]
          by_cases hs : setB e w = e
          · rw [if_pos hs]
            simp only []
            have hsv := set_rng (w := v) he.1 he.2
            have h3 : Wm (storeM m2 2 (setB e v)) := h2.set 2 hsv.1 hsv.2
            have x3 : loadM (storeM m2 2 (setB e v)) 2 = setB e v := load_store _ (by decide) (by omega)
            have bw : hasB e w = true := by
              have := has_set he.1 he.2 w1 (by omega) w1
              rw [hs] at this
              rw [this]
              simp
            have := two_fin k c hm w v h3 (by rw [store_len]; omega) (o2.store 2 _) (u2.store 2 _) (by rw [hp, load_store_ne _ (by omega), lp2]) (by rw [hq, load_store_ne _ (by omega), lq2])
              (by rw [x3, has_set he.1 he.2 v1 (by omega) w1, bw]; simp) (by rw [x3, has_set he.1 he.2 v1 (by omega) v1]; simp) (by rw [x3, ep_set he.1 he.2 v1 (by omega), hE]) 9 3 (k + 57) e e e e he he he he (by omega) (by omega)
            exact this
          · rw [if_neg hs]
            simp only []
            rw [f4, g_poacherlaw14_WaitTwo_L0, ltT (by decide), cond_true]
            simp only [Prod.eta]
            rw [c_WStep c h2 (by omega) ⟨by simp, he, he⟩, ob_some, wait3 o2, hp, lp2, if_pos rfl]
            simp only []
            rw [c_WStep c h2 (by omega) ⟨by simp, he, he⟩, ob_some, wait1 u2, x2, if_pos (ep_set he.1 he.2 w1 (by omega)), i4]
            simp only []
            rw [f5, g_poacherlaw14_WaitTwo_L0, ltT (by decide), cond_true]
            simp only [Prod.eta]
            rw [c_WStep c h2 (by omega) ⟨by simp, he, by simp⟩, ob_some, wait3 o2, hp, lp2, if_pos rfl]
            simp only []
            rw [c_WStep c h2 (by omega) ⟨by simp, he, hse⟩, ob_some, wait2 u2, x2, if_pos rfl, i5]
            simp only []
            have hsv := set_rng (w := v) hse.1 hse.2
            have h3 : Wm (storeM m2 2 (setB (setB e w) v)) := h2.set 2 hsv.1 hsv.2
            have x3 : loadM (storeM m2 2 (setB (setB e w) v)) 2 = setB (setB e w) v := load_store _ (by decide) (by omega)
            have := two_fin k c hm w v h3 (by rw [store_len]; omega) (o2.store 2 _) (u2.store 2 _) (by rw [hp, load_store_ne _ (by omega), lp2]) (by rw [hq, load_store_ne _ (by omega), lq2])
              (by rw [x3, has_set hse.1 hse.2 v1 (by omega) w1, has_set he.1 he.2 w1 (by omega) w1]; simp) (by rw [x3, has_set hse.1 hse.2 v1 (by omega) v1]; simp) (by rw [x3, ep_set hse.1 hse.2 v1 (by omega), ep_set he.1 he.2 w1 (by omega), hE]) 7 5 (k + 55) e 0 e (setB e w) he (by simp) he hse (by omega) (by omega)
            exact this
theorem law_WTwo (k : Nat) (hk : 9223372036854779900 < k) (c : CF) (hc : confOk c) (m : List Int) (hm : Wm m) (w : Int) (hw : i64 w) (v : Int) (hv : i64 v) : xC k none 5 [.agg (confV c), .ro (m.map (intR .u64)), .lit (.int .i64 w), .lit (.int .i64 v)] = some (.lit (.bool true), []) := by
  obtain ⟨j, rfl⟩ : ∃ j, k = j + 61 := ⟨k - 61, by omega⟩
  obtain ⟨W, D, I, S⟩ := c
  rw [confV, h_poacherlaw14_WaitTwo, pure_WTwo j (by omega) _ hm w v]
  rfl
end Go.Ab
