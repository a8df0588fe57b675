/- NoteOne: the law's word. -/
import Derived.Test.YthnifkacfonhgaaR2GL11
import Derived.Test.YthnifkacfonhgaaR2PNA
set_option linter.unusedVariables false
namespace Go.Ab
theorem waits_is {c : CF} {m : List Int} {w : Int} (ok : OkB c m w) (hm : Wm m) : waitsB c m w = hasB (loadM m 2) w := by
  have hr := load_rng hm 2
  have hmc := mayC_of ok.may
  have h1 := ok.low
  have h2 := ok.high
  unfold waitsB
  rw [ok.may, decide_eq_true ⟨ok.len, ok.low, ok.high⟩, has_mask hr.1 h1 (by omega)]
  rfl
theorem has_t {x w : Int} (h0 : 0 ≤ x) (h1 : x ≤ 18446744073709551615) : ((IntKind.u64.wrap (x.tdiv (2 ^ w.toNat))).tmod 2 == 1) = hasB x w := by
  have hd := div_rng (w := w) h0 h1
  rw [Int.tdiv_eq_ediv_of_nonneg h0, wrapU hd.1 hd.2, Int.tmod_eq_emod_of_nonneg hd.1, beqI, hasB]
theorem ep_pack' (E M : Int) : epB (packB E M) = E % 281474976710656 := by unfold epB packB; omega
theorem mk_pack (E M : Int) : mkB (packB E M) = M % 65536 := by unfold mkB packB; omega
structure OneF (c : CF) (m m' : List Int) (f' : FR) (w : Int) (op : Int) : Prop where
  hE : (epB (loadM m' 2) == (IntKind.u64.wrap (epB (loadM m 2) + 1)).tmod 281474976710656) = true
  hR : ((f'.2.2.2.2.2.2 == 3) == (mkB (loadM m 2) == 0)) = true
  hN : g_wait_Waits c m' w = some (hasB (mkB (loadM m 2)) w && decide (op ≠ 7 ∧ w ≠ lowB (mkB (loadM m 2))))
  hM : g_wait_Waits c m w = some (hasB (mkB (loadM m 2)) w)
  hP : (loadM m' (parkC c w) == 1) = (hasB (mkB (loadM m 2)) w && decide (op = 7 ∨ lowB (mkB (loadM m 2)) = w))
  hO : overB f' = true
  wm : Wm m'
  len : m'.length = m.length
theorem one_of {c : CF} {m : List Int} {w op : Int} (hm : Wm m) (ok : OkB c m w) (hop : op = 6 ∨ op = 7) (hp : loadM m (parkC c w) = 0) : ∃ m' f', aloneF c 20 (m, (op, 0, 0, 0, 0, 0, 0)) = (m', f') ∧ OneF c m m' f' w op := by
  have hr := load_rng hm 2
  have he := ep_rng hr.1 hr.2
  have hk := mk_rng hr.1
  have hc := clr_rng hk.1 hk.2
  have hmc := mayC_of ok.may
  have hw0 := ok.low
  have hw1 := ok.high
  obtain ⟨m', f', a1, a2, a3, a4, a5, a6, a7⟩ := alone_law hm ok.may ok.len hop
  have ok' : OkB c m' w := ⟨ok.may, by rw [a3]; exact ok.len, hw0, hw1⟩
  have h7 := a7 w hw0 hw1 hp
  refine ⟨m', f', a1, ?_, ?_, ?_, ?_, ?_, a5, a2, a3⟩
  · rw [wrapU (by omega) (by omega), Int.tmod_eq_emod_of_nonneg (by omega), a4, beqI, decide_eq_true]
    split
    · unfold bumpB; rw [ep_pack']
    · unfold wipeB; rw [ep_pack']
  · by_cases h : mkB (loadM m 2) = 0
    · rw [a6.2 h, h]; rfl
    · have h3 : ¬ f'.2.2.2.2.2.2 = 3 := fun e => h (a6.1 e)
      rw [beqI, beqI (mkB _), decide_eq_false h3, decide_eq_false h]
      rfl
  · rw [c_Waits c a2, waits_is ok' a2, a4]
    rcases hop with rfl | rfl
    · rw [if_pos rfl]
      have hpr := pack_rng (epB (loadM m 2) + 1) (clrB (mkB (loadM m 2)))
      unfold bumpB
      rw [← has_mask hpr.1 hw0 (by omega), mk_pack]
      have : clrB (mkB (loadM m 2)) % 65536 = clrB (mkB (loadM m 2)) := by omega
      rw [this, has_clr hk.1 hk.2 hw0 (by omega)]
      simp
    · rw [if_neg (by decide)]
      have hpr := pack_rng (epB (loadM m 2) + 1) 0
      unfold wipeB
      rw [← has_mask hpr.1 hw0 (by omega), mk_pack]
      have h00 : hasB 0 w = false := by
        have := has_nat 0 (w := w) hw0
        rw [Nat.zero_testBit] at this
        exact this
      have e0 : (0 : Int) % 65536 = 0 := by decide
      rw [e0, h00]
      simp
  · rw [c_Waits c hm, waits_is ok hm, has_mask hr.1 hw0 (by omega)]
  · rw [beqI]
    by_cases x3 : loadM m' (parkC c w) = 1
    · obtain ⟨y1, y2⟩ := h7.1 x3
      rw [decide_eq_true x3, y1, decide_eq_true y2]
      rfl
    · rw [decide_eq_false x3]
      cases hb : hasB (mkB (loadM m 2)) w with
      | false => rfl
      | true =>
        have y3 : ¬ (op = 7 ∨ lowB (mkB (loadM m 2)) = w) := fun h => x3 (h7.2 ⟨hb, h⟩)
        rw [decide_eq_false y3]
        rfl
theorem pure_NOne (k : Nat) (hk : 2000 ≤ k) (c : CF) {m : List Int} (hm : Wm m) (all : Bool) (w : Int) : g_poacherlaw15_NoteOne k c m all w = some true := by
  rw [g_poacherlaw15_NoteOne]
  cases all with
  | true =>
    rw [cond_true, begin_u, ob_some]
    by_cases hl : (500 : Int) < m.length
    · rw [ltT hl]; rfl
    · rw [ltF (by omega), cond_false]
      simp only [Prod.eta]
      rw [c_NGoes, ob_some]
      cases hg : ngoesB c m (7, 0, 0, 0, 0, 0, 0) with
      | false => rfl
      | true =>
        rw [Bool.not_true, cond_false]
        by_cases h1 : w < 0
        · rw [ltT h1]; rfl
        · rw [ltF (by omega), cond_false]
          by_cases h2 : c.1 ≤ w
          · rw [leT h2]; rfl
          · rw [leF (by omega), cond_false]
            by_cases h3 : 7 < w
            · rw [ltT h3]; rfl
            · rw [ltF (by omega), cond_false, c_Park, ob_some, c_Store (by omega), ob_some]
              unfold ngoesB at hg
              rw [Bool.and_eq_true, Bool.and_eq_true, Bool.and_eq_true, decide_eq_true_eq, decide_eq_true_eq, decide_eq_true_eq] at hg
              have ok : OkB c m w := ⟨hg.1.1.2, hg.1.2, by omega, by omega⟩
              have hpk := ok.park
              have h1m : Wm (storeM m (parkC c w) 0) := hm.set _ (by decide) (by decide)
              have l1 : (storeM m (parkC c w) 0).length = m.length := store_len
              have ok1 := ok.store (parkC c w) 0
              have p1 : loadM (storeM m (parkC c w) 0) (parkC c w) = 0 := load_store 0 (by omega) hpk.2.2
              generalize storeM m (parkC c w) 0 = m1 at h1m l1 ok1 p1 ⊢
              have hr := load_rng h1m 2
              have hkk := mk_rng hr.1
              obtain ⟨m', f', a1, o⟩ := one_of h1m ok1 (.inr rfl) p1
              have hr' := load_rng o.wm 2
              have hpw := shl_u (w := w) (by omega) (by omega)
              have hp0 : (0 : Int) < 2 ^ w.toNat := Int.pow_pos (by decide)
              rw [c_Load, ob_some, c_Mask hr.1 hr.2, ob_some, c_alone (by omega) c h1m (by omega) wf0, ob_some, a1, ob_some]
              simp only []
              rw [c_Load, ob_some, leT (by omega), cond_true, hpw, bneI, decide_eq_false (by omega), Bool.not_false, cond_true, has_t hkk.1 (by omega)]
              cases hb : hasB (mkB (loadM m1 2)) w with
              | true =>
                simp only [cond_true]
                rw [c_Load, ob_some, c_Epoch hr'.1, ob_some, ob_some, c_Epoch hr.1, ob_some, o.hE, cond_true, o.hP, hb]
                simp only [Bool.true_and, decide_eq_true (Or.inl rfl : (7 : Int) = 7 ∨ lowB (mkB (loadM m1 2)) = w), beq_self_eq_true, cond_true]
                rw [o.hR, cond_true, c_Over, ob_some, o.hO, cond_true, o.hN, ob_some, hb]
                simp
              | false =>
                simp only [cond_false]
                rw [c_Load, ob_some, c_Epoch hr'.1, ob_some, ob_some, c_Epoch hr.1, ob_some, o.hE, cond_true, o.hP, hb]
                simp only [Bool.false_and, beq_self_eq_true, cond_true]
                rw [o.hR, cond_true, c_Over, ob_some, o.hO, cond_true]
  | false =>
    rw [cond_false, begin_u, ob_some]
    by_cases hl : (500 : Int) < m.length
    · rw [ltT hl]; rfl
    · rw [ltF (by omega), cond_false]
      simp only [Prod.eta]
      rw [c_NGoes, ob_some]
      cases hg : ngoesB c m (6, 0, 0, 0, 0, 0, 0) with
      | false => rfl
      | true =>
        rw [Bool.not_true, cond_false]
        by_cases h1 : w < 0
        · rw [ltT h1]; rfl
        · rw [ltF (by omega), cond_false]
          by_cases h2 : c.1 ≤ w
          · rw [leT h2]; rfl
          · rw [leF (by omega), cond_false]
            by_cases h3 : 7 < w
            · rw [ltT h3]; rfl
            · rw [ltF (by omega), cond_false, c_Park, ob_some, c_Store (by omega), ob_some]
              unfold ngoesB at hg
              rw [Bool.and_eq_true, Bool.and_eq_true, Bool.and_eq_true, decide_eq_true_eq, decide_eq_true_eq, decide_eq_true_eq] at hg
              have ok : OkB c m w := ⟨hg.1.1.2, hg.1.2, by omega, by omega⟩
              have hpk := ok.park
              have h1m : Wm (storeM m (parkC c w) 0) := hm.set _ (by decide) (by decide)
              have l1 : (storeM m (parkC c w) 0).length = m.length := store_len
              have ok1 := ok.store (parkC c w) 0
              have p1 : loadM (storeM m (parkC c w) 0) (parkC c w) = 0 := load_store 0 (by omega) hpk.2.2
              generalize storeM m (parkC c w) 0 = m1 at h1m l1 ok1 p1 ⊢
              have hr := load_rng h1m 2
              have hkk := mk_rng hr.1
              obtain ⟨m', f', a1, o⟩ := one_of h1m ok1 (.inl rfl) p1
              have hr' := load_rng o.wm 2
              have hpw := shl_u (w := w) (by omega) (by omega)
              have hp0 : (0 : Int) < 2 ^ w.toNat := Int.pow_pos (by decide)
              have n7 : ¬ ((6 : Int) = 7) := by decide
              rw [c_Load, ob_some, c_Mask hr.1 hr.2, ob_some, c_alone (by omega) c h1m (by omega) wf0, ob_some, a1, ob_some]
              simp only []
              rw [c_Load, ob_some, leT (by omega), cond_true, hpw, bneI, decide_eq_false (by omega), Bool.not_false, cond_true, has_t hkk.1 (by omega)]
              cases hb : hasB (mkB (loadM m1 2)) w with
              | true =>
                simp only [cond_true, cond_false]
                rw [c_Lowest (by omega) hkk.1 (by omega), ob_some, c_Load, ob_some, c_Epoch hr'.1, ob_some, ob_some, c_Epoch hr.1, ob_some, o.hE, cond_true, o.hP, hb, beqI (lowB _)]
                by_cases hlw : lowB (mkB (loadM m1 2)) = w
                · rw [decide_eq_true hlw, decide_eq_true (Or.inr hlw)]
                  simp only [Bool.true_and, beq_self_eq_true, cond_true]
                  rw [o.hR, cond_true, c_Over, ob_some, o.hO, cond_true, o.hN, ob_some, hb]
                  simp [hlw]
                · rw [decide_eq_false hlw, decide_eq_false (show ¬ ((6 : Int) = 7 ∨ lowB (mkB (loadM m1 2)) = w) from fun h => h.elim n7 hlw)]
                  simp only [Bool.and_false, beq_self_eq_true, cond_true]
                  rw [o.hR, cond_true, c_Over, ob_some, o.hO, cond_true]
                  have h5 : w ≠ lowB (mkB (loadM m1 2)) := fun e => hlw e.symm
                  simp [o.hN, o.hM, hb, h5, ob_some]
              | false =>
                simp only [cond_false]
                rw [c_Load, ob_some, c_Epoch hr'.1, ob_some, ob_some, c_Epoch hr.1, ob_some, o.hE, cond_true, o.hP, hb]
                simp only [Bool.false_and, beq_self_eq_true, cond_true]
                rw [o.hR, cond_true, c_Over, ob_some, o.hO, cond_true]
                simp [o.hN, o.hM, hb, ob_some]
theorem law_NOne (k : Nat) (hk : 9223372036854779900 < k) (c : CF) (hc : confOk c) (m : List Int) (hm : Wm m) (all : Bool) (w : Int) (hw : i64 w) : xC k none 11 [.agg (confV c), .ro (m.map (intR .u64)), .lit (.bool all), .lit (.int .i64 w)] = some (.lit (.bool true), []) := by
  obtain ⟨j, rfl⟩ : ∃ j, k = j + 61 := ⟨k - 61, by omega⟩
  obtain ⟨W, D, I, S⟩ := c
  rw [confV, h_poacherlaw15_NoteOne, pure_NOne j (by omega) _ hm all w]
  rfl
end Go.Ab
