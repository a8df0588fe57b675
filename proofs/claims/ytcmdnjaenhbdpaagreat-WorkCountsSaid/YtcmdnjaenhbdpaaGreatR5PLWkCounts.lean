/- WorkCounts. -/
import Derived.Test.YtcmdnjaenhbdpaaGreatR5PWk4
import Derived.Test.YtcmdnjaenhbdpaaGreatR5PWfs
import Derived.Test.YtcmdnjaenhbdpaaGreatR5GL4
set_option linter.unusedVariables false
set_option linter.unusedSimpArgs false
set_option linter.unusedVariables false
namespace Go.Ab
theorem count_loop (k : Nat) (c : CF) (t : List (Int × List Int)) (m : List Int) (w : Int) (x : WB) (d : Int) (a : List Int) (l : List EV) (sk : Int) (hl : l.length ≤ 1000) :
    ∀ (r : List EV) (q n : Nat) (p : Int) (b : Bool), l.drop q = r → q ≤ l.length → r.length < n →
    g_poacherlaw18_WorkCounts_L0 k c t m w x d n a l sk p b (q : Int) = g_poacherlaw18_WorkCounts_L0 k c t m w x d 1 a l sk (cntE r (p, b)).1 (cntE r (p, b)).2 (l.length : Int) := by
  intro r
  induction r with
  | nil =>
    intro q n p b hr hq hn
    obtain ⟨n, rfl⟩ := fuel hn
    have := drop_nil hr
    have e : q = l.length := by omega
    subst e
    conv => lhs; rw [g_poacherlaw18_WorkCounts_L0, lt_len, cond_false]
    conv => rhs; rw [g_poacherlaw18_WorkCounts_L0, lt_len, cond_false]
    rfl
  | cons v r ih =>
    intro q n p b hr hq hn
    obtain ⟨n, rfl⟩ := fuel hn
    obtain ⟨h0, h1, h2, _, h4⟩ := drop_cons hr
    have hn' : r.length < n := by simp only [List.length_cons] at hn; omega
    have i := fun p b => ih (q + 1) n p b h2 (by omega) hn'
    rw [g_poacherlaw18_WorkCounts_L0, ltN h0, cond_true]
    simp only [idx_of h1, ob_some]
    rw [wrapS (by omega), beqI, beqI, beqI]
    simp only [i, cntE]
    have fin : ∀ P : Int, (bif b then g_poacherlaw18_WorkCounts_L0 k c t m w x d 1 a l sk (cntE r (P, true)).1 (cntE r (P, true)).2 (l.length : Int) else g_poacherlaw18_WorkCounts_L0 k c t m w x d 1 a l sk (cntE r (P, decide (v.1 = 5))).1 (cntE r (P, decide (v.1 = 5))).2 (l.length : Int)) = g_poacherlaw18_WorkCounts_L0 k c t m w x d 1 a l sk (cntE r (P, b || decide (v.1 = 5))).1 (cntE r (P, b || decide (v.1 = 5))).2 (l.length : Int) := fun P => by
      cases b with
      | true => rw [cond_true, Bool.true_or]
      | false => rw [cond_false, Bool.false_or]
    by_cases e3 : v.1 = 3
    · rw [decide_eq_true e3, decide_eq_false (show ¬ v.1 = 4 by omega), cond_true, cond_false, if_pos e3]
      exact fin _
    · by_cases e4 : v.1 = 4
      · rw [decide_eq_false e3, decide_eq_true e4, cond_false, cond_true, if_neg e3, if_pos e4]
        exact fin _
      · rw [decide_eq_false e3, decide_eq_false e4, cond_false, cond_false, if_neg e3, if_neg e4]
        exact fin _
theorem seek_wrap {s : Int} (h0 : 0 ≤ s) (h1 : s ≤ 18446744073709551615) : IntKind.u64.wrap (IntKind.u64.wrap (s + 1) - 1) = s := by
  rw [wrap64u, wrap64u]
  omega
theorem key_part (k : Nat) (hk : 9223372036854779900 < k) (c : CF) (t : List (Int × List Int)) (m : List Int) (w : Int) (x : WB) (d : Int) (r : WR) (g2 : r.2.2.length ≤ 2) (g4 : loadM r.1 0 = (cntE r.2.2 (loadM m 0, false)).1 ∧ ((cntE r.2.2 (loadM m 0, false)).2 = true ↔ loadM m 0 = 1 ∧ (cntE r.2.2 (loadM m 0, false)).1 = 0)) : g_poacherlaw18_WorkCounts_L0 k c t m w x d (k + 60) r.1 r.2.2 (loadM r.1 1) (loadM m 0) false 0 = some true := by
  refine Eq.trans (count_loop k c t m w x d r.1 r.2.2 _ (by omega) r.2.2 0 (k + 60) (loadM m 0) false rfl (by omega) (by omega)) ?_
  rw [g_poacherlaw18_WorkCounts_L0, lt_len, cond_false, c_Load, ob_some, c_Load, ob_some, c_Load, ob_some, beqI, decide_eq_true rfl, cond_true, beqI, decide_eq_true g4.1, cond_true, beqI, beqI]
  generalize cntE r.2.2 (loadM m 0, false) = z at g4 ⊢
  by_cases h1 : loadM m 0 = 1
  · rw [decide_eq_true h1, cond_true]
    cases hz : z.2 with
    | true => rw [decide_eq_true (g4.2.1 hz).2]; rfl
    | false =>
      have : ¬ z.1 = 0 := fun e => by have := g4.2.2 ⟨h1, e⟩; rw [hz] at this; cases this
      rw [decide_eq_false this]
      rfl
  · rw [decide_eq_false h1, cond_false]
    cases hz : z.2 with
    | true => exact absurd (g4.2.1 hz).1 h1
    | false => rfl
theorem seek_tail (F : Int → Option Bool) (p q : Bool) {s : Int} (hs : 0 ≤ s ∧ s ≤ 18446744073709551615) (h : F (seekE p q s) = some true) :
    (bif p then (bif q then F (IntKind.u64.wrap (IntKind.u64.wrap (s + 1) - 1)) else F (IntKind.u64.wrap (s + 1))) else (bif q then F (IntKind.u64.wrap (s - 1)) else F s)) = some true := by
  cases p <;> cases q
  · exact h
  · exact h
  · exact h
  · show F (IntKind.u64.wrap (IntKind.u64.wrap (s + 1) - 1)) = some true
    rw [seek_wrap hs.1 hs.2]
    exact h
theorem pure_WkCounts (k : Nat) (hk : 9223372036854779900 < k) (c : CF) {t : List (Int × List Int)} (ht : Wt t) {m : List Int} (hm : Wm m) (w : Int) (x : WB) (hf : Wf x.2.2.1) (hsp : x.2.2.2.1 ≤ 9223372036854775807) (d : Int) (hd : 0 ≤ d ∧ d ≤ 18446744073709551615) : g_poacherlaw18_WorkCounts k c t m w x d = some true := by
  unfold g_poacherlaw18_WorkCounts
  simp only [Prod.eta]
  rw [c_WkFew (by omega) ht x, ob_some]
  cases hfew : (fewB t && decide ((x.2.1.length : Int) ≤ 40)) with
  | false => rfl
  | true =>
    obtain ⟨htl, hsl⟩ := few_w hfew
    rw [Bool.not_true, cond_false]
    by_cases h500 : (500 : Int) < m.length
    · rw [ltT h500, cond_true]
    rw [ltF (by omega), cond_false, c_WkMay (by omega) c ht m w x (by omega), ob_some]
    cases hmay : mayWB c t m w x with
    | false => rfl
    | true =>
      have hb := mayW_of hmay
      have hsz := size_low hb.1
      have hl2 : 2 ≤ m.length := by omega
      rw [Bool.not_true, cond_false, c_WkStep (by omega) c ht hm (by omega) w hf (by omega) hsp hd, ob_some, c_Load, ob_some, c_Load, ob_some, c_WkSeeks (by omega), ob_some]
      simp only [c_WkSeeks (k := k + 57) (by omega) x, c_Load]
      have g2 := work_evs (c := c) (t := t) (m := m) (w := w) (x := x) (d := d)
      have g3 := work_seek (c := c) (t := t) (m := m) (w := w) (x := x) (d := d) hm hl2 hf
      have g4 := work_pend (c := c) (t := t) (m := m) (w := w) (x := x) (d := d) hm hl2 hf
      have hr1 := load_rng hm 1
      generalize workB c t m w x d = r at g2 g3 g4 ⊢
      have key := key_part k hk c t m w x d r g2 g4
      rw [g3] at key
      simp -implicitDefEqProofs only [ob_some]
      have h9 := seek_tail (fun sk => g_poacherlaw18_WorkCounts_L0 k c t m w x d (k + 60) r.1 r.2.2 sk (loadM m 0) false 0) _ _ hr1 key
      exact h9
theorem law_WkCounts (k : Nat) (hk : 9223372036854779990 < k) (c : CF) (hc : confOk c) (t : List (Int × List Int)) (ht : Wt t) (m : List Int) (hm : Wm m) (w : Int) (hw : i64 w) (x : WB) (hx : workOk x) (d : Int) (hd : u64 d) :
    xC k none 4 [.agg (confV c), tasksV t, .ro (m.map (intR .u64)), .lit (.int .i64 w), .agg (workV x), .lit (.int .u64 d)] = some (.lit (.bool true), []) := by
  obtain ⟨j, rfl⟩ : ∃ j, k = j + 61 := ⟨k - 61, by omega⟩
  have hf := hx.2.2.2.1
  have h := pure_WkCounts j (by omega) c ht hm w x ⟨u64_of hf.2.2.2.1, u64_of hf.2.2.2.2.1, u64_of hf.2.2.2.2.2.1⟩ (by have := i64_of hx.2.2.2.2.1; omega) d (u64_of hd)
  obtain ⟨W, D, I, S⟩ := c
  obtain ⟨pc, st, ⟨a0, a1, a2, a3, a4, a5, a6⟩, sp, lk⟩ := x
  rw [confV, workV, tasksV, h_poacherlaw18_WorkCounts, h]
  rfl
end Go.Ab
