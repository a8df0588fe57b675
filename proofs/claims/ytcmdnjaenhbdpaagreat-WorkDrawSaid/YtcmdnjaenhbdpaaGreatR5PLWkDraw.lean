/- WorkDraw. -/
import Derived.Test.YtcmdnjaenhbdpaaGreatR5PWk3
import Derived.Test.YtcmdnjaenhbdpaaGreatR5PWfs
import Derived.Test.YtcmdnjaenhbdpaaGreatR5GL5
set_option linter.unusedVariables false
set_option linter.unusedSimpArgs false
set_option linter.unusedVariables false
namespace Go.Ab
theorem draw_loop (k : Nat) (c : CF) (t : List (Int × List Int)) (m : List Int) (w : Int) (x : WB) (d e : Int) (a : List Int) (l l' : List EV) (y z : WB) (hl : a.length ≤ 1000) : ∀ (r : List Int) (q n : Nat), a.drop q = r → q ≤ a.length → r.length < n →
    g_poacherlaw18_WorkDraw_L0 k c t m w x d e n a l a l' y.1 y.2.1 y.2.2.1.1 y.2.2.1.2.1 y.2.2.1.2.2.1 y.2.2.1.2.2.2.1 y.2.2.1.2.2.2.2.1 y.2.2.1.2.2.2.2.2.1 y.2.2.1.2.2.2.2.2.2 y.2.2.2.1 y.2.2.2.2 z.1 z.2.1 z.2.2.1.1 z.2.2.1.2.1 z.2.2.1.2.2.1 z.2.2.1.2.2.2.1 z.2.2.1.2.2.2.2.1 z.2.2.1.2.2.2.2.2.1 z.2.2.1.2.2.2.2.2.2 z.2.2.2.1 z.2.2.2.2 (q : Int) =
    g_poacherlaw18_WorkDraw_L0 k c t m w x d e 1 a l a l' y.1 y.2.1 y.2.2.1.1 y.2.2.1.2.1 y.2.2.1.2.2.1 y.2.2.1.2.2.2.1 y.2.2.1.2.2.2.2.1 y.2.2.1.2.2.2.2.2.1 y.2.2.1.2.2.2.2.2.2 y.2.2.2.1 y.2.2.2.2 z.1 z.2.1 z.2.2.1.1 z.2.2.1.2.1 z.2.2.1.2.2.1 z.2.2.1.2.2.2.1 z.2.2.1.2.2.2.2.1 z.2.2.1.2.2.2.2.2.1 z.2.2.1.2.2.2.2.2.2 z.2.2.2.1 z.2.2.2.2 (a.length : Int) := by
  intro r
  induction r with
  | nil =>
    intro q n hr hq hn
    obtain ⟨n, rfl⟩ := fuel hn
    have := drop_nil hr
    have e : q = a.length := by omega
    subst e
    conv => lhs; rw [g_poacherlaw18_WorkDraw_L0, lt_len, cond_false]
    conv => rhs; rw [g_poacherlaw18_WorkDraw_L0, lt_len, cond_false]
  | cons v r ih =>
    intro q n hr hq hn
    obtain ⟨n, rfl⟩ := fuel hn
    obtain ⟨h0, h1, h2, _, h4⟩ := drop_cons hr
    rw [g_poacherlaw18_WorkDraw_L0, ltN h0, cond_true, idx_of h1, ob_some, ob_some, bneI, decide_eq_true rfl, Bool.not_true, cond_false, wrapS (by omega), ih (q + 1) n h2 (by omega) (by simp only [List.length_cons] at hn; omega)]
theorem pure_WkDraw (k : Nat) (hk : 9223372036854779900 < k) (c : CF) {t : List (Int × List Int)} (ht : Wt t) {m : List Int} (hm : Wm m) (w : Int) (x : WB) (hf : Wf x.2.2.1) (hsp : x.2.2.2.1 ≤ 9223372036854775807) (d : Int) (hd : 0 ≤ d ∧ d ≤ 18446744073709551615) (e : Int) (he : 0 ≤ e ∧ e ≤ 18446744073709551615) : g_poacherlaw18_WorkDraw k c t m w x d e = some true := by
  unfold g_poacherlaw18_WorkDraw
  simp only [Prod.eta]
  rw [c_WkFew (by omega) ht x, ob_some]
  cases hfew : (fewB t && decide ((x.2.1.length : Int) ≤ 40)) with
  | false => rfl
  | true =>
    obtain ⟨htl, hsl⟩ := few_w hfew
    rw [Bool.not_true, cond_false]
    by_cases h500 : (500 : Int) < m.length
    · rw [ltT h500, cond_true]
    rw [ltF (by omega), cond_false, c_WkStep (by omega) c ht hm (by omega) w hf (by omega) hsp hd, ob_some, c_WkStep (by omega) c ht hm (by omega) w hf (by omega) hsp he, ob_some]
    rcases work_draw (c := c) (t := t) (m := m) (w := w) (x := x) (d := d) (e := e) with h | ⟨hp, hv, hv', hne, a, ha, h1, h2⟩
    · have g1 := (work_one (c := c) (t := t) (m := m) (w := w) (x := x) (d := d)).len
      have g2 := work_evs (c := c) (t := t) (m := m) (w := w) (x := x) (d := d)
      have g3 := work_slen (c := c) (t := t) (m := m) (w := w) (x := x) (d := d)
      rw [h]
      generalize workB c t m w x d = r at g1 g2 g3 ⊢
      have := draw_loop k c t m w x d e r.1 r.2.2 r.2.2 r.2.1 r.2.1 (by omega) r.1 0 (k + 60) rfl (by omega) (by omega)
      rw [bneI, decide_eq_true rfl, Bool.not_true, cond_false]
      refine Eq.trans this ?_
      obtain ⟨b, s1, s2⟩ := c_WkSame (k := k + 57) (by omega) r.2.1 r.2.1 (by omega)
      rw [g_poacherlaw18_WorkDraw_L0, lt_len, cond_false, c_WkEvs (by omega) g2, ob_some]
      simp only [Prod.eta]
      rw [s1, ob_some, s2.2 rfl]
      rfl
    · rw [h1, h2]
      have := draw_loop k c t m w x d e a [] [] (withW 3 2 (victB d w c.1) 0 x) (withW 3 2 (victB e w c.1) 0 x) (by omega) a 0 (k + 60) rfl (by omega) (by omega)
      rw [bneI, decide_eq_true rfl, Bool.not_true, cond_false]
      refine Eq.trans this ?_
      obtain ⟨b, s1, s2⟩ := c_WkSame (k := k + 57) (by omega) (withW 3 2 (victB d w c.1) 0 x) (withW 3 2 (victB e w c.1) 0 x) (by show x.2.1.length ≤ 1000; omega)
      have hb : b = false := by
        cases b with
        | false => rfl
        | true =>
          have := s2.1 rfl
          simp only [withW, begF, Prod.mk.injEq] at this
          exact absurd this.2.2.1.2.2.1 hne
      rw [g_poacherlaw18_WorkDraw_L0, lt_len, cond_false, c_WkEvs (by omega) (by simp), ob_some]
      simp only [Prod.eta]
      rw [s1, ob_some, hb]
      have n1 := vict_ne hv
      have n2 := vict_ne hv'
      have m1 : (victB d w c.1 != w) = true := by rw [bneI, decide_eq_false n1]; rfl
      have m2 : (victB e w c.1 != w) = true := by rw [bneI, decide_eq_false n2]; rfl
      have m3 : (victB d w c.1 != victB e w c.1) = true := by rw [bneI, decide_eq_false hne]; rfl
      simp only [withW, begF, hp, m1, m2, m3]
      rfl
theorem law_WkDraw (k : Nat) (hk : 9223372036854779990 < k) (c : CF) (hc : confOk c) (t : List (Int × List Int)) (ht : Wt t) (m : List Int) (hm : Wm m) (w : Int) (hw : i64 w) (x : WB) (hx : workOk x) (d : Int) (hd : u64 d) (e : Int) (he : u64 e) :
    xC k none 5 [.agg (confV c), tasksV t, .ro (m.map (intR .u64)), .lit (.int .i64 w), .agg (workV x), .lit (.int .u64 d), .lit (.int .u64 e)] = some (.lit (.bool true), []) := by
  obtain ⟨j, rfl⟩ : ∃ j, k = j + 61 := ⟨k - 61, by omega⟩
  have hf := hx.2.2.2.1
  have h := pure_WkDraw j (by omega) c ht hm w x ⟨u64_of hf.2.2.2.1, u64_of hf.2.2.2.2.1, u64_of hf.2.2.2.2.2.1⟩ (by have := i64_of hx.2.2.2.2.1; omega) d (u64_of hd) e (u64_of he)
  obtain ⟨W, D, I, S⟩ := c
  obtain ⟨pc, st, ⟨a0, a1, a2, a3, a4, a5, a6⟩, sp, lk⟩ := x
  rw [confV, workV, tasksV, h_poacherlaw18_WorkDraw, h]
  rfl
end Go.Ab
