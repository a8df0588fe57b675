/- WorkCell. -/
import Derived.Test.YtcmdnjaenhbdpaaGreatR5PWk3
import Derived.Test.YtcmdnjaenhbdpaaGreatR5PWfs
import Derived.Test.YtcmdnjaenhbdpaaGreatR5GL3
set_option linter.unusedVariables false
set_option linter.unusedSimpArgs false
set_option linter.unusedVariables false
namespace Go.Ab
def cntD : List Int → List Int → Nat
  | a :: l, b :: l' => (if a = b then 0 else 1) + cntD l l'
  | _, _ => 0
theorem cnt_same : ∀ l : List Int, cntD l l = 0
  | [] => rfl
  | a :: l => by rw [cntD, if_pos rfl, cnt_same l]
theorem cnt_set : ∀ (l : List Int) (j : Nat) (v : Int), cntD (l.set j v) l ≤ 1
  | [], _, _ => by simp [cntD]
  | a :: l, 0, v => by
    rw [List.set_cons_zero, cntD, cnt_same]
    split <;> omega
  | a :: l, j + 1, v => by
    rw [List.set_cons_succ, cntD, if_pos rfl, Nat.zero_add]
    exact cnt_set l j v
theorem cnt_one {m m' : List Int} (h : One m m') : cntD m' m ≤ 1 := by
  obtain ⟨j, v, rfl⟩ := h
  unfold storeM
  split
  · exact cnt_set m _ v
  · rw [cnt_same]; omega
theorem cell_loop (k : Nat) (c : CF) (t : List (Int × List Int)) (m : List Int) (w : Int) (x : WB) (d0 : Int) (m' : List Int) (l : List EV) (y : WB) (hlen : m'.length = m.length) (hl : m.length ≤ 1000) :
    ∀ (r : List Int) (q n d : Nat), m.drop q = r → q ≤ m.length → r.length < n → d ≤ q →
    g_poacherlaw18_WorkCell_L0 k c t m w x d0 n m' l y.1 y.2.1 y.2.2.1.1 y.2.2.1.2.1 y.2.2.1.2.2.1 y.2.2.1.2.2.2.1 y.2.2.1.2.2.2.2.1 y.2.2.1.2.2.2.2.2.1 y.2.2.1.2.2.2.2.2.2 y.2.2.2.1 y.2.2.2.2 (d : Int) (q : Int) =
    g_poacherlaw18_WorkCell_L0 k c t m w x d0 1 m' l y.1 y.2.1 y.2.2.1.1 y.2.2.1.2.1 y.2.2.1.2.2.1 y.2.2.1.2.2.2.1 y.2.2.1.2.2.2.2.1 y.2.2.1.2.2.2.2.2.1 y.2.2.1.2.2.2.2.2.2 y.2.2.2.1 y.2.2.2.2 ((d + cntD (m'.drop q) r : Nat) : Int) (m.length : Int) := by
  intro r
  induction r with
  | nil =>
    intro q n d hr hq hn hd
    obtain ⟨n, rfl⟩ := fuel hn
    have := drop_nil hr
    have e : q = m.length := by omega
    subst e
    have e0 : cntD (m'.drop m.length) [] = 0 := by cases m'.drop m.length <;> rfl
    rw [e0, Nat.add_zero]
    conv => lhs; rw [g_poacherlaw18_WorkCell_L0, lt_len, cond_false]
    conv => rhs; rw [g_poacherlaw18_WorkCell_L0, lt_len, cond_false]
    rfl
  | cons v r ih =>
    intro q n d hr hq hn hd
    obtain ⟨n, rfl⟩ := fuel hn
    obtain ⟨h0, h1, h2, _, h4⟩ := drop_cons hr
    have hq' : q < m'.length := by omega
    have e1 : m'[q]? = some m'[q] := List.getElem?_eq_getElem hq'
    have e2 : m'.drop q = m'[q] :: m'.drop (q + 1) := List.drop_eq_getElem_cons hq'
    rw [g_poacherlaw18_WorkCell_L0, ltN h0, cond_true, idx_of e1, ob_some, idx_of h1, ob_some, bneI, wrapS (by omega), wrapS (by omega), e2, cntD]
    by_cases h : m'[q] = v
    · rw [decide_eq_true h, Bool.not_true, cond_false, ih (q + 1) n d h2 (by omega) (by simp only [List.length_cons] at hn; omega) (by omega), if_pos h, Nat.zero_add]
    · rw [decide_eq_false h, Bool.not_false, cond_true, ih (q + 1) n (d + 1) h2 (by omega) (by simp only [List.length_cons] at hn; omega) (by omega), if_neg h, Nat.add_assoc]
theorem pure_WkCell (k : Nat) (hk : 9223372036854779900 < k) (c : CF) {t : List (Int × List Int)} (ht : Wt t) {m : List Int} (hm : Wm m) (w : Int) (x : WB) (hf : Wf x.2.2.1) (hsp : x.2.2.2.1 ≤ 9223372036854775807) (d : Int) (hd : 0 ≤ d ∧ d ≤ 18446744073709551615) : g_poacherlaw18_WorkCell k c t m w x d = some true := by
  unfold g_poacherlaw18_WorkCell
  simp only [Prod.eta]
  rw [c_WkFew (by omega) ht x, ob_some]
  cases hfew : (fewB t && decide ((x.2.1.length : Int) ≤ 40)) with
  | false => rfl
  | true =>
    obtain ⟨htl, hsl⟩ := few_w hfew
    rw [Bool.not_true, cond_false]
    by_cases h500 : (500 : Int) < m.length
    · rw [ltT h500, cond_true]
    rw [ltF (by omega), cond_false, c_WkStep (by omega) c ht hm (by omega) w hf (by omega) hsp hd, ob_some]
    have g0 := work_one (c := c) (t := t) (m := m) (w := w) (x := x) (d := d)
    have g1 := g0.len
    have g2 := work_evs (c := c) (t := t) (m := m) (w := w) (x := x) (d := d)
    have g3 := work_slen (c := c) (t := t) (m := m) (w := w) (x := x) (d := d)
    have g4 := cnt_one g0
    have g5 := fun h => work_may (c := c) (t := t) (m := m) (w := w) (x := x) (d := d) h
    have g6 := fun h => work_stay (c := c) (t := t) (m := m) (w := w) (x := x) (d := d) h
    generalize workB c t m w x d = r at g0 g1 g2 g3 g4 g5 g6 ⊢
    rw [bneI, decide_eq_true (by rw [g1]), Bool.not_true, cond_false, ltF (by omega), cond_false]
    refine Eq.trans (cell_loop k c t m w x d r.1 r.2.2 r.2.1 g1 (by omega) m 0 (k + 60) 0 rfl (by omega) (by omega) (by omega)) ?_
    rw [List.drop_zero, Nat.zero_add, g_poacherlaw18_WorkCell_L0, lt_len, cond_false]
    simp only [Prod.eta]
    rw [c_WkMay (by omega) c ht m w x (by omega), ob_some, leT (by omega), cond_true]
    cases hmay : mayWB c t m w x with
    | true =>
      rw [cond_true, c_WkMay (by omega) c ht r.1 w r.2.1 (by omega), ob_some, g5 hmay, cond_true]
    | false =>
      have e := g6 hmay
      subst e
      obtain ⟨b, s1, s2⟩ := c_WkSame (k := k + 57) (by omega) x x (by omega)
      dsimp only
      rw [cnt_same, cond_false, Bool.not_false, cond_true, s1, s2.2 rfl]
      rfl
theorem law_WkCell (k : Nat) (hk : 9223372036854779990 < k) (c : CF) (hc : confOk c) (t : List (Int × List Int)) (ht : Wt t) (m : List Int) (hm : Wm m) (w : Int) (hw : i64 w) (x : WB) (hx : workOk x) (d : Int) (hd : u64 d) :
    xC k none 3 [.agg (confV c), tasksV t, .ro (m.map (intR .u64)), .lit (.int .i64 w), .agg (workV x), .lit (.int .u64 d)] = some (.lit (.bool true), []) := by
  obtain ⟨j, rfl⟩ : ∃ j, k = j + 61 := ⟨k - 61, by omega⟩
  have hf := hx.2.2.2.1
  have h := pure_WkCell j (by omega) c ht hm w x ⟨u64_of hf.2.2.2.1, u64_of hf.2.2.2.2.1, u64_of hf.2.2.2.2.2.1⟩ (by have := i64_of hx.2.2.2.2.1; omega) d (u64_of hd)
  obtain ⟨W, D, I, S⟩ := c
  obtain ⟨pc, st, ⟨a0, a1, a2, a3, a4, a5, a6⟩, sp, lk⟩ := x
  rw [confV, workV, tasksV, h_poacherlaw18_WorkCell, h]
  rfl
end Go.Ab
