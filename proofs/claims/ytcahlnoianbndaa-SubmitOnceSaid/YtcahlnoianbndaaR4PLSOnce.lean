/- SubmitOnce. -/
import Derived.Test.YtcahlnoianbndaaR4PR
import Derived.Test.YtcahlnoianbndaaR4PWf5
import Derived.Test.YtcahlnoianbndaaR4GL3
set_option linter.unusedVariables false
set_option linter.unusedSimpArgs false
set_option linter.unusedVariables false
namespace Go.Ab
theorem few_len {t : List (Int × List Int)} (h : fewB t = true) : t.length ≤ 40 := by
  unfold fewB at h
  rw [Bool.and_eq_true, decide_eq_true_eq] at h
  exact h.2
theorem c_Busy (x : SB) : g_submit_Busy x = some (x.1 != 0) := rfl
def cntD : List Int → List Int → Nat
  | a :: l, b :: l' => (if a = b then 0 else 1) + cntD l l'
  | _, _ => 0
theorem cnt_same : ∀ l : List Int, cntD l l = 0
  | [] => rfl
  | a :: l => by rw [cntD, if_pos rfl, cnt_same l]
theorem cnt_set : ∀ (l : List Int) (j : Nat) (v : Int), cntD (l.set j v) l ≤ 1
  | [], _, _ => by simp [cntD]
  | a :: l, 0, v => by
    rw [List.set_cons_zero, cntD, cnt_same]
    split <;> omega
  | a :: l, j + 1, v => by
    rw [List.set_cons_succ, cntD, if_pos rfl, Nat.zero_add]
    exact cnt_set l j v
theorem cnt_one {m m' : List Int} (h : One m m') : cntD m' m ≤ 1 := by
  obtain ⟨j, v, rfl⟩ := h
  unfold storeM
  split
  · exact cnt_set m _ v
  · rw [cnt_same]; omega
theorem cnt_loop (k : Nat) (c : CF) (t : List (Int × List Int)) (m : List Int) (i : Int) (x : SB) (s4 : Bool) (m' : List Int) (l : List EV) (s7 : Bool) (a0 : Int) (a1 : List Int) (a2 a3 a4 a5 a6 a7 a8 s17 : Int) (s18 : Bool) (s19 : Int) (s20 : Bool) (hlen : m'.length = m.length) (hl : m.length ≤ 1000) :
    ∀ (r : List Int) (q n d : Nat), m.drop q = r → q ≤ m.length → r.length < n → d ≤ q → g_poacherlaw19_SubmitOnce_L0 k c t m i x n s4 m' l s7 a0 a1 a2 a3 a4 a5 a6 a7 a8 s17 s18 s19 s20 (d : Int) (q : Int) = g_poacherlaw19_SubmitOnce_L0 k c t m i x 1 s4 m' l s7 a0 a1 a2 a3 a4 a5 a6 a7 a8 s17 s18 s19 s20 ((d + cntD (m'.drop q) r : Nat) : Int) (m.length : Int) := by
  intro r
  induction r with
  | nil =>
    intro q n d hr hq hn hd
    obtain ⟨n, rfl⟩ := fuel hn
    have := drop_nil hr
    have e : q = m.length := by omega
    subst e
    have e0 : cntD (m'.drop m.length) [] = 0 := by cases m'.drop m.length <;> rfl
    rw [e0, Nat.add_zero]
    conv => lhs; rw [g_poacherlaw19_SubmitOnce_L0, lt_len, cond_false]
    conv => rhs; rw [g_poacherlaw19_SubmitOnce_L0, lt_len, cond_false]
    rfl
  | cons y r ih =>
    intro q n d hr hq hn hd
    obtain ⟨n, rfl⟩ := fuel hn
    obtain ⟨h0, h1, h2, _, h4⟩ := drop_cons hr
    have hq' : q < m'.length := by omega
    have e1 : m'[q]? = some m'[q] := List.getElem?_eq_getElem hq'
    have e2 : m'.drop q = m'[q] :: m'.drop (q + 1) := List.drop_eq_getElem_cons hq'
    rw [g_poacherlaw19_SubmitOnce_L0, ltN h0, cond_true, idx_of e1, ob_some, idx_of h1, ob_some, bneI, wrapS (by omega), wrapS (by omega), e2, cntD]
    by_cases h : m'[q] = y
    · rw [decide_eq_true h, Bool.not_true, cond_false, ih (q + 1) n d h2 (by omega) (by simp only [List.length_cons] at hn; omega) (by omega), if_pos h, Nat.zero_add]
    · rw [decide_eq_false h, Bool.not_false, cond_true, ih (q + 1) n (d + 1) h2 (by omega) (by simp only [List.length_cons] at hn; omega) (by omega), if_neg h, Nat.add_assoc]
theorem sub_kinds {c : CF} {t : List (Int × List Int)} {m : List Int} {i : Int} {x : SB} {r : Int} {rest : List Int} (h : maySB c t m x = true) (hx : x.2.1 = r :: rest) :
    ((subB c t m i x).2.2 = [] ∧ (subB c t m i x).2.1.2.1 = r :: rest) ∨ ((subB c t m i x).2.2 = [] ∧ (subB c t m i x).2.1.2.1 = rest ∧ (subB c t m i x).2.1.1 = 0) ∨
    ((∃ l, (subB c t m i x).2.2 = (1, r, i) :: l) ∧ (subB c t m i x).2.1.2.1 = rest ∧ (subB c t m i x).2.1.1 = 0) ∨ ((subB c t m i x).2.2 = [(0, r, i)] ∧ (subB c t m i x).2.1.2.1 = r :: rest) := by
  unfold subB
  rw [h, if_neg (by simp), hx]
  dsimp only [headI, List.headD_cons, List.tail_cons]
  repeat' split
  all_goals first | exact .inl ⟨rfl, rfl⟩ | exact .inl ⟨rfl, hx⟩ | exact .inr (.inl ⟨rfl, rfl, rfl⟩) | exact .inr (.inr (.inl ⟨⟨_, rfl⟩, rfl, rfl⟩)) | exact .inr (.inr (.inr ⟨rfl, rfl⟩))
theorem sub_stay {c : CF} {t : List (Int × List Int)} {m : List Int} {i : Int} {x : SB} (h : maySB c t m x = false) : subB c t m i x = (m, x, []) := by
  unfold subB
  rw [h, if_pos rfl]
theorem once_end (k : Nat) (hk : 9223372036854779900 < k) (c : CF) {t : List (Int × List Int)} (ht : Wt t) {m : List Int} (hl : m.length ≤ 500) (i : Int) (x : SB) (hr : x.2.1.length ≤ 60) (s4 s7 : Bool) (s17 : Int) (s18 : Bool) (s19 : Int) (s20 : Bool) (d : Int) (hd : d = (cntD (subB c t m i x).1 m : Nat)) :
    g_poacherlaw19_SubmitOnce_L0 k c t m i x 1 s4 (subB c t m i x).1 (subB c t m i x).2.2 s7 (subB c t m i x).2.1.1 (subB c t m i x).2.1.2.1 (subB c t m i x).2.1.2.2.1 (subB c t m i x).2.1.2.2.2.1 (subB c t m i x).2.1.2.2.2.2.1 (subB c t m i x).2.1.2.2.2.2.2.1 (subB c t m i x).2.1.2.2.2.2.2.2.1 (subB c t m i x).2.1.2.2.2.2.2.2.2.1 (subB c t m i x).2.1.2.2.2.2.2.2.2.2 s17 s18 s19 s20 d (m.length : Int) = some true := by
  have h1 := cnt_one (sub_one c t m i x)
  rw [g_poacherlaw19_SubmitOnce_L0, ltF (by omega), cond_false]
  simp only [Prod.eta]
  rw [c_SMay (by omega) c ht, ob_some]
  cases hmay : maySB c t m x with
  | false =>
    rw [sub_stay hmay] at hd ⊢
    rw [cnt_same] at hd
    subst hd
    rw [c_SSame _ (by omega) _ (by omega), ob_some]
    rfl
  | true =>
    obtain ⟨_, _, _, _, _, r, rest, hx, _, _⟩ := mayS_of hmay
    have hd1 : decide (d ≤ 1) = true := decide_eq_true (by omega)
    have hn : ((x.2.1.length : Int) == 0) = false := by rw [hx]; simp; omega
    have hi0 : idx (r :: rest) 0 = some r := rfl
    have hw : IntKind.i64.wrap (((r :: rest).length : Int) - 1) = (rest.length : Int) := by
      rw [hx] at hr
      rw [IntKind.wrap_i64]
      simp only [List.length_cons] at hr ⊢
      omega
    have hne : ¬ ((rest.length : Int) = ((r :: rest).length : Int)) := by simp only [List.length_cons]; omega
    rw [Bool.not_true, cond_false, hn, cond_false, hx, hi0]
    rcases sub_kinds (i := i) hmay hx with ⟨e1, e2⟩ | ⟨e1, e2, e3⟩ | ⟨⟨l, e1⟩, e2, e3⟩ | ⟨e1, e2⟩
    · have hq : (((r :: rest).length : Int) == (rest.length : Int)) = false := by rw [beqI]; exact decide_eq_false (fun h => hne h.symm)
      rw [e1, e2]
      simp only [e3f, hd1, hw, hq]
      simp [ob_some]
    · rw [e1, e2, e3]
      simp only [e3f, hd1, hw]
      simp [ob_some, c_Busy]
    · have h0 : idx ((1, r, i) :: l) 0 = some (1, r, i) := rfl
      have hp : decide ((0 : Int) < (((1, r, i) :: l : List EV).length : Int)) = true := decide_eq_true (by simp)
      rw [e1, e2, e3, hp, cond_true]
      simp only [e3f, hd1, hw, h0, ob_some]
      simp [ob_some, c_Busy]
    · have h0 : idx [((0 : Int), r, i)] 0 = some (0, r, i) := rfl
      have hq : (((r :: rest).length : Int) == (rest.length : Int)) = false := by rw [beqI]; exact decide_eq_false (fun h => hne h.symm)
      rw [e1, e2]
      simp only [e3f, hd1, hw, hq, h0, ob_some]
      simp [ob_some]
theorem pure_SOnce (k : Nat) (hk : 9223372036854779900 < k) (c : CF) {t : List (Int × List Int)} (ht : Wt t) {m : List Int} (hm : Wm m) (i : Int) (x : SB) (hf : Wf x.2.2) : g_poacherlaw19_SubmitOnce k c t m i x = some true := by
  unfold g_poacherlaw19_SubmitOnce
  rw [c_Few04 (k + 59) (by omega) t ht, ob_some]
  cases hfew : fewB t with
  | false => rfl
  | true =>
    have htl := few_len hfew
    rw [Bool.not_true, cond_false]
    by_cases h500 : (500 : Int) < m.length
    · rw [ltT h500, cond_true]
    rw [ltF (by omega), cond_false]
    by_cases h60 : (60 : Int) < x.2.1.length
    · rw [ltT h60, cond_true]
    rw [ltF (by omega), cond_false]
    simp only [Prod.eta]
    have hlen := sub_len c t m i x
    have hev := sub_evs c t m i x
    rw [c_SStep (by omega) c ht hm (by omega) i hf (by omega) (by omega), ob_some, bneI, decide_eq_true (by omega), Bool.not_true, cond_false, ltF (by omega), cond_false]
    have h := cnt_loop k c t m i x true (subB c t m i x).1 (subB c t m i x).2.2 false (subB c t m i x).2.1.1 (subB c t m i x).2.1.2.1 (subB c t m i x).2.1.2.2.1 (subB c t m i x).2.1.2.2.2.1 (subB c t m i x).2.1.2.2.2.2.1 (subB c t m i x).2.1.2.2.2.2.2.1 (subB c t m i x).2.1.2.2.2.2.2.2.1 (subB c t m i x).2.1.2.2.2.2.2.2.2.1 (subB c t m i x).2.1.2.2.2.2.2.2.2.2 (((subB c t m i x).1.length : Int)) false (((subB c t m i x).2.2.length : Int)) false hlen (by omega) m 0 (k + 60) 0 rfl (by omega) (by omega) (by omega)
    rw [Nat.zero_add, List.drop_zero] at h
    refine Eq.trans h ?_
    exact once_end k hk c ht (by omega) i x (by omega) _ _ _ _ _ _ _ rfl
theorem law_SOnce (k : Nat) (hk : 9223372036854779990 < k) (c : CF) (hc : confOk c) (t : List (Int × List Int)) (ht : Wt t) (m : List Int) (hm : Wm m) (i : Int) (hi : i64 i) (x : SB) (hx : subOk x) :
    xC k none 3 [.agg (confV c), tasksV t, .ro (m.map (intR .u64)), .lit (.int .i64 i), .agg (subV x)] = some (.lit (.bool true), []) := by
  obtain ⟨j, rfl⟩ : ∃ j, k = j + 61 := ⟨k - 61, by omega⟩
  have hf := hx.2.2.2
  have h := pure_SOnce j (by omega) c ht hm i x ⟨u64_of hf.2.2.2.1, u64_of hf.2.2.2.2.1, u64_of hf.2.2.2.2.2.1⟩
  obtain ⟨W, D, I, S⟩ := c
  obtain ⟨pc, roots, a0, a1, a2, a3, a4, a5, a6⟩ := x
  rw [confV, subV, tasksV, h_poacherlaw19_SubmitOnce, h]
  rfl
end Go.Ab
