/- SubmitAlone. -/
import Derived.Test.YtcahlnoianbndaaR4PSubW
import Derived.Test.YtcahlnoianbndaaR4PWf5
import Derived.Test.YtcahlnoianbndaaR4GL4
set_option linter.unusedVariables false
set_option linter.unusedSimpArgs false
set_option linter.unusedVariables false
namespace Go.Ab
theorem few_len {t : List (Int × List Int)} (h : fewB t = true) : t.length ≤ 40 := by
  unfold fewB at h
  rw [Bool.and_eq_true, decide_eq_true_eq] at h
  exact h.2
theorem c_SNew {l : List Int} (h : l.length ≤ 1000) : g_submit_New l = some (0, l, zeroF) := by
  unfold g_submit_New
  rw [clone_ok (by omega), ob_some]
  rfl
theorem zero_load (n : Nat) (i : Int) : loadM (List.replicate n 0) i = 0 := by
  unfold loadM
  split
  · rw [List.getElem?_replicate]
    split <;> rfl
  · rfl
theorem c_New {k : Nat} (hk : 1000 ≤ k) (c : CF) : g_lay_New k c = some (List.replicate (sizeC c).toNat 0) := by
  have hs : 0 ≤ sizeC c ∧ sizeC c ≤ 190 := by
    unfold sizeC
    split
    · rename_i h
      have hm := mayC_of h
      have := top_rng h (w := c.1) (by omega) (by omega)
      omega
    · omega
  have key : ∀ (d i n t : Nat), (t = 0 ∨ t = 1) → i + d = (sizeC c).toNat → d < n → g_lay_New_L0 k c n (sizeC c) (List.replicate i 0) (i : Int) t = some (List.replicate (sizeC c).toNat 0) := by
    intro d
    induction d with
    | zero =>
      intro i n t ht hi hn
      obtain ⟨n, rfl⟩ := fuel hn
      rw [g_lay_New_L0, ltF (by omega), cond_false]
      rw [show i = (sizeC c).toNat by omega]
    | succ d ih =>
      intro i n t ht hi hn
      obtain ⟨n, rfl⟩ := fuel hn
      have h1 : (t == 1 || t == 0) = true := by rcases ht with rfl | rfl <;> rfl
      rw [g_lay_New_L0, ltT (by omega), cond_true, h1, ck_true, roomT (by simp; omega), cond_true, wrapS (by omega)]
      have := ih (i + 1) n 1 (.inr rfl) (by omega) (by omega)
      rw [List.replicate_succ'] at this
      exact this
  unfold g_lay_New
  simp only [Prod.eta, c_Size, ob_some]
  exact key (sizeC c).toNat 0 (k + 3) 0 (.inl rfl) (by omega) (by omega)
def fineL (I : Int) (roots : List Int) : List EV → Nat → Option Nat
  | [], g => some g
  | e :: l, g => if e.1 = 5 then fineL I roots l g else match roots[g]? with
    | some r => if e.2.1 = r ∧ (e.1 = 0 ↔ (g : Int) < I) then fineL I roots l (g + 1) else none
    | none => none
theorem fine_app {I : Int} {roots : List Int} {a b : List EV} {g g' : Nat} (h : fineL I roots (a ++ b) g = some g') : ∃ h, fineL I roots a g = some h ∧ fineL I roots b h = some g' := by
  induction a generalizing g with
  | nil => exact ⟨g, rfl, h⟩
  | cons e l ih =>
    rw [List.cons_append, fineL] at h
    rw [fineL]
    split at h
    · rename_i h5
      rw [if_pos h5]
      exact ih h
    · rename_i h5
      rw [if_neg h5]
      split at h
      · rename_i r hr
        split at h
        · rename_i h6
          rw [if_pos h6]
          exact ih h
        · cases h
      · cases h
theorem evs_loop (k : Nat) (c : CF) (t : List (Int × List Int)) (roots : List Int) (hR : roots.length ≤ 30) (o : List Int → Int → Int → List Int → Int → Int → Int → Int → Int → Int → Int → Int → Option Bool) (m : List Int) (l : List EV) (hl : l.length ≤ 1000) (a0 : Int) (a1 : List Int) (a2 a3 a4 a5 a6 a7 a8 i : Int) (g' : Nat) :
    ∀ (r : List EV) (q n g : Nat), l.drop q = r → r.length < n → fineL c.2.2.1 roots r g = some g' →
    g_poacherlaw19_SubmitAlone_L1 k c t roots o n m l a0 a1 a2 a3 a4 a5 a6 a7 a8 (q : Int) (g : Int) i = o m (IntKind.i64.wrap (i + 1)) a0 a1 a2 a3 a4 a5 a6 a7 a8 (g' : Int) := by
  intro r
  induction r with
  | nil =>
    intro q n g hq hn hf
    obtain ⟨n, rfl⟩ := fuel hn
    have := drop_nil hq
    rw [fineL] at hf
    cases hf
    rw [g_poacherlaw19_SubmitAlone_L1, ltF (by omega), cond_false]
  | cons e r ih =>
    intro q n g hq hn hf
    obtain ⟨n, rfl⟩ := fuel hn
    obtain ⟨h0, h1, h2, _, h4⟩ := drop_cons hq
    rw [fineL] at hf
    rw [g_poacherlaw19_SubmitAlone_L1, ltN h0, cond_true, idx_of h1, ob_some, beqI, wrapS (by omega)]
    simp only [List.length_cons] at hn
    by_cases h5 : e.1 = 5
    · rw [if_pos h5] at hf
      rw [decide_eq_true h5, cond_true]
      exact ih (q + 1) n g h2 (by omega) hf
    · rw [if_neg h5] at hf
      rw [decide_eq_false h5, cond_false]
      cases hr : roots[g]? with
      | none => rw [hr] at hf; cases hf
      | some r0 =>
        rw [hr] at hf
        dsimp only at hf
        have hgl : g < roots.length := (List.getElem?_eq_some_iff.1 hr).1
        split at hf
        · rename_i h6
          rw [ob_some, leF (by omega), cond_false, ob_some, idx_of hr, ob_some, bneI, decide_eq_true h6.1, Bool.not_true, cond_false, wrapS (by omega), ih (q + 1) n (g + 1) h2 (by omega) hf]
          have e1 : (!((e.1 == 0) == decide ((g : Int) < c.2.2.1))) = false := by
            rw [beqI]
            by_cases h7 : e.1 = 0
            · rw [decide_eq_true h7, decide_eq_true (h6.2.1 h7)]; rfl
            · rw [decide_eq_false h7, decide_eq_false (fun h => h7 (h6.2.2 h))]; rfl
          rw [e1, cond_false]
        · cases hf
theorem bound {roots : List Int} (hR : roots.length ≤ 30) (i : Nat) : decide ((i : Int) < IntKind.i64.wrap (IntKind.i64.wrap (12 * (roots.length : Int)) + 1)) = decide (i < 12 * roots.length + 1) := by
  have e : IntKind.i64.wrap (IntKind.i64.wrap (12 * (roots.length : Int)) + 1) = ((12 * roots.length + 1 : Nat) : Int) := by
    rw [IntKind.wrap_i64, IntKind.wrap_i64]
    omega
  rw [e]
  by_cases h : i < 12 * roots.length + 1
  · rw [decide_eq_true h, decide_eq_true (by omega)]
  · rw [decide_eq_false h, decide_eq_false (by omega)]
section
variable {k : Nat} (hk : 9223372036854779900 < k) {c : CF} {t : List (Int × List Int)} (ht : Wt t) (htl : t.length ≤ 40) {roots : List Int} (hR : roots.length ≤ 30)
include hk ht htl hR
theorem l0_step {m : List Int} {x : SB} (hmay : maySB c t m x = true) (hm : Wm m) (hf : Wf x.2.2) (hl : m.length ≤ 1000) (hx : x.2.1.length ≤ 30) {i n g g' : Nat} (hi : i < 12 * roots.length + 1) (hfine : fineL c.2.2.1 roots (subB c t m 0 x).2.2 g = some g') :
    g_poacherlaw19_SubmitAlone_L0 k c t roots (n + 1) m (i : Int) x.1 x.2.1 x.2.2.1 x.2.2.2.1 x.2.2.2.2.1 x.2.2.2.2.2.1 x.2.2.2.2.2.2.1 x.2.2.2.2.2.2.2.1 x.2.2.2.2.2.2.2.2 (g : Int) =
      g_poacherlaw19_SubmitAlone_L0 k c t roots n (subB c t m 0 x).1 ((i + 1 : Nat) : Int) (subB c t m 0 x).2.1.1 (subB c t m 0 x).2.1.2.1 (subB c t m 0 x).2.1.2.2.1 (subB c t m 0 x).2.1.2.2.2.1 (subB c t m 0 x).2.1.2.2.2.2.1 (subB c t m 0 x).2.1.2.2.2.2.2.1 (subB c t m 0 x).2.1.2.2.2.2.2.2.1 (subB c t m 0 x).2.1.2.2.2.2.2.2.2.1 (subB c t m 0 x).2.1.2.2.2.2.2.2.2.2 (g' : Int) := by
  have hev : (subB c t m 0 x).2.2.length ≤ 2 := by
    unfold subB
    dsimp only
    repeat' split
    all_goals simp
  conv => lhs; rw [g_poacherlaw19_SubmitAlone_L0]
  simp only [Prod.eta]
  rw [bound hR, decide_eq_true hi, cond_true, c_SMay (by omega) c ht, ob_some, hmay, cond_true, c_SStep (by omega) c ht hm hl 0 hf (by omega) (by omega), ob_some]
  have h := evs_loop k c t roots hR (fun s7 s86 s92 s93 s94 s95 s96 s97 s98 s99 s100 s133 => g_poacherlaw19_SubmitAlone_L0 k c t roots n s7 s86 s92 s93 s94 s95 s96 s97 s98 s99 s100 s133) (subB c t m 0 x).1 (subB c t m 0 x).2.2 (by omega) (subB c t m 0 x).2.1.1 (subB c t m 0 x).2.1.2.1 (subB c t m 0 x).2.1.2.2.1 (subB c t m 0 x).2.1.2.2.2.1 (subB c t m 0 x).2.1.2.2.2.2.1 (subB c t m 0 x).2.1.2.2.2.2.2.1 (subB c t m 0 x).2.1.2.2.2.2.2.2.1 (subB c t m 0 x).2.1.2.2.2.2.2.2.2.1 (subB c t m 0 x).2.1.2.2.2.2.2.2.2.2 (i : Int) g' (subB c t m 0 x).2.2 0 (k + 60) g rfl (by omega) hfine
  rw [wrapS (by omega)] at h
  exact h
theorem l0_run : ∀ (j : Nat) (m m' : List Int) (x x' : SB) (evs : List EV) (i n g g' : Nat), runS2 c t j (m, x) = some (evs, m', x') → Wm m → Wf x.2.2 → m.length ≤ 1000 → x.2.1.length ≤ 30 → fineL c.2.2.1 roots evs g = some g' → i + j ≤ 12 * roots.length + 1 →
    g_poacherlaw19_SubmitAlone_L0 k c t roots (n + j) m (i : Int) x.1 x.2.1 x.2.2.1 x.2.2.2.1 x.2.2.2.2.1 x.2.2.2.2.2.1 x.2.2.2.2.2.2.1 x.2.2.2.2.2.2.2.1 x.2.2.2.2.2.2.2.2 (g : Int) =
      g_poacherlaw19_SubmitAlone_L0 k c t roots n m' ((i + j : Nat) : Int) x'.1 x'.2.1 x'.2.2.1 x'.2.2.2.1 x'.2.2.2.2.1 x'.2.2.2.2.2.1 x'.2.2.2.2.2.2.1 x'.2.2.2.2.2.2.2.1 x'.2.2.2.2.2.2.2.2 (g' : Int) := by
  intro j
  induction j with
  | zero =>
    intro m m' x x' evs i n g g' h _ _ _ _ hf _
    rw [runS2] at h
    cases h
    rw [fineL] at hf
    cases hf
    rfl
  | succ j ih =>
    intro m m' x x' evs i n g g' h hm hw hl hx hf hi
    rw [runS2] at h
    dsimp only at h
    split at h
    · rename_i hmay
      split at h
      · rename_i r hr
        simp only [Option.some.injEq, Prod.mk.injEq] at h
        obtain ⟨he, hr2⟩ := h
        rw [← he] at hf
        obtain ⟨g1, f1, f2⟩ := fine_app hf
        have w := sub_wf (c := c) (t := t) (i := 0) hm hw (by omega)
        have hlen : (subB c t m 0 x).1.length = m.length := by
          have : One m (subB c t m 0 x).1 := by
            unfold subB
            dsimp only
            repeat' split
            all_goals first | exact One.same m | exact One.store m _ _ | (dsimp only; exact One.store m _ _) | exact call_one c m _
          exact this.len
        have hxl : (subB c t m 0 x).2.1.2.1.length ≤ 30 := by
          have : (subB c t m 0 x).2.1.2.1 = x.2.1 ∨ (subB c t m 0 x).2.1.2.1 = x.2.1.tail := by
            unfold subB
            dsimp only
            repeat' split
            all_goals first | exact .inl rfl | exact .inr rfl
          rcases this with e | e <;> rw [e]
          · exact hx
          · rw [List.length_tail]; omega
        rw [show n + (j + 1) = (n + j) + 1 by omega, l0_step hk ht htl hR hmay hm hw hl hx (by omega) f1, ih _ m' _ x' r.1 (i + 1) n g1 g' (by rw [hr, ← hr2]) w.1 w.2 (by omega) hxl f2 (by omega), show i + 1 + j = i + (j + 1) by omega]
      · cases h
    · cases h
theorem l0_end {m : List Int} {i n g : Nat} {rest : List Int} (hl : m.length ≤ 1000) (hi : i < 12 * roots.length + 1) (hmay : maySB c t m (0, rest, zeroF) = false) (hI : 0 ≤ c.2.2.1 ∧ c.2.2.1 ≤ 1000) (h0 : rest = [] → g = roots.length ∧ loadM m 0 = if (g : Int) ≤ c.2.2.1 then (g : Int) else c.2.2.1) :
    g_poacherlaw19_SubmitAlone_L0 k c t roots (n + 1) m (i : Int) 0 rest 0 0 0 0 0 0 0 (g : Int) = some true := by
  have _h := htl
  have hm2 : g_submit_May (k + 36) c t m (0, rest, 0, 0, 0, 0, 0, 0, 0) = some false := by
    rw [c_SMay (by omega) c ht]
    exact congrArg some hmay
  rw [g_poacherlaw19_SubmitAlone_L0]
  simp only [Prod.eta]
  rw [bound hR, decide_eq_true hi, cond_true, hm2, ob_some, cond_false]
  cases rest with
  | cons r l =>
    rw [ltT (by simp only [List.length_cons]; omega), cond_true, ob_some]
    rfl
  | nil =>
    obtain ⟨e1, e2⟩ := h0 rfl
    have hb : g_submit_Busy (0, [], 0, 0, 0, 0, 0, 0, 0) = some false := rfl
    rw [ltF (by simp), cond_false, c_Load, ob_some, hb, ob_some, e2, beqI, e1, decide_eq_true rfl, cond_true, cond_true]
    by_cases h : c.2.2.1 < (roots.length : Int)
    · rw [ltT h, cond_true, if_neg (by omega), wrapU (by omega) (by omega), beqI, decide_eq_true rfl]
      rfl
    · rw [ltF (by omega), cond_false, if_pos (by omega), wrapU (by omega) (by omega), ob_some, beqI, decide_eq_true rfl]
      rfl
theorem l0_all : ∀ (rest : List Int) (g i n : Nat) (m : List Int) (a : Nat), roots.drop g = rest → g ≤ roots.length → InvA c a m → (a : Int) = (if (g : Int) ≤ c.2.2.1 then (g : Int) else c.2.2.1) → i ≤ 10 * g → 10 * rest.length < n →
    g_poacherlaw19_SubmitAlone_L0 k c t roots n m (i : Int) 0 rest 0 0 0 0 0 0 0 (g : Int) = some true := by
  intro rest
  induction rest with
  | nil =>
    intro g i n m a hr hg h ha hi hn
    obtain ⟨n, rfl⟩ := fuel hn
    have hc := mayC_of h.may
    have hsz := size_low h.may
    have := h.len
    have hd := drop_nil hr
    refine l0_end hk ht htl hR (by omega) (by omega) ?_ (by omega) (fun _ => ⟨by omega, by rw [h.l0, ha]⟩)
    unfold maySB
    simp
  | cons r rest ih =>
    intro g i n m a hr hg h ha hi hn
    have hc := mayC_of h.may
    have hsz := size_low h.may
    have := h.len
    obtain ⟨h0, h1, h2, _, h4⟩ := drop_cons hr
    simp only [List.length_cons] at hn
    have hwf : Wf zeroF := by simp [Wf, zeroF]
    cases hmay : maySB c t m (0, r :: rest, zeroF) with
    | false =>
      obtain ⟨n, rfl⟩ := fuel hn
      exact l0_end hk ht htl hR (by omega) (by omega) hmay (by omega) (fun e => by cases e)
    | true =>
      obtain ⟨_, _, _, _, _, r', rest', hx, h6, h7⟩ := mayS_of hmay
      cases hx
      by_cases hgI : (g : Int) < c.2.2.1
      · have hag : a = g := by
          rw [if_pos (by omega)] at ha
          omega
        subst hag
        obtain ⟨m', hrun, hinv⟩ := ten_steps h hgI hmay ⟨h6, by omega⟩
        obtain ⟨n', rfl⟩ : ∃ n', n = n' + 10 := ⟨n - 10, by omega⟩
        have hfine : fineL c.2.2.1 roots [(0, r, 0)] a = some (a + 1) := by
          rw [fineL, if_neg (show ¬ (0 : Int) = 5 by decide), h1]
          dsimp only
          rw [if_pos ⟨rfl, fun _ => hgI, fun _ => rfl⟩, fineL]
        have := l0_run hk ht htl hR 10 m m' (0, r :: rest, zeroF) (0, rest, zeroF) [(0, r, 0)] i n' a (a + 1) hrun h.wm hwf (by omega) (by simp only [List.length_cons]; omega) hfine (by omega)
        refine Eq.trans this ?_
        exact ih (a + 1) (i + 10) n' m' (a + 1) h2 (by omega) hinv (by rw [if_pos (by omega)]) (by omega) (by omega)
      · have haI : (a : Int) = c.2.2.1 := by
          by_cases h8 : (g : Int) ≤ c.2.2.1
          · rw [if_pos h8] at ha; omega
          · rw [if_neg h8] at ha; exact ha
        obtain ⟨m', hrun, hinv⟩ := five_steps h haI hmay
        obtain ⟨n', rfl⟩ : ∃ n', n = n' + 5 := ⟨n - 5, by omega⟩
        have hfine : fineL c.2.2.1 roots [(1, r, 0)] g = some (g + 1) := by
          rw [fineL, if_neg (show ¬ (1 : Int) = 5 by decide), h1]
          dsimp only
          rw [if_pos ⟨rfl, fun h => absurd h (by decide), fun h => absurd h hgI⟩, fineL]
        have := l0_run hk ht htl hR 5 m m' (0, r :: rest, zeroF) (0, rest, zeroF) [(1, r, 0)] i n' g (g + 1) hrun h.wm hwf (by omega) (by simp only [List.length_cons]; omega) hfine (by omega)
        refine Eq.trans this ?_
        exact ih (g + 1) (i + 5) n' m' a h2 (by omega) hinv (by rw [if_neg (by omega)]; exact haI) (by omega) (by omega)
end
theorem inv_new {c : CF} (h : mayC c = true) : InvA c 0 (List.replicate (sizeC c).toNat 0) := by
  have hc := mayC_of h
  have hs := size_low h
  refine ⟨⟨by rw [List.length_replicate]; omega, fun x hx => by rw [(List.mem_replicate.1 hx).2]; omega⟩, h, by rw [List.length_replicate]; omega, zero_load _ _, zero_load _ _, by rw [zero_load]; decide, zero_load _ _, zero_load _ _, fun j hj => ?_, by omega⟩
  rw [zero_load, if_neg (by omega)]
theorem pure_SAlone (k : Nat) (hk : 9223372036854779900 < k) (c : CF) {t : List (Int × List Int)} (ht : Wt t) (roots : List Int) : g_poacherlaw19_SubmitAlone k c t roots = some true := by
  unfold g_poacherlaw19_SubmitAlone
  rw [c_Few04 (k + 59) (by omega) t ht, ob_some]
  cases hfew : fewB t with
  | false => rfl
  | true =>
    have htl := few_len hfew
    rw [Bool.not_true, cond_false]
    by_cases h30 : (30 : Int) < roots.length
    · rw [ltT h30, cond_true]
    rw [ltF (by omega), cond_false]
    simp only [Prod.eta]
    rw [c_May14, ob_some]
    cases hmay : mayC c with
    | false => rfl
    | true =>
      have hc := mayC_of hmay
      rw [Bool.not_true, cond_false, c_New (by omega), ob_some, c_SNew (by omega), ob_some]
      exact l0_all hk ht htl (by omega) roots 0 0 (k + 60) _ 0 rfl (by omega) (inv_new hmay) (by rw [if_pos (by omega)]) (by omega) (by omega)
theorem law_SAlone (k : Nat) (hk : 9223372036854779990 < k) (c : CF) (hc : confOk c) (t : List (Int × List Int)) (ht : Wt t) (roots : List Int) (hR : roots.length ≤ 9223372036854775807) :
    xC k none 4 [.agg (confV c), tasksV t, .ro (roots.map (intR .i64))] = some (.lit (.bool true), []) := by
  obtain ⟨j, rfl⟩ : ∃ j, k = j + 61 := ⟨k - 61, by omega⟩
  have h := pure_SAlone j (by omega) c ht roots
  obtain ⟨W, D, I, S⟩ := c
  rw [confV, tasksV, h_poacherlaw19_SubmitAlone, h]
  rfl
end Go.Ab
