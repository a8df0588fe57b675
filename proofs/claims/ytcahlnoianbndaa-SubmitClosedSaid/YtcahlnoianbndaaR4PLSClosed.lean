/- SubmitClosed. -/
import Derived.Test.YtcahlnoianbndaaR4PR
import Derived.Test.YtcahlnoianbndaaR4PWf5
import Derived.Test.YtcahlnoianbndaaR4GL7
set_option linter.unusedVariables false
set_option linter.unusedSimpArgs false
set_option linter.unusedVariables false
namespace Go.Ab
theorem few_len {t : List (Int × List Int)} (h : fewB t = true) : t.length ≤ 40 := by
  unfold fewB at h
  rw [Bool.and_eq_true, decide_eq_true_eq] at h
  exact h.2
theorem c_Busy (x : SB) : g_submit_Busy x = some (x.1 != 0) := rfl
theorem pure_SClosed (k : Nat) (hk : 9223372036854779900 < k) (c : CF) {t : List (Int × List Int)} (ht : Wt t) {m : List Int} (hm : Wm m) (i : Int) (x : SB) (hf : Wf x.2.2) : g_poacherlaw19_SubmitClosed k c t m i x = some true := by
  unfold g_poacherlaw19_SubmitClosed
  rw [c_Few04 (k + 59) (by omega) t ht, ob_some]
  cases hfew : fewB t with
  | false => rfl
  | true =>
    have htl := few_len hfew
    rw [Bool.not_true, cond_false]
    by_cases h500 : (500 : Int) < m.length
    · rw [ltT h500, cond_true]
    rw [ltF (by omega), cond_false]
    by_cases h60 : (60 : Int) < x.2.1.length
    · rw [ltT h60, cond_true]
    rw [ltF (by omega), cond_false, beqI]
    by_cases h0 : (x.2.1.length : Int) = 0
    · rw [decide_eq_true h0, cond_true]
    rw [decide_eq_false h0, cond_false]
    simp only [Prod.eta]
    rw [c_SMay (by omega) c ht, ob_some]
    cases hmay : maySB c t m x with
    | false => rfl
    | true =>
      obtain ⟨h1, h2, h3, h4, h5, r, rest, hx, h6, h7⟩ := mayS_of hmay
      have hsz := size_low h1
      rw [Bool.not_true, cond_false, c_Store (by omega), ob_some, c_SStep (by omega) c ht (hm.set 3 (by decide) (by decide)) (by rw [store_len]; omega) i hf (by omega) (by omega), ob_some, c_Busy, ob_some]
      by_cases hp : x.1 = 0
      · have hl1 : loadM (storeM m 3 1) 3 = 1 := load_store _ (by decide) (by omega)
        have e : subB c t (storeM m 3 1) i x = (storeM m 3 1, (0, x.2.1.tail, zeroF), [(1, headI x.2.1, i)]) := by
          unfold subB
          rw [mayS_store, hmay, if_neg (by simp), if_pos hp, hl1, if_pos (by decide)]
        rw [e]
        have hne : (x.1 != 0) = false := by simp [hp]
        rw [hne, cond_false]
        dsimp only
        rw [c_SameM (by rw [store_len]; omega) _ (by omega), ob_some, decide_eq_true rfl, cond_true, hx]
        have hw : IntKind.i64.wrap (((r :: rest).length : Int) - 1) = (rest.length : Int) := by
          rw [hx] at h60
          rw [IntKind.wrap_i64]
          simp only [List.length_cons] at h60 ⊢
          omega
        have hi0 : idx (r :: rest) 0 = some r := rfl
        have hi1 : idx [((1 : Int), headI (r :: rest), i)] 0 = some (1, headI (r :: rest), i) := rfl
        rw [hw, hi0, hi1]
        simp [ob_some, headI, c_Busy]
      · have hne : (x.1 != 0) = true := by simp [hp]
        have hlen := sub_len c t m i x
        have hroots : (subB c t m i x).2.1.2.1.length ≤ 1000 := by
          rcases sub_roots c t m i x with e | ⟨e, _⟩ <;> rw [e]
          · omega
          · rw [List.length_tail]; omega
        rw [hne, cond_true, c_Store (by omega), ob_some, c_SStep (by omega) c ht (hm.set 3 (by decide) (by decide)) (by rw [store_len]; omega) i hf (by omega) (by omega), ob_some]
        rw [sub3c c t m i x 1 hp, sub3c c t m i x 0 hp]
        dsimp only
        rw [c_EvsSame _ (by omega) (sub_evs c t m i x), ob_some, c_SSame _ (by omega) _ hroots, ob_some, cond_true, cond_true, c_Store (by rw [store_len]; omega), ob_some, store_store, c_SameM (by rw [store_len]; omega) _ (by omega), ob_some, decide_eq_true rfl]
theorem law_SClosed (k : Nat) (hk : 9223372036854779990 < k) (c : CF) (hc : confOk c) (t : List (Int × List Int)) (ht : Wt t) (m : List Int) (hm : Wm m) (i : Int) (hi : i64 i) (x : SB) (hx : subOk x) :
    xC k none 7 [.agg (confV c), tasksV t, .ro (m.map (intR .u64)), .lit (.int .i64 i), .agg (subV x)] = some (.lit (.bool true), []) := by
  obtain ⟨j, rfl⟩ : ∃ j, k = j + 61 := ⟨k - 61, by omega⟩
  have hf := hx.2.2.2
  have h := pure_SClosed j (by omega) c ht hm i x ⟨u64_of hf.2.2.2.1, u64_of hf.2.2.2.2.1, u64_of hf.2.2.2.2.2.1⟩
  obtain ⟨W, D, I, S⟩ := c
  obtain ⟨pc, roots, a0, a1, a2, a3, a4, a5, a6⟩ := x
  rw [confV, subV, tasksV, h_poacherlaw19_SubmitClosed, h]
  rfl
end Go.Ab
