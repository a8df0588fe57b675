/- SubmitFull. -/
import Derived.Test.YtcahlnoianbndaaR4PSub
import Derived.Test.YtcahlnoianbndaaR4PWf5
import Derived.Test.YtcahlnoianbndaaR4GL6
set_option linter.unusedVariables false
set_option linter.unusedSimpArgs false
set_option linter.unusedVariables false
namespace Go.Ab
theorem few_len {t : List (Int × List Int)} (h : fewB t = true) : t.length ≤ 40 := by
  unfold fewB at h
  rw [Bool.and_eq_true, decide_eq_true_eq] at h
  exact h.2
theorem pure_SFull (k : Nat) (hk : 9223372036854779900 < k) (c : CF) {t : List (Int × List Int)} (ht : Wt t) {m : List Int} (hm : Wm m) (i : Int) (x : SB) (hf : Wf x.2.2) : g_poacherlaw19_SubmitFull k c t m i x = some true := by
  unfold g_poacherlaw19_SubmitFull
  rw [c_Few04 (k + 59) (by omega) t ht, ob_some]
  cases hfew : fewB t with
  | false => rfl
  | true =>
    have htl := few_len hfew
    rw [Bool.not_true, cond_false]
    by_cases h500 : (500 : Int) < m.length
    · rw [ltT h500, cond_true]
    rw [ltF (by omega), cond_false, beqI]
    by_cases h0 : (x.2.1.length : Int) = 0
    · rw [decide_eq_true h0, cond_true]
    rw [decide_eq_false h0, cond_false]
    by_cases h60 : (60 : Int) < x.2.1.length
    · rw [ltT h60, cond_true]
    rw [ltF (by omega), cond_false, bneI]
    by_cases hp : x.1 = 5
    · rw [decide_eq_true hp, Bool.not_true, cond_false]
      simp only [Prod.eta]
      rw [c_SMay (by omega) c ht, ob_some]
      cases hmay : maySB c t m x with
      | false => rfl
      | true =>
        obtain ⟨h1, h2, h3, h4, h5, r, rest, hx, h6, h7⟩ := mayS_of hmay
        have hsz := size_low h1
        have hr0 := load_rng hm 0
        rw [Bool.not_true, cond_false, c_SStep (by omega) c ht hm (by omega) i hf (by omega) (by omega), ob_some]
        simp only [c_Load, ob_some]
        have hh : headI x.2.1 = r := by rw [hx]; rfl
        have htl2 : x.2.1.tail = rest := by rw [hx]; rfl
        have e : subB c t m i x = (storeM m 0 (addU (loadM m 0) 18446744073709551615), (0, rest, zeroF), if loadM m 0 = 1 then [(1, r, i), (5, 0, i)] else [(1, r, i)]) := by
          unfold subB
          rw [hmay, if_neg (by simp), if_neg (by omega), if_neg (by omega), if_neg (by omega), if_neg (by omega), if_neg (by omega), hh, htl2]
        have hw : IntKind.i64.wrap (((r :: rest).length : Int) - 1) = (rest.length : Int) := by
          rw [hx] at h60
          rw [IntKind.wrap_i64]
          simp only [List.length_cons] at h60 ⊢
          omega
        have hl0 : loadM (storeM m 0 (addU (loadM m 0) 18446744073709551615)) 0 = addU (loadM m 0) 18446744073709551615 := load_store _ (by decide) (by omega)
        have hsub : IntKind.u64.wrap (loadM m 0 - 1) = addU (loadM m 0) 18446744073709551615 := by
          rw [wrap64u]
          unfold addU
          omega
        have hi0 : idx (r :: rest) 0 = some r := rfl
        rw [e, hx]
        simp only [hl0, hsub, hw, hi0, ob_some]
        by_cases hz : loadM m 0 = 1
        · rw [if_pos hz]
          have ia : idx [((1 : Int), r, i), (5, 0, i)] 1 = some (5, 0, i) := rfl
          have ib : idx [((1 : Int), r, i), (5, 0, i)] 0 = some (1, r, i) := rfl
          simp [ia, ib, hz, ob_some]
        · rw [if_neg hz]
          have ib : idx [((1 : Int), r, i)] 0 = some (1, r, i) := rfl
          have hne : (loadM m 0 == 1) = false := by simp [hz]
          simp [ib, hne, ob_some]
    · rw [decide_eq_false hp, Bool.not_false, cond_true]
theorem law_SFull (k : Nat) (hk : 9223372036854779990 < k) (c : CF) (hc : confOk c) (t : List (Int × List Int)) (ht : Wt t) (m : List Int) (hm : Wm m) (i : Int) (hi : i64 i) (x : SB) (hx : subOk x) :
    xC k none 6 [.agg (confV c), tasksV t, .ro (m.map (intR .u64)), .lit (.int .i64 i), .agg (subV x)] = some (.lit (.bool true), []) := by
  obtain ⟨j, rfl⟩ : ∃ j, k = j + 61 := ⟨k - 61, by omega⟩
  have hf := hx.2.2.2
  have h := pure_SFull j (by omega) c ht hm i x ⟨u64_of hf.2.2.2.1, u64_of hf.2.2.2.2.1, u64_of hf.2.2.2.2.2.1⟩
  obtain ⟨W, D, I, S⟩ := c
  obtain ⟨pc, roots, a0, a1, a2, a3, a4, a5, a6⟩ := x
  rw [confV, subV, tasksV, h_poacherlaw19_SubmitFull, h]
  rfl
end Go.Ab
