/- SubmitWakes. -/
import Derived.Test.YtcahlnoianbndaaR4PSub
import Derived.Test.YtcahlnoianbndaaR4PWf5
import Derived.Test.YtcahlnoianbndaaR4GL5
set_option linter.unusedVariables false
set_option linter.unusedSimpArgs false
set_option linter.unusedVariables false
namespace Go.Ab
theorem few_len {t : List (Int × List Int)} (h : fewB t = true) : t.length ≤ 40 := by
  unfold fewB at h
  rw [Bool.and_eq_true, decide_eq_true_eq] at h
  exact h.2
theorem mayS_len {c : CF} {t : List (Int × List Int)} {m m' : List Int} {x : SB} (h : maySB c t m x = true) (hl : m'.length = m.length) : maySB c t m' x = true := by
  unfold maySB at h ⊢
  rw [hl]
  exact h
theorem pure_SWakes (k : Nat) (hk : 9223372036854779900 < k) (c : CF) {t : List (Int × List Int)} (ht : Wt t) {m : List Int} (hm : Wm m) (i : Int) (x : SB) (hf : Wf x.2.2) (seek : Int) (hs : 0 ≤ seek ∧ seek ≤ 18446744073709551615) : g_poacherlaw19_SubmitWakes k c t m i x seek = some true := by
  unfold g_poacherlaw19_SubmitWakes
  rw [c_Few04 (k + 59) (by omega) t ht, ob_some]
  cases hfew : fewB t with
  | false => rfl
  | true =>
    have htl := few_len hfew
    rw [Bool.not_true, cond_false]
    by_cases h500 : (500 : Int) < m.length
    · rw [ltT h500, cond_true]
    rw [ltF (by omega), cond_false]
    by_cases h60 : (60 : Int) < x.2.1.length
    · rw [ltT h60, cond_true]
    rw [ltF (by omega), cond_false, bneI]
    by_cases hp : x.1 = 3
    · rw [decide_eq_true hp, Bool.not_true, cond_false]
      simp only [Prod.eta]
      rw [c_SMay (by omega) c ht, ob_some]
      cases hmay : maySB c t m x with
      | false => rfl
      | true =>
        obtain ⟨h1, h2, h3, h4, h5, r, rest, hx, h6, h7⟩ := mayS_of hmay
        have hsz := size_low h1
        rw [Bool.not_true, cond_false, c_Store (by omega), ob_some, c_SStep (by omega) c ht (hm.set 1 hs.1 hs.2) (by rw [store_len]; omega) i hf (by omega) (by omega), ob_some]
        have hl1 : loadM (storeM m 1 seek) 1 = seek := load_store _ (by decide) (by omega)
        have e : subB c t (storeM m 1 seek) i x = if seek ≠ 0 then (storeM m 1 seek, (0, x.2.1.tail, zeroF), []) else (storeM m 1 seek, (4, x.2.1, (6, 0, i, 0, 0, 0, 0)), []) := by
          unfold subB
          rw [mayS_len hmay store_len, if_neg (by simp), if_neg (by omega), if_neg (by omega), if_neg (by omega), if_pos hp, hl1]
        rw [e]
        by_cases hz : seek = 0
        · subst hz
          simp
        · rw [if_pos hz, hx]
          have hw : IntKind.i64.wrap (((r :: rest).length : Int) - 1) = (rest.length : Int) := by
            rw [hx] at h60
            rw [IntKind.wrap_i64]
            simp only [List.length_cons] at h60 ⊢
            omega
          rw [hw]
          have hne : (seek != 0) = true := by simp [hz]
          simp [hz, zeroF, hne]
    · rw [decide_eq_false hp, Bool.not_false, cond_true]
theorem law_SWakes (k : Nat) (hk : 9223372036854779990 < k) (c : CF) (hc : confOk c) (t : List (Int × List Int)) (ht : Wt t) (m : List Int) (hm : Wm m) (i : Int) (hi : i64 i) (x : SB) (hx : subOk x) (seek : Int) (hs : u64 seek) :
    xC k none 5 [.agg (confV c), tasksV t, .ro (m.map (intR .u64)), .lit (.int .i64 i), .agg (subV x), .lit (.int .u64 seek)] = some (.lit (.bool true), []) := by
  obtain ⟨j, rfl⟩ : ∃ j, k = j + 61 := ⟨k - 61, by omega⟩
  have hf := hx.2.2.2
  have h := pure_SWakes j (by omega) c ht hm i x ⟨u64_of hf.2.2.2.1, u64_of hf.2.2.2.2.1, u64_of hf.2.2.2.2.2.1⟩ seek (u64_of hs)
  obtain ⟨W, D, I, S⟩ := c
  obtain ⟨pc, roots, a0, a1, a2, a3, a4, a5, a6⟩ := x
  rw [confV, subV, tasksV, h_poacherlaw19_SubmitWakes, h]
  rfl
end Go.Ab
