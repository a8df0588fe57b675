/- EventSigns. -/
import Derived.Test.YthnifkacfonhgaaR2PPl5
import Derived.Test.YthnifkacfonhgaaR2PWf4
import Derived.Test.YthnifkacfonhgaaR2GL14
set_option linter.unusedVariables false
set_option linter.unusedSimpArgs false
set_option linter.unusedVariables false
namespace Go.Ab
theorem waits_bit {c : CF} {m : List Int} {w : Nat} (hm : Wm m) (ok : OkB c m w) : (if waitsB c m (w : Int) = true then 1 else 0) = bitN m w := by
  have hr := load_rng hm 2
  have hc := mayC_of ok.may
  have := ok.high
  unfold waitsB bitN
  rw [ok.may, decide_eq_true ⟨ok.len, ok.low, ok.high⟩, has_mask hr.1 (by omega) (by omega)]
  rfl
/-- The signs' number of one that is there. -/
theorem states_at {calls : List (List Int)} {who : List Int} {w : Nat} (h : mayC (confE calls.length) = true) {f : FR} (hf : (playS calls who).cur[w]? = some f) : statesR calls who w = (w3B f : Int) := by
  have hs := (play_ok h who).ok
  have hw : w < calls.length := by rw [← hs.clen]; exact (List.getElem?_eq_some_iff.1 hf).1
  unfold statesR playR
  rw [if_pos h]
  simp only [sgnI]
  rw [if_neg (by omega), if_neg (by rw [hs.clen]; omega), waits_bit hs.wm (hs.okb hw), hs.sgn w f hf]
theorem pure_ESigns (k : Nat) (hk : 9223372036854779900 < k) (calls : List (List Int)) (who : List Int) (w : Int) : g_poacherlaw16_EventSigns k calls who w = some true := by
  obtain ⟨b, hb, hfew⟩ := c_Few (k := k + 59) (by omega) (l := calls)
  unfold g_poacherlaw16_EventSigns
  rw [awk16 hk, ob_some, hb, ob_some, Bool.not_true, cond_false]
  cases b with
  | false => rfl
  | true =>
    obtain ⟨h10, h30⟩ := hfew rfl
    rw [Bool.not_true, cond_false]
    by_cases h500 : (500 : Int) < who.length
    · rw [ltT h500, cond_true]
    rw [ltF (by omega), cond_false]
    by_cases h0 : w < 0
    · rw [ltT h0, cond_true]
    rw [ltF (by omega), cond_false]
    by_cases h1 : (calls.length : Int) ≤ w
    · rw [leT h1, cond_true]
    rw [leF (by omega), cond_false, c_Play (by omega) (by omega) h10 h30, ob_some, c_States (by omega) (by omega) h10 h30, ob_some]
    by_cases hmay : mayC (confE calls.length) = true
    · have hs := (play_ok hmay who).ok
      obtain ⟨q, rfl⟩ : ∃ q : Nat, w = q := ⟨w.toNat, by omega⟩
      have hq : q < (playS calls who).cur.length := by rw [hs.clen]; omega
      have hf : (playS calls who).cur[q]? = some (playS calls who).cur[q] := List.getElem?_eq_getElem hq
      have hst := states_at hmay hf
      have hfr := hs.frm q _ hf
      have he4 := hs.end4 q _ hf
      have hpar := hs.par q (by omega)
      generalize (playS calls who).cur[q] = f at *
      have e : playR calls who = ((playS calls who).m, (playS calls who).over, (playS calls who).cur) := by unfold playR; rw [if_pos hmay]
      rw [e, hst]
      simp only []
      rw [leF (by omega), cond_false, idx_of hf, ob_some, bneI]
      by_cases h5 : f.1 = 5
      · rw [decide_eq_true h5, Bool.not_true, cond_false]
        by_cases h3 : f.2.1 < 3
        · rw [ltT h3, cond_true, w3_not fun _ => h3]
          rfl
        · have hw3 : w3B f = 1 := w3_is h5 (by omega)
          rw [ltF (by omega), cond_false, hw3]
          show (bif f.2.1 == 3 then some true else _) = _
          rw [beqI]
          by_cases h33 : f.2.1 = 3
          · rw [decide_eq_true h33, cond_true]
          · rw [decide_eq_false h33, cond_false, beqI]
            have h4 : f.2.1 = 4 := by
              rcases hfr with rfl | ⟨op, pc, X, Y, rfl, _, _, hop⟩
              · exact absurd h5 (by decide)
              · simp only at h5 h3 h33 ⊢
                omega
            rw [decide_eq_true h4, cond_true]
            have hce : ((calls.length : Int), (1 : Int), (1 : Int), (0 : Int)) = confE calls.length := rfl
            rw [hce, c_Park, ob_some, c_Load, ob_some, beqI]
            have h1p := he4 ⟨h5, h4⟩
            unfold parN at h1p
            rcases hpar with hp | hp
            · rw [if_pos hp] at h1p
              cases h1p
            · rw [decide_eq_true hp]
      · rw [decide_eq_false h5, Bool.not_false, cond_true, w3_not fun h => absurd h h5]
        rfl
    · have e : playR calls who = ([], [], []) := by unfold playR; rw [if_neg hmay]
      have e2 : statesR calls who w = -1 := by
        unfold statesR sgnI
        rw [e, if_neg h0, if_pos (by simp; omega)]
      rw [e, e2]
      simp only [List.length_nil]
      rw [leT (by omega), cond_true]
      rfl
theorem law_ESigns (k : Nat) (hk : 9223372036854779990 < k) (calls : List (List Int)) (hc : Ll calls) (who : List Int) (hw : who.length ≤ 9223372036854775807) (w : Int) (hi : i64 w) :
    xC k none 14 [.ro (calls.map listV), .ro (who.map (intR .i64)), .lit (.int .i64 w)] = some (.lit (.bool true), []) := by
  obtain ⟨j, rfl⟩ : ∃ j, k = j + 61 := ⟨k - 61, by omega⟩
  rw [h_poacherlaw16_EventSigns, pure_ESigns j (by omega)]
  rfl
end Go.Ab
