/- Plain laws of what may happen. -/
import Derived.Test.YtecgfaaaloameaaR1Mod3
namespace Go.Ab
theorem stepE_who (t : List (Int × List Int)) (s : List Int) (a b c d : Int) : stepE t s (a, b, c) = stepE t s (a, b, d) := rfl
theorem stepE_len (t : List (Int × List Int)) (s : List Int) (e : Int × Int × Int) : (stepE t s e).1.length = s.length := by
  unfold stepE
  split
  · rfl
  · split
    · rfl
    · split
      · rfl
      · split <;> simp
/-- What may not happen changes nothing. -/
theorem stepE_no (t : List (Int × List Int)) (s : List Int) (e : Int × Int × Int) (h : (stepE t s e).2 = false) : (stepE t s e).1 = s := by
  unfold stepE at h ⊢
  split
  · rfl
  · split
    · rfl
    · split
      · rfl
      · split
        · rename_i h1 h2 h3 _ n hr
          rw [if_neg h1, if_neg h2, if_neg h3, hr] at h
          cases h
        · rfl
theorem set_same {s : List Int} {i : Nat} {x : Int} (h : (s[i]?).getD x = x) : s.set i x = s := by
  apply List.ext_getElem?
  intro j
  by_cases e : i = j
  · subst e
    by_cases hi : i < s.length
    · rw [List.getElem?_set_self hi]
      rw [List.getElem?_eq_getElem hi] at h ⊢
      simpa using h.symm
    · rw [List.getElem?_eq_none (by simpa using hi), List.getElem?_eq_none (by simpa using hi)]
  · rw [List.getElem?_set_ne e]
/-- Idle, and what is rejected, change nothing. -/
theorem stepE_calm (t : List (Int × List Int)) (s : List Int) (e : Int × Int × Int) (h : e.1 = 5 ∨ e.1 = 1) : (stepE t s e).1 = s := by
  unfold stepE
  split
  · rfl
  · split
    · rfl
    · split
      · rfl
      · rename_i h1 h2 h3
        have h4 : e.1 = 1 := by omega
        simp only [ruleB, h4]
        simp only [if_neg (show ¬ ((1 : Int) = 0) by omega), if_true]
        split
        · rename_i n hr
          split at hr
          · rename_i hc
            cases hr
            have hc1 := hc.1
            apply set_same
            exact hc1
          · cases hr
        · rfl
theorem stepE_other (t : List (Int × List Int)) (s : List Int) (e : Int × Int × Int) (q : Int) (h0 : 0 ≤ q) (hq : q ≠ e.2.1) (hk : 0 ≤ e.2.1 ∨ True) : (stepE t s e).1[q.toNat]? = s[q.toNat]? := by
  unfold stepE
  split
  · rfl
  · split
    · rfl
    · split
      · rfl
      · rename_i h1 h2 h3
        split
        · simp only
          rw [List.getElem?_set_ne (by omega)]
        · rfl
end Go.Ab
