/- Plain laws of what was accepted. -/
import Derived.Test.YtecgfaaaloameaaR1Mod4
namespace Go.Ab
theorem ruleB_cases {t : List (Int × List Int)} {s : List Int} {kd q n : Int} (h : ruleB t s kd q = some n) :
    (kd = 0 ∧ (s[q.toNat]?).getD 0 = 0 ∧ n = 1 ∧ parentB t q < 0) ∨ (kd = 1 ∧ (s[q.toNat]?).getD 0 = 0 ∧ n = 0 ∧ parentB t q < 0) ∨
    (kd = 3 ∧ (s[q.toNat]?).getD 0 = 0 ∧ n = 1 ∧ 0 ≤ parentB t q ∧ s[(parentB t q).toNat]? = some 2) ∨ (kd = 2 ∧ (s[q.toNat]?).getD 0 = 1 ∧ n = 2) ∨
    (kd = 4 ∧ (s[q.toNat]?).getD 0 = 2 ∧ n = 3 ∧ ((((t[q.toNat]?).getD (0, [])).2.any fun i => (idx s i).getD 1 == 0) = false)) := by
  unfold ruleB at h
  simp only at h
  split at h
  · rename_i h0
    split at h
    · rename_i h1
      cases h
      exact .inl ⟨h0, h1.1, rfl, h1.2⟩
    · cases h
  · split at h
    · rename_i h0
      split at h
      · rename_i h1
        cases h
        exact .inr (.inl ⟨h0, h1.1, rfl, h1.2⟩)
      · cases h
    · split at h
      · rename_i h0
        split at h
        · rename_i h1
          cases h
          exact .inr (.inr (.inl ⟨h0, h1.1, rfl, h1.2.1, h1.2.2⟩))
        · cases h
      · split at h
        · rename_i h0
          split at h
          · rename_i h1
            cases h
            exact .inr (.inr (.inr (.inl ⟨h0, h1, rfl⟩)))
          · cases h
        · split at h
          · rename_i h0
            split at h
            · rename_i h1
              cases h
              exact .inr (.inr (.inr (.inr ⟨h0, h1.1, rfl, h1.2⟩)))
            · cases h
          · cases h
/-- What may happen. -/
inductive Hap (t : List (Int × List Int)) (s : List Int) (e : Int × Int × Int) (u : List Int) : Prop where
  | idle (h : e.1 = 5) (hc : calmB s = true) (hu : u = s)
  | rule (n : Int) (h5 : e.1 ≠ 5) (h0 : 0 ≤ e.2.1) (hl : e.2.1 < t.length) (hr : ruleB t s e.1 e.2.1 = some n) (hu : u = s.set e.2.1.toNat n)
theorem hap_of {t : List (Int × List Int)} {s : List Int} {e : Int × Int × Int} (h : (stepE t s e).2 = true) : fitsB t s = true ∧ Hap t s e (stepE t s e).1 := by
  unfold stepE at h ⊢
  split
  · rename_i h1
    rw [if_pos h1] at h
    cases h
  · rename_i h1
    rw [if_neg h1] at h
    have hf : fitsB t s = true := by simpa using h1
    refine ⟨hf, ?_⟩
    split
    · rename_i h2
      rw [if_pos h2] at h
      exact .idle h2 h rfl
    · rename_i h2
      rw [if_neg h2] at h
      split
      · rename_i h3
        rw [if_pos h3] at h
        cases h
      · rename_i h3
        rw [if_neg h3] at h
        split
        · rename_i n hr
          exact .rule n h2 (by omega) (by omega) hr rfl
        · rename_i hr
          rw [hr] at h
          cases h
theorem getD_set {s : List Int} {i j : Nat} {n : Int} : ((s.set i n)[j]?).getD 0 = if i = j ∧ j < s.length then n else (s[j]?).getD 0 := by
  by_cases e : i = j
  · subst e
    by_cases h : i < s.length
    · simp [h]
    · simp [h, List.getElem?_eq_none (Nat.le_of_not_lt h), List.getElem?_eq_none (show (s.set i n).length ≤ i by simpa using h)]
  · simp [e, List.getElem?_set_ne e]
/-- Each task is where it was, or farther on. -/
theorem stepE_mono (t : List (Int × List Int)) (s : List Int) (e : Int × Int × Int) (i : Nat) : (s[i]?).getD 0 ≤ ((stepE t s e).1[i]?).getD 0 := by
  cases hb : (stepE t s e).2 with
  | false => rw [stepE_no t s e hb]; exact Int.le_refl _
  | true =>
    obtain ⟨_, h⟩ := hap_of hb
    cases h with
    | idle h hc hu => rw [hu]; exact Int.le_refl _
    | rule n h5 h0 hl hr hu =>
      rw [hu, getD_set]
      split
      · rename_i h
        rcases ruleB_cases hr with ⟨_, a, b, _⟩ | ⟨_, a, b, _⟩ | ⟨_, a, b, _⟩ | ⟨_, a, b⟩ | ⟨_, a, b, _⟩ <;> (rw [← h.1, a, b]; omega)
      · exact Int.le_refl _
theorem runL_append (t : List (Int × List Int)) : ∀ (a b : List (Int × Int × Int)) (s : List Int), runL t (a ++ b) s = if (runL t a s).2 = true then runL t b (runL t a s).1 else runL t a s
  | [], b, s => rfl
  | e :: a, b, s => by
    simp only [List.cons_append, runL]
    by_cases h : (stepE t s e).2 = true
    · simp only [h, if_true]
      exact runL_append t a b _
    · simp [h]
theorem runL_mono (t : List (Int × List Int)) (i : Nat) : ∀ (l : List (Int × Int × Int)) (s : List Int), (s[i]?).getD 0 ≤ ((runL t l s).1[i]?).getD 0
  | [], s => Int.le_refl _
  | e :: l, s => by
    simp only [runL]
    have h1 := stepE_mono t s e i
    split
    · exact Int.le_trans h1 (runL_mono t i l _)
    · exact h1
theorem runL_len (t : List (Int × List Int)) : ∀ (l : List (Int × Int × Int)) (s : List Int), (runL t l s).1.length = s.length
  | [], s => rfl
  | e :: l, s => by
    simp only [runL]
    split
    · rw [runL_len t l, stepE_len]
    · exact stepE_len t s e
theorem runE_len {t : List (Int × List Int)} (hm : mayB t = true) (l : List (Int × Int × Int)) : (runE t l).1.length = t.length := by
  unfold runE
  rw [runL_len, newB, if_pos hm]
  simp
/-- What was accepted stays so without the last ones. -/
theorem acc_take {t : List (Int × List Int)} {l : List (Int × Int × Int)} (n : Nat) (h : (runE t l).2 = true) : (runE t (l.take n)).2 = true := by
  have h1 : l = l.take n ++ l.drop n := (List.take_append_drop n l).symm
  unfold runE at h ⊢
  rw [h1, runL_append] at h
  split at h
  · assumption
  · exact h
theorem run_take {t : List (Int × List Int)} {l : List (Int × Int × Int)} (n : Nat) (h : (runE t l).2 = true) : runE t l = runL t (l.drop n) (runE t (l.take n)).1 := by
  have h1 : l = l.take n ++ l.drop n := (List.take_append_drop n l).symm
  have h2 := acc_take n h
  unfold runE at h2 ⊢
  rw [h1, runL_append]
  rw [← h1, if_pos h2]
end Go.Ab
