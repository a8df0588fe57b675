/- Plain laws of what happens. -/
import Derived.Test.YtecgfaaaloameaaR1PForP
set_option linter.unusedVariables false
set_option linter.unusedSimpArgs false
namespace Go.Ab
theorem stepE_who (t : List (Int × List Int)) (s : List Int) (a b c d : Int) : stepE t s (a, b, c) = stepE t s (a, b, d) := rfl
theorem stepE_len (t : List (Int × List Int)) (s : List Int) (e : Int × Int × Int) : (stepE t s e).1.length = s.length := by
  unfold stepE
  split
  · rfl
  · split
    · rfl
    · split
      · rfl
      · split <;> simp
/-- What may not happen changes nothing. -/
theorem stepE_no (t : List (Int × List Int)) (s : List Int) (e : Int × Int × Int) (h : (stepE t s e).2 = false) : (stepE t s e).1 = s := by
  unfold stepE at h ⊢
  split
  · rfl
  · split
    · rfl
    · split
      · rfl
      · split
        · rename_i h1 h2 h3 _ n hr
          rw [if_neg h1, if_neg h2, if_neg h3, hr] at h
          cases h
        · rfl
theorem set_same {s : List Int} {i : Nat} {x : Int} (h : (s[i]?).getD x = x) : s.set i x = s := by
  apply List.ext_getElem?
  intro j
  by_cases e : i = j
  · subst e
    by_cases hi : i < s.length
    · rw [List.getElem?_set_self hi]
      rw [List.getElem?_eq_getElem hi] at h ⊢
      simpa using h.symm
    · rw [List.getElem?_eq_none (by simpa using hi), List.getElem?_eq_none (by simpa using hi)]
  · rw [List.getElem?_set_ne e]
/-- Idle, and what is rejected, change nothing. -/
theorem stepE_calm (t : List (Int × List Int)) (s : List Int) (e : Int × Int × Int) (h : e.1 = 5 ∨ e.1 = 1) : (stepE t s e).1 = s := by
  unfold stepE
  split
  · rfl
  · split
    · rfl
    · split
      · rfl
      · rename_i h1 h2 h3
        have h4 : e.1 = 1 := by omega
        simp only [ruleB, h4]
        simp only [if_neg (show ¬ ((1 : Int) = 0) by omega), if_true]
        split
        · rename_i n hr
          split at hr
          · rename_i hc
            cases hr
            have hc1 := hc.1
            apply set_same
            exact hc1
          · cases hr
        · rfl
theorem stepE_other (t : List (Int × List Int)) (s : List Int) (e : Int × Int × Int) (q : Int) (h0 : 0 ≤ q) (hq : q ≠ e.2.1) (hk : 0 ≤ e.2.1 ∨ True) : (stepE t s e).1[q.toNat]? = s[q.toNat]? := by
  unfold stepE
  split
  · rfl
  · split
    · rfl
    · split
      · rfl
      · rename_i h1 h2 h3
        split
        · simp only
          rw [List.getElem?_set_ne (by omega)]
        · rfl
end Go.Ab
namespace Go.Ab
theorem ruleB_cases {t : List (Int × List Int)} {s : List Int} {kd q n : Int} (h : ruleB t s kd q = some n) :
    (kd = 0 ∧ (s[q.toNat]?).getD 0 = 0 ∧ n = 1 ∧ parentB t q < 0) ∨ (kd = 1 ∧ (s[q.toNat]?).getD 0 = 0 ∧ n = 0 ∧ parentB t q < 0) ∨
    (kd = 3 ∧ (s[q.toNat]?).getD 0 = 0 ∧ n = 1 ∧ 0 ≤ parentB t q ∧ s[(parentB t q).toNat]? = some 2) ∨ (kd = 2 ∧ (s[q.toNat]?).getD 0 = 1 ∧ n = 2) ∨
    (kd = 4 ∧ (s[q.toNat]?).getD 0 = 2 ∧ n = 3 ∧ ((((t[q.toNat]?).getD (0, [])).2.any fun i => (idx s i).getD 1 == 0) = false)) := by
  unfold ruleB at h
  simp only at h
  split at h
  · rename_i h0
    split at h
    · rename_i h1
      cases h
      exact .inl ⟨h0, h1.1, rfl, h1.2⟩
    · cases h
  · split at h
    · rename_i h0
      split at h
      · rename_i h1
        cases h
        exact .inr (.inl ⟨h0, h1.1, rfl, h1.2⟩)
      · cases h
    · split at h
      · rename_i h0
        split at h
        · rename_i h1
          cases h
          exact .inr (.inr (.inl ⟨h0, h1.1, rfl, h1.2.1, h1.2.2⟩))
        · cases h
      · split at h
        · rename_i h0
          split at h
          · rename_i h1
            cases h
            exact .inr (.inr (.inr (.inl ⟨h0, h1, rfl⟩)))
          · cases h
        · split at h
          · rename_i h0
            split at h
            · rename_i h1
              cases h
              exact .inr (.inr (.inr (.inr ⟨h0, h1.1, rfl, h1.2⟩)))
            · cases h
          · cases h
/-- What may happen. -/
inductive Hap (t : List (Int × List Int)) (s : List Int) (e : Int × Int × Int) (u : List Int) : Prop where
  | idle (h : e.1 = 5) (hc : calmB s = true) (hu : u = s)
  | rule (n : Int) (h5 : e.1 ≠ 5) (h0 : 0 ≤ e.2.1) (hl : e.2.1 < t.length) (hr : ruleB t s e.1 e.2.1 = some n) (hu : u = s.set e.2.1.toNat n)
theorem hap_of {t : List (Int × List Int)} {s : List Int} {e : Int × Int × Int} (h : (stepE t s e).2 = true) : fitsB t s = true ∧ Hap t s e (stepE t s e).1 := by
  unfold stepE at h ⊢
  split
  · rename_i h1
    rw [if_pos h1] at h
    cases h
  · rename_i h1
    rw [if_neg h1] at h
    have hf : fitsB t s = true := by simpa using h1
    refine ⟨hf, ?_⟩
    split
    · rename_i h2
      rw [if_pos h2] at h
      exact .idle h2 h rfl
    · rename_i h2
      rw [if_neg h2] at h
      split
      · rename_i h3
        rw [if_pos h3] at h
        cases h
      · rename_i h3
        rw [if_neg h3] at h
        split
        · rename_i n hr
          exact .rule n h2 (by omega) (by omega) hr rfl
        · rename_i hr
          rw [hr] at h
          cases h
theorem getD_set {s : List Int} {i j : Nat} {n : Int} : ((s.set i n)[j]?).getD 0 = if i = j ∧ j < s.length then n else (s[j]?).getD 0 := by
  by_cases e : i = j
  · subst e
    by_cases h : i < s.length
    · simp [h]
    · simp [h, List.getElem?_eq_none (Nat.le_of_not_lt h), List.getElem?_eq_none (show (s.set i n).length ≤ i by simpa using h)]
  · simp [e, List.getElem?_set_ne e]
/-- Each task is where it was, or farther on. -/
theorem stepE_mono (t : List (Int × List Int)) (s : List Int) (e : Int × Int × Int) (i : Nat) : (s[i]?).getD 0 ≤ ((stepE t s e).1[i]?).getD 0 := by
  cases hb : (stepE t s e).2 with
  | false => rw [stepE_no t s e hb]; exact Int.le_refl _
  | true =>
    obtain ⟨_, h⟩ := hap_of hb
    cases h with
    | idle h hc hu => rw [hu]; exact Int.le_refl _
    | rule n h5 h0 hl hr hu =>
      rw [hu, getD_set]
      split
      · rename_i h
        rcases ruleB_cases hr with ⟨_, a, b, _⟩ | ⟨_, a, b, _⟩ | ⟨_, a, b, _⟩ | ⟨_, a, b⟩ | ⟨_, a, b, _⟩ <;> (rw [← h.1, a, b]; omega)
      · exact Int.le_refl _
theorem runL_append (t : List (Int × List Int)) : ∀ (a b : List (Int × Int × Int)) (s : List Int), runL t (a ++ b) s = if (runL t a s).2 = true then runL t b (runL t a s).1 else runL t a s
  | [], b, s => rfl
  | e :: a, b, s => by
    simp only [List.cons_append, runL]
    by_cases h : (stepE t s e).2 = true
    · simp only [h, if_true]
      exact runL_append t a b _
    · simp [h]
theorem runL_mono (t : List (Int × List Int)) (i : Nat) : ∀ (l : List (Int × Int × Int)) (s : List Int), (s[i]?).getD 0 ≤ ((runL t l s).1[i]?).getD 0
  | [], s => Int.le_refl _
  | e :: l, s => by
    simp only [runL]
    have h1 := stepE_mono t s e i
    split
    · exact Int.le_trans h1 (runL_mono t i l _)
    · exact h1
theorem runL_len (t : List (Int × List Int)) : ∀ (l : List (Int × Int × Int)) (s : List Int), (runL t l s).1.length = s.length
  | [], s => rfl
  | e :: l, s => by
    simp only [runL]
    split
    · rw [runL_len t l, stepE_len]
    · exact stepE_len t s e
theorem runE_len {t : List (Int × List Int)} (hm : mayB t = true) (l : List (Int × Int × Int)) : (runE t l).1.length = t.length := by
  unfold runE
  rw [runL_len, newB, if_pos hm]
  simp
/-- What was accepted stays so without the last ones. -/
theorem acc_take {t : List (Int × List Int)} {l : List (Int × Int × Int)} (n : Nat) (h : (runE t l).2 = true) : (runE t (l.take n)).2 = true := by
  have h1 : l = l.take n ++ l.drop n := (List.take_append_drop n l).symm
  unfold runE at h ⊢
  rw [h1, runL_append] at h
  split at h
  · assumption
  · exact h
theorem run_take {t : List (Int × List Int)} {l : List (Int × Int × Int)} (n : Nat) (h : (runE t l).2 = true) : runE t l = runL t (l.drop n) (runE t (l.take n)).1 := by
  have h1 : l = l.take n ++ l.drop n := (List.take_append_drop n l).symm
  have h2 := acc_take n h
  unfold runE at h2 ⊢
  rw [h1, runL_append]
  rw [← h1, if_pos h2]
end Go.Ab
namespace Go.Ab
def busyN (s : List Int) : Int := (s.countP busyB : Nat)
theorem calm_iff (s : List Int) : calmB s = true ↔ busyN s = 0 := by
  unfold calmB busyN
  rw [Bool.not_eq_true', List.any_eq_false]
  constructor
  · intro h
    have : s.countP busyB = 0 := by
      rw [List.countP_eq_zero]
      exact h
    omega
  · intro h x hx
    have : s.countP busyB = 0 := by omega
    exact (List.countP_eq_zero.1 this) x hx
theorem busy_set : ∀ (s : List Int) (i : Nat) (x n : Int), s[i]? = some x → busyN (s.set i n) = busyN s + (if busyB n then 1 else 0) - (if busyB x then 1 else 0)
  | [], i, x, n, h => by simp at h
  | y :: s, 0, x, n, h => by
    simp at h
    subst h
    simp only [List.set_cons_zero, busyN]
    by_cases a : busyB n = true <;> by_cases b : busyB y = true <;> simp [a, b] <;> omega
  | y :: s, i + 1, x, n, h => by
    have ih := busy_set s i x n (by simpa using h)
    simp only [List.set_cons_succ, busyN] at ih ⊢
    by_cases b : busyB y = true
    · rw [List.countP_cons_of_pos b, List.countP_cons_of_pos b]
      omega
    · rw [List.countP_cons_of_neg b, List.countP_cons_of_neg b]
      exact ih
/-- How many are more, or less, at hand behind something. -/
def evD (e : Int × Int × Int) : Int := if e.1 = 0 ∨ e.1 = 3 then 1 else if e.1 = 4 then -1 else 0
theorem busy_step {t : List (Int × List Int)} {s : List Int} {e : Int × Int × Int} (h : (stepE t s e).2 = true) : busyN (stepE t s e).1 = busyN s + evD e := by
  obtain ⟨hf, hh⟩ := hap_of h
  have hsl : s.length = t.length := by
    simp only [fitsB, Bool.and_eq_true, beq_iff_eq] at hf
    exact hf.1.2
  cases hh with
  | idle h5 hc hu =>
    rw [hu]
    simp [evD, h5]
  | rule n h5 h0 hl hr hu =>
    have i1 : s[e.2.1.toNat]? = some s[e.2.1.toNat] := List.getElem?_eq_getElem (by omega)
    rw [hu, busy_set s _ _ n i1]
    rcases ruleB_cases hr with ⟨a, b, c, _⟩ | ⟨a, b, c, _⟩ | ⟨a, b, c, _⟩ | ⟨a, b, c⟩ | ⟨a, b, c, _⟩ <;>
    · rw [i1] at b
      simp only [Option.getD_some] at b
      rw [b, c]
      simp [evD, a, busyB] <;> omega
theorem busy_run (t : List (Int × List Int)) : ∀ (l : List (Int × Int × Int)) (s : List Int), (runL t l s).2 = true → busyN (runL t l s).1 = busyN s + (l.map evD).sum
  | [], s, _ => by simp [runL]
  | e :: l, s, h => by
    simp only [runL] at h ⊢
    split at h
    · rename_i h1
      rw [if_pos h1, busy_run t l _ h, busy_step h1]
      simp
      omega
    · cases h
theorem busy_new (t : List (Int × List Int)) : busyN (newB t) = 0 := by
  unfold newB
  split
  · have : (List.replicate t.length (0 : Int)).countP busyB = 0 := by
      rw [List.countP_eq_zero]
      intro x hx
      rw [List.eq_of_mem_replicate hx]
      decide
    unfold busyN
    omega
  · rfl
theorem fits_step {t : List (Int × List Int)} {s : List Int} {e : Int × Int × Int} (h : fitsB t s = true) : fitsB t (stepE t s e).1 = true := by
  cases hb : (stepE t s e).2 with
  | false => rw [stepE_no t s e hb]; exact h
  | true =>
    obtain ⟨_, hh⟩ := hap_of hb
    cases hh with
    | idle _ _ hu => rw [hu]; exact h
    | rule n h5 h0 hl hr hu =>
      rw [hu]
      have hn : ¬ oddB n = true := by
        rcases ruleB_cases hr with ⟨_, _, b, _⟩ | ⟨_, _, b, _⟩ | ⟨_, _, b, _⟩ | ⟨_, _, b⟩ | ⟨_, _, b, _⟩ <;> (rw [b]; decide)
      simp only [fitsB, Bool.and_eq_true, beq_iff_eq, List.length_set, Bool.not_eq_true', List.any_eq_false] at h ⊢
      refine ⟨h.1, fun x hx => ?_⟩
      rcases List.mem_or_eq_of_mem_set hx with g | g
      · exact h.2 x g
      · rw [g]; exact hn
theorem fits_run (t : List (Int × List Int)) : ∀ (l : List (Int × Int × Int)) (s : List Int), fitsB t s = true → fitsB t (runL t l s).1 = true
  | [], s, h => h
  | e :: l, s, h => by
    simp only [runL]
    split
    · exact fits_run t l _ (fits_step h)
    · exact fits_step h
theorem fits_new {t : List (Int × List Int)} (h : mayB t = true) : fitsB t (newB t) = true := by
  unfold newB
  rw [if_pos h]
  simp only [fitsB, h, Bool.true_and, List.length_replicate, Bool.and_eq_true, beq_iff_eq, Bool.not_eq_true', List.any_eq_false]
  refine ⟨trivial, fun x hx => ?_⟩
  rw [List.eq_of_mem_replicate hx]
  decide
/-- Idle is told just if nothing is ready, or runs. -/
theorem run_idle {t : List (Int × List Int)} {l : List (Int × Int × Int)} (hm : mayB t = true) (h : (runE t l).2 = true) (o w : Int) : (runE t (l ++ [(5, o, w)])).2 = calmB (runE t l).1 := by
  have hf : fitsB t (runE t l).1 = true := fits_run t l _ (fits_new hm)
  have h5 : stepE t (runE t l).1 (5, o, w) = ((runE t l).1, calmB (runE t l).1) := by simp [stepE, hf]
  unfold runE at h ⊢
  unfold runE at h5
  rw [runL_append, if_pos h]
  simp only [runL, h5]
  cases calmB (runL t l (newB t)).1 <;> rfl
end Go.Ab
