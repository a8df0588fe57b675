/- Plain laws of idleness. -/
import Derived.Test.YtecgfaaaloameaaR1ModQ
namespace Go.Ab
def busyN (s : List Int) : Int := (s.countP busyB : Nat)
theorem calm_iff (s : List Int) : calmB s = true ↔ busyN s = 0 := by
  unfold calmB busyN
  rw [Bool.not_eq_true', List.any_eq_false]
  constructor
  · intro h
    have : s.countP busyB = 0 := by
      rw [List.countP_eq_zero]
      exact h
    omega
  · intro h x hx
    have : s.countP busyB = 0 := by omega
    exact (List.countP_eq_zero.1 this) x hx
theorem busy_set : ∀ (s : List Int) (i : Nat) (x n : Int), s[i]? = some x → busyN (s.set i n) = busyN s + (if busyB n then 1 else 0) - (if busyB x then 1 else 0)
  | [], i, x, n, h => by simp at h
  | y :: s, 0, x, n, h => by
    simp at h
    subst h
    simp only [List.set_cons_zero, busyN]
    by_cases a : busyB n = true <;> by_cases b : busyB y = true <;> simp [a, b] <;> omega
  | y :: s, i + 1, x, n, h => by
    have ih := busy_set s i x n (by simpa using h)
    simp only [List.set_cons_succ, busyN] at ih ⊢
    by_cases b : busyB y = true
    · rw [List.countP_cons_of_pos b, List.countP_cons_of_pos b]
      omega
    · rw [List.countP_cons_of_neg b, List.countP_cons_of_neg b]
      exact ih
/-- How many are more, or less, at hand behind something. -/
def evD (e : Int × Int × Int) : Int := if e.1 = 0 ∨ e.1 = 3 then 1 else if e.1 = 4 then -1 else 0
theorem busy_step {t : List (Int × List Int)} {s : List Int} {e : Int × Int × Int} (h : (stepE t s e).2 = true) : busyN (stepE t s e).1 = busyN s + evD e := by
  obtain ⟨hf, hh⟩ := hap_of h
  have hsl : s.length = t.length := by
    simp only [fitsB, Bool.and_eq_true, beq_iff_eq] at hf
    exact hf.1.2
  cases hh with
  | idle h5 hc hu =>
    rw [hu]
    simp [evD, h5]
  | rule n h5 h0 hl hr hu =>
    have i1 : s[e.2.1.toNat]? = some s[e.2.1.toNat] := List.getElem?_eq_getElem (by omega)
    rw [hu, busy_set s _ _ n i1]
    rcases ruleB_cases hr with ⟨a, b, c, _⟩ | ⟨a, b, c, _⟩ | ⟨a, b, c, _⟩ | ⟨a, b, c⟩ | ⟨a, b, c, _⟩ <;>
    · rw [i1] at b
      simp only [Option.getD_some] at b
      rw [b, c]
      simp [evD, a, busyB] <;> omega
theorem busy_run (t : List (Int × List Int)) : ∀ (l : List (Int × Int × Int)) (s : List Int), (runL t l s).2 = true → busyN (runL t l s).1 = busyN s + (l.map evD).sum
  | [], s, _ => by simp [runL]
  | e :: l, s, h => by
    simp only [runL] at h ⊢
    split at h
    · rename_i h1
      rw [if_pos h1, busy_run t l _ h, busy_step h1]
      simp
      omega
    · cases h
theorem busy_new (t : List (Int × List Int)) : busyN (newB t) = 0 := by
  unfold newB
  split
  · have : (List.replicate t.length (0 : Int)).countP busyB = 0 := by
      rw [List.countP_eq_zero]
      intro x hx
      rw [List.eq_of_mem_replicate hx]
      decide
    unfold busyN
    omega
  · rfl
theorem fits_step {t : List (Int × List Int)} {s : List Int} {e : Int × Int × Int} (h : fitsB t s = true) : fitsB t (stepE t s e).1 = true := by
  cases hb : (stepE t s e).2 with
  | false => rw [stepE_no t s e hb]; exact h
  | true =>
    obtain ⟨_, hh⟩ := hap_of hb
    cases hh with
    | idle _ _ hu => rw [hu]; exact h
    | rule n h5 h0 hl hr hu =>
      rw [hu]
      have hn : ¬ oddB n = true := by
        rcases ruleB_cases hr with ⟨_, _, b, _⟩ | ⟨_, _, b, _⟩ | ⟨_, _, b, _⟩ | ⟨_, _, b⟩ | ⟨_, _, b, _⟩ <;> (rw [b]; decide)
      simp only [fitsB, Bool.and_eq_true, beq_iff_eq, List.length_set, Bool.not_eq_true', List.any_eq_false] at h ⊢
      refine ⟨h.1, fun x hx => ?_⟩
      rcases List.mem_or_eq_of_mem_set hx with g | g
      · exact h.2 x g
      · rw [g]; exact hn
theorem fits_run (t : List (Int × List Int)) : ∀ (l : List (Int × Int × Int)) (s : List Int), fitsB t s = true → fitsB t (runL t l s).1 = true
  | [], s, h => h
  | e :: l, s, h => by
    simp only [runL]
    split
    · exact fits_run t l _ (fits_step h)
    · exact fits_step h
theorem fits_new {t : List (Int × List Int)} (h : mayB t = true) : fitsB t (newB t) = true := by
  unfold newB
  rw [if_pos h]
  simp only [fitsB, h, Bool.true_and, List.length_replicate, Bool.and_eq_true, beq_iff_eq, Bool.not_eq_true', List.any_eq_false]
  refine ⟨trivial, fun x hx => ?_⟩
  rw [List.eq_of_mem_replicate hx]
  decide
/-- Idle is told just if nothing is ready, or runs. -/
theorem run_idle {t : List (Int × List Int)} {l : List (Int × Int × Int)} (hm : mayB t = true) (h : (runE t l).2 = true) (o w : Int) : (runE t (l ++ [(5, o, w)])).2 = calmB (runE t l).1 := by
  have hf : fitsB t (runE t l).1 = true := fits_run t l _ (fits_new hm)
  have h5 : stepE t (runE t l).1 (5, o, w) = ((runE t l).1, calmB (runE t l).1) := by simp [stepE, hf]
  unfold runE at h ⊢
  unfold runE at h5
  rw [runL_append, if_pos h]
  simp only [runL, h5]
  cases calmB (runL t l (newB t)).1 <;> rfl
end Go.Ab
