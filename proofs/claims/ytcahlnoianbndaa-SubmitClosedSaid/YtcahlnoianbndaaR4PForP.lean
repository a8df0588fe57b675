/- Plain laws of forests. -/
import Derived.Test.YtcahlnoianbndaaR4PDef
set_option linter.unusedVariables false
set_option linter.unusedSimpArgs false
set_option linter.unusedVariables false
namespace Go.Ab

theorem mem_kidsAt {q i : Int} : ∀ {t : List (Int × List Int)} {s : Nat}, (q, i) ∈ kidsAt s t ↔ ∃ n x, t[n]? = some x ∧ q ∈ x.2 ∧ i = ((s + n : Nat) : Int)
  | [], s => by simp [kidsAt]
  | x :: t, s => by
    simp only [kidsAt, List.mem_append, List.mem_map, Prod.mk.injEq, mem_kidsAt (t := t) (s := s + 1)]
    constructor
    · rintro (⟨a, ha, rfl, rfl⟩ | ⟨n, y, hy, hq, rfl⟩)
      · exact ⟨0, x, rfl, ha, by simp⟩
      · exact ⟨n + 1, y, by simpa using hy, hq, by omega⟩
    · rintro ⟨n, y, hy, hq, rfl⟩
      cases n with
      | zero =>
        simp at hy
        subst hy
        exact .inl ⟨q, hq, rfl, by simp⟩
      | succ n => exact .inr ⟨n, y, by simpa using hy, hq, by omega⟩

theorem may_kids (n : Nat) : ∀ (l : List (Int × Int)) (had : HadN n), (∀ q ∈ l, 0 ≤ q.2) → (runS (mayStep n) l had).1 = true →
    (∀ q ∈ l, q.2 < q.1 ∧ q.1 < n ∧ had.1[q.1.toNat]? = some false) ∧ (l.map (·.1)).Nodup
  | [], had, _, _ => by simp
  | q :: l, had, h0, h => by
    simp only [runS] at h
    have hq0 := h0 q (by simp)
    cases hb : kidBad n had.1 q with
    | true => simp [mayStep, hb] at h
    | false =>
      have e1 : (mayStep n had q).1 = true := by simp [mayStep, hb]
      have e2 : (mayStep n had q).2.1 = had.1.set q.1.toNat true := by simp [mayStep, hb]
      rw [e1, if_pos rfl] at h
      obtain ⟨a, b⟩ := may_kids n l _ (fun x hx => h0 x (by simp [hx])) h
      simp only [kidBad, Bool.or_eq_false_iff, decide_eq_false_iff_not] at hb
      obtain ⟨⟨h1, h2⟩, h3⟩ := hb
      have h4 : q.1.toNat < had.1.length := by rw [had.2]; omega
      have h5 : had.1[q.1.toNat]? = some false := by
        rw [List.getElem?_eq_getElem h4] at h3 ⊢
        simpa using h3
      rw [e2] at a
      have h6 : ∀ x ∈ l, x.1 ≠ q.1 := by
        intro x hx e
        have := (a x hx).2.2
        rw [e, List.getElem?_set_self h4] at this
        cases this
      refine ⟨?_, ?_⟩
      · intro x hx
        rcases List.mem_cons.1 hx with rfl | hx
        · exact ⟨by omega, by omega, h5⟩
        · obtain ⟨u, v, w⟩ := a x hx
          refine ⟨u, v, ?_⟩
          have hx0 := h0 x (by simp [hx])
          rwa [List.getElem?_set_ne (by have := h6 x hx; omega)] at w
      · rw [List.map_cons, List.nodup_cons]
        refine ⟨?_, b⟩
        intro hm
        obtain ⟨x, hx, e⟩ := List.mem_map.1 hm
        exact h6 x hx e

structure May (t : List (Int × List Int)) : Prop where
  len : t.length ≤ 30
  work : ∀ x ∈ t, 0 ≤ x.1 ∧ x.1 ≤ 20
  kids : ∀ q ∈ kidsAt 0 t, 0 ≤ q.2 ∧ q.2 < q.1 ∧ q.1 < t.length
  once : ((kidsAt 0 t).map (·.1)).Nodup
theorem kidsAt_nonneg {t : List (Int × List Int)} {s : Nat} (q) (h : q ∈ kidsAt s t) : 0 ≤ q.2 := by
  obtain ⟨a, b⟩ := q
  obtain ⟨n, x, _, _, rfl⟩ := mem_kidsAt.1 h
  simp
  omega
theorem may_of {t : List (Int × List Int)} (h : mayB t = true) : May t := by
  unfold mayB at h
  simp only [Bool.and_eq_true, decide_eq_true_eq, Bool.not_eq_true'] at h
  obtain ⟨⟨h1, h2⟩, h3⟩ := h
  obtain ⟨a, b⟩ := may_kids t.length _ _ kidsAt_nonneg h3
  refine ⟨h1, ?_, fun q hq => ⟨kidsAt_nonneg q hq, (a q hq).1, (a q hq).2.1⟩, b⟩
  intro x hx
  have := List.any_eq_false.1 h2 x hx
  simp only [workBad, Bool.or_eq_true, decide_eq_true_eq, not_or] at this
  omega

theorem nodup_inj {α β : Type} {f : α → β} : ∀ {l : List α}, (l.map f).Nodup → ∀ {a b : α}, a ∈ l → b ∈ l → f a = f b → a = b
  | [], _, a, b, ha, _, _ => by simp at ha
  | x :: l, h, a, b, ha, hb, e => by
    rw [List.map_cons, List.nodup_cons] at h
    rcases List.mem_cons.1 ha with ha1 | ha1 <;> rcases List.mem_cons.1 hb with hb1 | hb1
    · rw [ha1, hb1]
    · exact absurd (show f x ∈ l.map f from List.mem_map.2 ⟨b, hb1, by rw [← e, ha1]⟩) h.1
    · exact absurd (show f x ∈ l.map f from List.mem_map.2 ⟨a, ha1, by rw [e, hb1]⟩) h.1
    · exact nodup_inj h.2 ha1 hb1 e
theorem count_le {α : Type} {f : α → Int} (q : Int) : ∀ {l : List α}, (l.map f).Nodup → l.countP (fun y => f y == q) ≤ 1
  | [], _ => by simp
  | x :: l, h => by
    rw [List.map_cons, List.nodup_cons] at h
    by_cases e : f x = q
    · rw [List.countP_cons_of_pos (by simpa using e)]
      have : l.countP (fun y => f y == q) = 0 := by
        rw [List.countP_eq_zero]
        intro y hy
        simp only [beq_iff_eq]
        intro e2
        exact h.1 (List.mem_map.2 ⟨y, hy, by rw [e2, e]⟩)
      omega
    · rw [List.countP_cons_of_neg (by simpa using e)]
      exact count_le q h.2
theorem par_run (p : Int) : ∀ (l : List (Int × Int)) (r : Int), runS (parStep p) l r = match l.find? (fun q => q.1 == p) with | some q => (false, q.2) | none => (true, r)
  | [], r => rfl
  | q :: l, r => by
    simp only [runS, parStep, List.find?_cons]
    by_cases h : q.1 = p
    · simp [h]
    · simp [h, beq_false_of_ne h, par_run p l r]
theorem parent_none {t : List (Int × List Int)} {p : Int} (hm : mayB t = true) (h : ∀ q ∈ kidsAt 0 t, q.1 ≠ p) : parentB t p = -1 := by
  have : (kidsAt 0 t).find? (fun q => q.1 == p) = none := by
    rw [List.find?_eq_none]
    intro q hq
    simpa using h q hq
  rw [parentB, if_pos hm, par_run, this]
  rfl
theorem parent_some {t : List (Int × List Int)} {p o : Int} (hm : mayB t = true) (h : (p, o) ∈ kidsAt 0 t) : parentB t p = o := by
  have hM := may_of hm
  cases hf : (kidsAt 0 t).find? (fun q => q.1 == p) with
  | none =>
    rw [List.find?_eq_none] at hf
    have := hf _ h
    simp at this
  | some q =>
    have h1 := List.mem_of_find?_eq_some hf
    have h2 := List.find?_some hf
    simp only [beq_iff_eq] at h2
    have h3 : q = (p, o) := by
      have hn := hM.once
      exact nodup_inj hn h1 h h2
    rw [parentB, if_pos hm, par_run, hf, h3]
    rfl
theorem parent_cases {t : List (Int × List Int)} (p : Int) (hm : mayB t = true) : (parentB t p = -1 ∧ ∀ q ∈ kidsAt 0 t, q.1 ≠ p) ∨ (∃ o, (p, o) ∈ kidsAt 0 t ∧ parentB t p = o) := by
  by_cases h : ∃ o, (p, o) ∈ kidsAt 0 t
  · obtain ⟨o, ho⟩ := h
    exact .inr ⟨o, ho, parent_some hm ho⟩
  · have : ∀ q ∈ kidsAt 0 t, q.1 ≠ p := fun q hq e => h ⟨q.2, by rw [← e]; exact hq⟩
    exact .inl ⟨parent_none hm this, this⟩

theorem mem_rootsAt {t : List (Int × List Int)} {k : Int} : ∀ {m i : Nat}, k ∈ rootsAt t i m ↔ ∃ j, i ≤ j ∧ j < i + m ∧ k = (j : Int) ∧ parentB t k = -1
  | 0, i => by
    simp only [rootsAt, List.not_mem_nil, false_iff, not_exists]
    omega
  | m + 1, i => by
    simp only [rootsAt]
    have ih := mem_rootsAt (t := t) (k := k) (m := m) (i := i + 1)
    split
    · rename_i h
      rw [List.mem_cons, ih]
      constructor
      · rintro (rfl | ⟨j, a, b, c, d⟩)
        · exact ⟨i, by omega, by omega, rfl, h⟩
        · exact ⟨j, by omega, by omega, c, d⟩
      · rintro ⟨j, a, b, c, d⟩
        by_cases e : j = i
        · subst e; exact .inl c
        · exact .inr ⟨j, by omega, by omega, c, d⟩
    · rename_i h
      rw [ih]
      constructor
      · rintro ⟨j, a, b, c, d⟩
        exact ⟨j, by omega, by omega, c, d⟩
      · rintro ⟨j, a, b, c, d⟩
        refine ⟨j, ?_, by omega, c, d⟩
        by_cases e : j = i
        · subst e; subst c; exact absurd d h
        · omega
theorem mem_roots {t : List (Int × List Int)} {k : Int} (hm : mayB t = true) : k ∈ rootsB t ↔ 0 ≤ k ∧ k < t.length ∧ parentB t k = -1 := by
  rw [rootsB, if_pos hm, mem_rootsAt]
  constructor
  · rintro ⟨j, _, a, rfl, b⟩
    exact ⟨by omega, by omega, b⟩
  · rintro ⟨a, b, c⟩
    exact ⟨k.toNat, by omega, by omega, by omega, c⟩
theorem rootsAt_sorted (t : List (Int × List Int)) : ∀ (m i : Nat), (rootsAt t i m).Pairwise (· < ·)
  | 0, i => by simp [rootsAt]
  | m + 1, i => by
    simp only [rootsAt]
    split
    · rw [List.pairwise_cons]
      refine ⟨fun k hk => ?_, rootsAt_sorted t m (i + 1)⟩
      obtain ⟨j, a, _, rfl, _⟩ := mem_rootsAt.1 hk
      omega
    · exact rootsAt_sorted t m (i + 1)
theorem roots_sorted (t : List (Int × List Int)) : (rootsB t).Pairwise (· < ·) := by
  unfold rootsB
  split
  · exact rootsAt_sorted t _ 0
  · exact List.Pairwise.nil
end Go.Ab
