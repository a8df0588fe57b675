/- Plain laws of forests. -/
import Derived.Test.YtcmdnjaenhbdpaaGreatR5PDef
set_option linter.unusedVariables false
set_option linter.unusedSimpArgs false
set_option linter.unusedVariables false
namespace Go.Ab

theorem mem_kidsAt {q i : Int} : ∀ {t : List (Int × List Int)} {s : Nat}, (q, i) ∈ kidsAt s t ↔ ∃ n x, t[n]? = some x ∧ q ∈ x.2 ∧ i = ((s + n : Nat) : Int)
  | [], s => by simp [kidsAt]
  | x :: t, s => by
    simp only [kidsAt, List.mem_append, List.mem_map, Prod.mk.injEq, mem_kidsAt (t := t) (s := s + 1)]
    constructor
    · rintro (⟨a, ha, rfl, rfl⟩ | ⟨n, y, hy, hq, rfl⟩)
      · exact ⟨0, x, rfl, ha, by simp⟩
      · exact ⟨n + 1, y, by simpa using hy, hq, by omega⟩
    · rintro ⟨n, y, hy, hq, rfl⟩
      cases n with
      | zero =>
        simp at hy
        subst hy
        exact .inl ⟨q, hq, rfl, by simp⟩
      | succ n => exact .inr ⟨n, y, by simpa using hy, hq, by omega⟩

theorem may_kids (n : Nat) : ∀ (l : List (Int × Int)) (had : HadN n), (∀ q ∈ l, 0 ≤ q.2) → (runS (mayStep n) l had).1 = true →
    (∀ q ∈ l, q.2 < q.1 ∧ q.1 < n ∧ had.1[q.1.toNat]? = some false) ∧ (l.map (·.1)).Nodup
  | [], had, _, _ => by simp
  | q :: l, had, h0, h => by
    simp only [runS] at h
    have hq0 := h0 q (by simp)
    cases hb : kidBad n had.1 q with
    | true => simp [mayStep, hb] at h
    | false =>
      have e1 : (mayStep n had q).1 = true := by simp [mayStep, hb]
      have e2 : (mayStep n had q).2.1 = had.1.set q.1.toNat true := by simp [mayStep, hb]
      rw [e1, if_pos rfl] at h
      obtain ⟨a, b⟩ := may_kids n l _ (fun x hx => h0 x (by simp [hx])) h
      simp only [kidBad, Bool.or_eq_false_iff, decide_eq_false_iff_not] at hb
      obtain ⟨⟨h1, h2⟩, h3⟩ := hb
      have h4 : q.1.toNat < had.1.length := by rw [had.2]; omega
      have h5 : had.1[q.1.toNat]? = some false := by
        rw [List.getElem?_eq_getElem h4] at h3 ⊢
        simpa using h3
      rw [e2] at a
      have h6 : ∀ x ∈ l, x.1 ≠ q.1 := by
        intro x hx e
        have := (a x hx).2.2
        rw [e, List.getElem?_set_self h4] at this
        cases this
      refine ⟨?_, ?_⟩
      · intro x hx
        rcases List.mem_cons.1 hx with rfl | hx
        · exact ⟨by omega, by omega, h5⟩
        · obtain ⟨u, v, w⟩ := a x hx
          refine ⟨u, v, ?_⟩
          have hx0 := h0 x (by simp [hx])
          rwa [List.getElem?_set_ne (by have := h6 x hx; omega)] at w
      · rw [List.map_cons, List.nodup_cons]
        refine ⟨?_, b⟩
        intro hm
        obtain ⟨x, hx, e⟩ := List.mem_map.1 hm
        exact h6 x hx e

structure May (t : List (Int × List Int)) : Prop where
  len : t.length ≤ 30
  work : ∀ x ∈ t, 0 ≤ x.1 ∧ x.1 ≤ 20
  kids : ∀ q ∈ kidsAt 0 t, 0 ≤ q.2 ∧ q.2 < q.1 ∧ q.1 < t.length
  once : ((kidsAt 0 t).map (·.1)).Nodup
theorem kidsAt_nonneg {t : List (Int × List Int)} {s : Nat} (q) (h : q ∈ kidsAt s t) : 0 ≤ q.2 := by
  obtain ⟨a, b⟩ := q
  obtain ⟨n, x, _, _, rfl⟩ := mem_kidsAt.1 h
  simp
  omega
theorem may_of {t : List (Int × List Int)} (h : mayB t = true) : May t := by
  unfold mayB at h
  simp only [Bool.and_eq_true, decide_eq_true_eq, Bool.not_eq_true'] at h
  obtain ⟨⟨h1, h2⟩, h3⟩ := h
  obtain ⟨a, b⟩ := may_kids t.length _ _ kidsAt_nonneg h3
  refine ⟨h1, ?_, fun q hq => ⟨kidsAt_nonneg q hq, (a q hq).1, (a q hq).2.1⟩, b⟩
  intro x hx
  have := List.any_eq_false.1 h2 x hx
  simp only [workBad, Bool.or_eq_true, decide_eq_true_eq, not_or] at this
  omega

end Go.Ab
