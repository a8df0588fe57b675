/- When tasks may be: the other way; tasks with one more, and with one less. -/
import Derived.Test.YtecgfaaaloameaaR1PForP
set_option linter.unusedVariables false
namespace Go.Ab
theorem may_run (n : Nat) : ∀ (l : List (Int × Int)) (had : HadN n), (∀ q ∈ l, 0 ≤ q.2 ∧ q.2 < q.1 ∧ q.1 < n ∧ had.1[q.1.toNat]? = some false) → (l.map (·.1)).Nodup → (runS (mayStep n) l had).1 = true
  | [], had, _, _ => rfl
  | q :: l, had, h, hn => by
    obtain ⟨h0, h1, h2, h3⟩ := h q (by simp)
    have hb : kidBad n had.1 q = false := by
      unfold kidBad
      rw [h3]
      simp
      omega
    have e1 : (mayStep n had q).1 = true := by simp [mayStep, hb]
    have e2 : (mayStep n had q).2.1 = had.1.set q.1.toNat true := by simp [mayStep, hb]
    simp only [runS]
    rw [e1, if_pos rfl]
    rw [List.map_cons, List.nodup_cons] at hn
    refine may_run n l _ (fun x hx => ?_) hn.2
    obtain ⟨a, b, c, d⟩ := h x (by simp [hx])
    refine ⟨a, b, c, ?_⟩
    have hne : x.1 ≠ q.1 := fun e => hn.1 (List.mem_map.2 ⟨x, hx, e⟩)
    rw [e2, List.getElem?_set_ne (by omega), d]
theorem of_may {t : List (Int × List Int)} (h : May t) : mayB t = true := by
  unfold mayB
  have h1 : t.any workBad = false := by
    rw [List.any_eq_false]
    intro x hx
    have := h.work x hx
    unfold workBad
    rw [Bool.or_eq_true, decide_eq_true_eq, decide_eq_true_eq]
    omega
  have h2 : (runS (mayStep t.length) (kidsAt 0 t) (noneHad t.length)).1 = true := by
    refine may_run t.length _ _ (fun q hq => ?_) h.once
    obtain ⟨a, b, c⟩ := h.kids q hq
    refine ⟨a, b, c, ?_⟩
    rw [noneHad, List.getElem?_replicate, if_pos (by omega)]
  rw [h1, h2, decide_eq_true h.len]
  rfl
theorem may_eq {t : List (Int × List Int)} {b : Bool} (h : b = true ↔ May t) : mayB t = b := by
  cases b with
  | true => exact of_may (h.1 rfl)
  | false =>
    cases e : mayB t with
    | false => rfl
    | true => exact absurd (h.2 (may_of e)) (by simp)
theorem kidsAt_append : ∀ (a b : List (Int × List Int)) (s : Nat), kidsAt s (a ++ b) = kidsAt s a ++ kidsAt (s + a.length) b
  | [], b, s => by simp [kidsAt]
  | x :: a, b, s => by
    rw [List.cons_append, kidsAt, kidsAt, kidsAt_append a b (s + 1), List.append_assoc, List.length_cons]
    have : s + 1 + a.length = s + (a.length + 1) := by omega
    rw [this]

/-! ### One less -/
/-- Tasks without the last one. -/
def fewer (t : List (Int × List Int)) : List (Int × List Int) := t.dropLast.map fun x => (x.1, x.2.filter fun k => k != ((t.length : Int) - 1))
theorem kids_filter {F : Int → Bool} : ∀ {t : List (Int × List Int)} {s : Nat}, ((kidsAt s (t.map fun x => (x.1, x.2.filter F))).map (·.1)).Sublist ((kidsAt s t).map (·.1))
  | [], _ => List.Sublist.slnil
  | x :: t, s => by
    simp only [List.map_cons, kidsAt, List.map_append, List.map_map]
    have e : ∀ l : List Int, l.map ((fun z : Int × Int => z.1) ∘ fun k => (k, (s : Int))) = l := by
      intro l
      have : ((fun z : Int × Int => z.1) ∘ fun k => (k, (s : Int))) = id := rfl
      rw [this, List.map_id]
    rw [e, e]
    exact List.Sublist.append List.filter_sublist kids_filter
theorem fewer_may {t : List (Int × List Int)} (h : May t) (hn : 0 < t.length) : May (fewer t) := by
  have hl : (fewer t).length = t.length - 1 := by simp [fewer]
  have hs : t.dropLast ++ [t.getLast (List.ne_nil_of_length_pos hn)] = t := List.dropLast_concat_getLast _
  have hsub : ((kidsAt 0 t.dropLast).map (·.1)).Sublist ((kidsAt 0 t).map (·.1)) := by
    conv => rhs; rw [← hs, kidsAt_append, List.map_append]
    exact List.sublist_append_left _ _
  refine ⟨by have := h.len; omega, ?_, ?_, ?_⟩
  · intro x hx
    obtain ⟨y, hy, rfl⟩ := List.mem_map.1 hx
    exact h.work y ((List.dropLast_sublist t).subset hy)
  · intro q hq
    obtain ⟨a, b⟩ := q
    obtain ⟨n, x, hx, ha, hb⟩ := mem_kidsAt.1 hq
    unfold fewer at hx
    rw [List.getElem?_map] at hx
    cases hd : t.dropLast[n]? with
    | none => rw [hd] at hx; cases hx
    | some y =>
      rw [hd] at hx
      simp at hx
      subst hx
      simp only [List.mem_filter] at ha
      have hy : t[n]? = some y := by
        rw [← hs]
        rw [List.getElem?_append_left (List.getElem?_eq_some_iff.1 hd).1]
        exact hd
      have := h.kids (a, b) (mem_kidsAt.2 ⟨n, y, hy, ha.1, hb⟩)
      have h2 : a ≠ (t.length : Int) - 1 := by simpa using ha.2
      simp only at this ⊢
      omega
  · unfold fewer
    exact (kids_filter.trans hsub).nodup h.once
theorem fewer_sum {t : List (Int × List Int)} (hn : 0 < t.length) : (t.map (·.1)).sum = ((fewer t).map (·.1)).sum + (t[t.length - 1]).1 := by
  have hs : t.dropLast ++ [t.getLast (List.ne_nil_of_length_pos hn)] = t := List.dropLast_concat_getLast _
  conv => lhs; rw [← hs]
  rw [List.map_append, List.sum_append, fewer, List.map_map, List.getLast_eq_getElem]
  have : ((fun x : Int × List Int => x.1) ∘ fun x : Int × List Int => (x.1, x.2.filter fun k => k != ((t.length : Int) - 1))) = fun x => x.1 := rfl
  rw [this]
  simp

/-! ### One more -/
theorem more_kids (t : List (Int × List Int)) (w : Int) : kidsAt 0 (t ++ [(w, [])]) = kidsAt 0 t := by
  rw [kidsAt_append]
  simp [kidsAt]
theorem more_may {t : List (Int × List Int)} (h : May t) (w : Int) : May (t ++ [(w, [])]) ↔ (t.length < 30 ∧ 0 ≤ w ∧ w ≤ 20) := by
  constructor
  · intro hm
    have := hm.len
    have := hm.work (w, []) (by simp)
    simp at this
    rw [List.length_append, List.length_singleton] at *
    omega
  · rintro ⟨h1, h2, h3⟩
    refine ⟨by simp; omega, ?_, ?_, ?_⟩
    · intro x hx
      rcases List.mem_append.1 hx with hx | hx
      · exact h.work x hx
      · simp at hx
        subst hx
        exact ⟨h2, h3⟩
    · rw [more_kids]
      intro q hq
      have := h.kids q hq
      simp
      omega
    · rw [more_kids]
      exact h.once
theorem more_par {t : List (Int × List Int)} {w : Int} (h : mayB t = true) (h2 : mayB (t ++ [(w, [])]) = true) (q : Int) : parentB (t ++ [(w, [])]) q = parentB t q := by
  unfold parentB
  rw [h, h2, more_kids]
theorem roots_len {t u : List (Int × List Int)} : ∀ (m i : Nat), (∀ q : Nat, i ≤ q → q < i + m → parentB t q = parentB u q) → (rootsAt t i m) = (rootsAt u i m)
  | 0, _, _ => rfl
  | m + 1, i, h => by
    rw [rootsAt, rootsAt, h i (by omega) (by omega), roots_len m (i + 1) fun q a b => h q (by omega) (by omega)]
theorem rootsAt_succ (t : List (Int × List Int)) : ∀ (m i : Nat), rootsAt t i (m + 1) = rootsAt t i m ++ (if parentB t ((i + m : Nat) : Int) = -1 then [((i + m : Nat) : Int)] else [])
  | 0, i => by
    simp only [rootsAt]
    simp
  | m + 1, i => by
    rw [rootsAt, rootsAt_succ t m (i + 1)]
    conv => rhs; rw [rootsAt]
    have : i + 1 + m = i + (m + 1) := by omega
    rw [this]
    by_cases h : parentB t (i : Int) = -1
    · rw [if_pos h, if_pos h]; rfl
    · rw [if_neg h, if_neg h]
theorem par_out {t : List (Int × List Int)} (h : mayB t = true) {q : Int} (hq : (t.length : Int) ≤ q) : parentB t q = -1 := by
  rcases parent_cases q h with ⟨h1, _⟩ | ⟨o, ho, _⟩
  · exact h1
  · have := (may_of h).kids _ ho
    simp at this
    omega
theorem more_roots {t : List (Int × List Int)} {w : Int} (h : mayB t = true) (h2 : mayB (t ++ [(w, [])]) = true) : (rootsB (t ++ [(w, [])])).length = (rootsB t).length + 1 := by
  unfold rootsB
  rw [if_pos h, if_pos h2, List.length_append, List.length_singleton, rootsAt_succ, roots_len (u := t) t.length 0 fun q _ _ => more_par h h2 q, more_par h h2, if_pos]
  · simp
  · exact par_out h (by simp)

/-- Tasks with one more, that the p-th spawns. -/
def given (t : List (Int × List Int)) (w : Int) (p : Nat) (x : Int × List Int) : List (Int × List Int) := (t ++ [(w, [])]).set p (x.1, x.2 ++ [(t.length : Int)])
theorem given_len {t : List (Int × List Int)} {w : Int} {p : Nat} {x : Int × List Int} : (given t w p x).length = t.length + 1 := by simp [given]
theorem set_kids {x : Int × List Int} {z : Int} : ∀ {t : List (Int × List Int)} {p s : Nat}, t[p]? = some x → ∃ a b, kidsAt s t = a ++ b ∧ kidsAt s (t.set p (x.1, x.2 ++ [z])) = a ++ (z, ((s + p : Nat) : Int)) :: b
  | [], _, _, h => by simp at h
  | y :: t, 0, s, h => by
    simp at h
    subst h
    refine ⟨y.2.map fun k => (k, (s : Int)), kidsAt (s + 1) t, rfl, ?_⟩
    simp [kidsAt]
  | y :: t, p + 1, s, h => by
    obtain ⟨a, b, h1, h2⟩ := set_kids (z := z) (s := s + 1) (t := t) (p := p) (x := x) (by simpa using h)
    refine ⟨y.2.map (fun k => (k, (s : Int))) ++ a, b, ?_, ?_⟩
    · rw [kidsAt, h1, List.append_assoc]
    · rw [List.set_cons_succ, kidsAt, h2, List.append_assoc]
      have : s + 1 + p = s + (p + 1) := by omega
      rw [this]
theorem given_kids {t : List (Int × List Int)} {w : Int} {p : Nat} {x : Int × List Int} (hx : t[p]? = some x) : ∃ a b, kidsAt 0 t = a ++ b ∧ kidsAt 0 (given t w p x) = a ++ ((t.length : Int), (p : Int)) :: b := by
  have hp : (t ++ [(w, [])])[p]? = some x := by rw [List.getElem?_append_left (List.getElem?_eq_some_iff.1 hx).1]; exact hx
  obtain ⟨a, b, h1, h2⟩ := set_kids (z := (t.length : Int)) (s := 0) hp
  refine ⟨a, b, ?_, ?_⟩
  · rw [← h1, more_kids]
  · rw [given, h2]; simp
theorem given_may {t : List (Int × List Int)} (h : May t) {w : Int} {p : Nat} {x : Int × List Int} (hx : t[p]? = some x) (h1 : t.length < 30) (h2 : 0 ≤ w) (h3 : w ≤ 20) : May (given t w p x) := by
  obtain ⟨a, b, e1, e2⟩ := given_kids (w := w) hx
  have hpl : p < t.length := (List.getElem?_eq_some_iff.1 hx).1
  have hk : ∀ q, q ∈ a ++ b → 0 ≤ q.2 ∧ q.2 < q.1 ∧ q.1 < t.length := by
    intro q hq
    rw [← e1] at hq
    exact h.kids q hq
  have ho := h.once
  rw [e1] at ho
  refine ⟨by rw [given_len]; omega, ?_, ?_, ?_⟩
  · intro y hy
    rcases List.mem_or_eq_of_mem_set hy with hy | rfl
    · rcases List.mem_append.1 hy with hy | hy
      · exact h.work y hy
      · simp at hy
        subst hy
        exact ⟨h2, h3⟩
    · exact h.work x (List.mem_of_getElem? hx)
  · rw [e2, given_len]
    intro q hq
    rw [List.mem_append, List.mem_cons] at hq
    rcases hq with hq | rfl | hq
    · have := hk q (List.mem_append.2 (.inl hq)); omega
    · simp; omega
    · have := hk q (List.mem_append.2 (.inr hq)); omega
  · rw [e2, List.map_append, List.map_cons]
    rw [List.map_append] at ho
    refine (List.perm_middle.nodup_iff).2 ?_
    rw [List.nodup_cons]
    refine ⟨?_, ho⟩
    rw [← List.map_append]
    intro hm
    obtain ⟨y, hy, e⟩ := List.mem_map.1 hm
    have := hk y hy
    simp only at e
    omega
theorem given_par {t : List (Int × List Int)} (h : mayB t = true) {w : Int} {p : Nat} {x : Int × List Int} (hx : t[p]? = some x) (h2 : mayB (given t w p x) = true) (q : Int) : parentB (given t w p x) q = if q = t.length then (p : Int) else parentB t q := by
  obtain ⟨a, b, e1, e2⟩ := given_kids (w := w) hx
  by_cases hq : q = t.length
  · rw [if_pos hq]
    exact parent_some h2 (by rw [e2, hq]; simp)
  · rw [if_neg hq]
    rcases parent_cases q h with ⟨h3, h4⟩ | ⟨o, ho, h3⟩
    · rw [h3]
      refine parent_none h2 fun y hy => ?_
      rw [e2, List.mem_append, List.mem_cons] at hy
      rcases hy with hy | rfl | hy
      · exact h4 y (by rw [e1]; simp [hy])
      · exact fun e => hq e.symm
      · exact h4 y (by rw [e1]; simp [hy])
    · rw [h3]
      refine parent_some h2 ?_
      rw [e1] at ho
      rw [e2, List.mem_append, List.mem_cons]
      rcases List.mem_append.1 ho with ho | ho
      · exact .inl ho
      · exact .inr (.inr ho)
theorem given_roots {t : List (Int × List Int)} (h : mayB t = true) {w : Int} {p : Nat} {x : Int × List Int} (hx : t[p]? = some x) (h2 : mayB (given t w p x) = true) : rootsB (given t w p x) = rootsB t := by
  unfold rootsB
  rw [if_pos h, if_pos h2, given_len, rootsAt_succ, roots_len (u := t) t.length 0 fun q _ hq => by rw [given_par h hx h2, if_neg (by omega)], if_neg]
  · simp
  · rw [given_par h hx h2, if_pos (by simp)]
    omega
end Go.Ab
