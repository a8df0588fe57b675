/- What is under a task: the words, and their laws. -/
import Derived.Test.YtecgfaaaloameaaR1PForP
set_option linter.unusedVariables false
namespace Go.Ab
def kidsOf (t : List (Int × List Int)) (r : Int) : List Int := ((t[r.toNat]?).getD (0, [])).2
def undB (t : List (Int × List Int)) : Nat → Int → List Int
  | 0, _ => []
  | d + 1, r => r :: (kidsOf t r).flatMap (undB t d)
/-- A task, and all under it. -/
def underB (t : List (Int × List Int)) (r : Int) : List Int := undB t t.length r
def underA (t : List (Int × List Int)) (r : Int) : List Int := if mayB t = true ∧ 0 ≤ r ∧ r < t.length then underB t r else []

theorem kid_mem {t : List (Int × List Int)} {k r : Int} (h0 : 0 ≤ r) : k ∈ kidsOf t r ↔ (k, r) ∈ kidsAt 0 t := by
  rw [mem_kidsAt]
  unfold kidsOf
  constructor
  · intro h
    cases hx : t[r.toNat]? with
    | none => rw [hx] at h; simp at h
    | some x => rw [hx] at h; exact ⟨r.toNat, x, hx, h, by omega⟩
  · rintro ⟨n, x, hx, hk, hr⟩
    have : r.toNat = n := by omega
    rw [this, hx]
    exact hk
theorem kid_rng {t : List (Int × List Int)} (hm : May t) {k r : Int} (h0 : 0 ≤ r) (h : k ∈ kidsOf t r) : r < k ∧ k < t.length := by
  have := hm.kids _ ((kid_mem h0).1 h)
  simp at this
  omega
theorem fm_eq {α β : Type} {f g : α → List β} : ∀ {l : List α}, (∀ x ∈ l, f x = g x) → l.flatMap f = l.flatMap g
  | [], _ => rfl
  | x :: l, h => by
    rw [List.flatMap_cons, List.flatMap_cons, h x (by simp), fm_eq (l := l) fun y hy => h y (by simp [hy])]
theorem und_any {t : List (Int × List Int)} (hm : May t) : ∀ (d e : Nat) (r : Int), 0 ≤ r → r < t.length → (t.length : Int) - r ≤ d → (t.length : Int) - r ≤ e → undB t d r = undB t e r
  | 0, _, r, _, _, _, _ => by omega
  | _ + 1, 0, r, _, _, _, _ => by omega
  | d + 1, e + 1, r, h0, h1, h2, h3 => by
    simp only [undB]
    rw [fm_eq fun k hk => ?_]
    have := kid_rng hm h0 hk
    exact und_any hm d e k (by omega) (by omega) (by omega) (by omega)
theorem under_unf {t : List (Int × List Int)} (hm : May t) {r : Int} (h0 : 0 ≤ r) (h1 : r < t.length) : underB t r = r :: (kidsOf t r).flatMap (underB t) := by
  unfold underB
  obtain ⟨n, hn⟩ : ∃ n, t.length = n + 1 := ⟨t.length - 1, by omega⟩
  conv => lhs; rw [hn, undB]
  rw [fm_eq fun k hk => ?_]
  have := kid_rng hm h0 hk
  exact und_any hm n t.length k (by omega) (by omega) (by omega) (by omega)
theorem under_ind {t : List (Int × List Int)} (hm : May t) {p : Int → Prop} (h : ∀ r : Int, 0 ≤ r → r < t.length → (∀ k ∈ kidsOf t r, p k) → p r) : ∀ (d : Nat) (r : Int), 0 ≤ r → r < t.length → (t.length : Int) - r ≤ d → p r
  | 0, r, _, _, _ => by omega
  | d + 1, r, h0, h1, h2 => h r h0 h1 fun k hk => by
    have := kid_rng hm h0 hk
    exact under_ind hm h d k (by omega) (by omega) (by omega)
theorem under_ind' {t : List (Int × List Int)} (hm : May t) {p : Int → Prop} (h : ∀ r : Int, 0 ≤ r → r < t.length → (∀ k ∈ kidsOf t r, p k) → p r) (r : Int) (h0 : 0 ≤ r) (h1 : r < t.length) : p r :=
  under_ind hm h t.length r h0 h1 (by omega)
theorem under_rng {t : List (Int × List Int)} (hm : May t) {r : Int} (h0 : 0 ≤ r) (h1 : r < t.length) : ∀ q ∈ underB t r, r ≤ q ∧ q < t.length := by
  refine under_ind' hm (p := fun r => ∀ q ∈ underB t r, r ≤ q ∧ q < t.length) ?_ r h0 h1
  intro r h0 h1 ih q hq
  rw [under_unf hm h0 h1] at hq
  rcases List.mem_cons.1 hq with rfl | hq
  · omega
  · obtain ⟨k, hk, hq⟩ := List.mem_flatMap.1 hq
    have := kid_rng hm h0 hk
    have := ih k hk q hq
    omega

/-! ### All but the first have their parents ahead -/
theorem par_of_kid {t : List (Int × List Int)} (hb : mayB t = true) {k r : Int} (h0 : 0 ≤ r) (h : k ∈ kidsOf t r) : parentB t k = r := parent_some hb ((kid_mem h0).1 h)
theorem kid_of_par {t : List (Int × List Int)} (hb : mayB t = true) {k r : Int} (h0 : 0 ≤ r) (h : parentB t k = r) : k ∈ kidsOf t r := by
  rcases parent_cases k hb with ⟨h1, _⟩ | ⟨o, ho, h1⟩
  · omega
  · rw [h1] at h
    subst h
    exact (kid_mem h0).2 ho
theorem under_par {t : List (Int × List Int)} (hb : mayB t = true) {r : Int} (h0 : 0 ≤ r) (h1 : r < t.length) : ∀ pre x post, underB t r = pre ++ x :: post → pre ≠ [] → parentB t x ∈ pre := by
  have hm := may_of hb
  refine under_ind' hm (p := fun r => ∀ pre x post, underB t r = pre ++ x :: post → pre ≠ [] → parentB t x ∈ pre) ?_ r h0 h1
  intro r h0 h1 ih pre x post he hp
  rw [under_unf hm h0 h1] at he
  have key : ∀ ks : List Int, (∀ k ∈ ks, k ∈ kidsOf t r) → ∀ pre x post, ks.flatMap (underB t) = pre ++ x :: post → parentB t x = r ∨ parentB t x ∈ pre := by
    intro ks
    induction ks with
    | nil => intro _ pre x post h; simp at h
    | cons k ks ih2 =>
      intro hk pre x post h
      have hk0 := hk k (by simp)
      have hkr := kid_rng hm h0 hk0
      rw [List.flatMap_cons] at h
      rcases List.append_eq_append_iff.1 h with ⟨a, ha, hb'⟩ | ⟨c, hc, hd⟩
      · rcases ih2 (fun y hy => hk y (by simp [hy])) a x post hb' with h2 | h2
        · exact .inl h2
        · exact .inr (by rw [ha]; simp [h2])
      · cases c with
        | nil =>
          simp at hc hd
          rcases ih2 (fun y hy => hk y (by simp [hy])) [] x post (by simpa using hd.symm) with h2 | h2
          · exact .inl h2
          · simp at h2
        | cons y c =>
          simp at hd
          obtain ⟨rfl, hd⟩ := hd
          by_cases hn : pre = []
          · subst hn
            rw [under_unf hm (by omega) (by omega)] at hc
            simp at hc
            rw [← hc.1]
            exact .inl (par_of_kid hb h0 hk0)
          · exact .inr (ih k hk0 pre x c hc hn)
  cases pre with
  | nil => exact absurd rfl hp
  | cons y pre =>
    simp at he
    obtain ⟨rfl, he⟩ := he
    rcases key _ (fun k hk => hk) pre x post he with h2 | h2
    · simp [h2]
    · simp [h2]

/-! ### How often one is there -/
theorem kids_sub {n : Nat} {x : Int × List Int} : ∀ {t : List (Int × List Int)} {s : Nat}, t[n]? = some x → x.2.Sublist ((kidsAt s t).map (·.1))
  | [], _, h => by simp at h
  | y :: t, s, h => by
    rw [kidsAt, List.map_append, List.map_map]
    have e : y.2.map ((fun z : Int × Int => z.1) ∘ fun k => (k, (s : Int))) = y.2 := by
      have : ((fun z : Int × Int => z.1) ∘ fun k => (k, (s : Int))) = id := rfl
      rw [this, List.map_id]
    rw [e]
    cases n with
    | zero =>
      simp at h
      subst h
      exact List.sublist_append_left _ _
    | succ m =>
      have := kids_sub (n := m) (x := x) (t := t) (s := s + 1) (by simpa using h)
      exact this.trans (List.sublist_append_right _ _)
theorem kids_nodup {t : List (Int × List Int)} (hm : May t) (r : Int) : (kidsOf t r).Nodup := by
  unfold kidsOf
  cases h : t[r.toNat]? with
  | none => exact List.nodup_nil
  | some x => exact (kids_sub (s := 0) h).nodup hm.once
theorem kids_count {t : List (Int × List Int)} (hb : mayB t = true) {q r : Int} (h0 : 0 ≤ r) : (kidsOf t r).count q = if parentB t q = r then 1 else 0 := by
  rw [(kids_nodup (may_of hb) r).count]
  by_cases h : parentB t q = r
  · rw [if_pos h, if_pos (kid_of_par hb h0 h)]
  · rw [if_neg h, if_neg fun hk => h (par_of_kid hb h0 hk)]
theorem under_count {t : List (Int × List Int)} (hb : mayB t = true) {r : Int} (h0 : 0 ≤ r) (h1 : r < t.length) : ∀ q, (underB t r).count q = (if r = q then 1 else 0) + (if 0 ≤ parentB t q then (underB t r).count (parentB t q) else 0) := by
  have hm := may_of hb
  refine under_ind' hm (p := fun r => ∀ q, (underB t r).count q = (if r = q then 1 else 0) + (if 0 ≤ parentB t q then (underB t r).count (parentB t q) else 0)) ?_ r h0 h1
  intro r h0 h1 ih q
  have key : ∀ ks : List Int, (∀ k ∈ ks, k ∈ kidsOf t r) → (ks.flatMap (underB t)).count q = ks.count q + (if 0 ≤ parentB t q then (ks.flatMap (underB t)).count (parentB t q) else 0) := by
    intro ks
    induction ks with
    | nil => intro _; simp
    | cons k ks ih2 =>
      intro hk
      rw [List.flatMap_cons, List.count_append, List.count_append, ih k (hk k (by simp)) q, ih2 fun y hy => hk y (by simp [hy]), List.count_cons]
      have : (k == q) = decide (k = q) := by by_cases e : k = q <;> simp [e]
      rw [this]
      by_cases e1 : k = q <;> by_cases e2 : 0 ≤ parentB t q <;> simp [e1, e2] <;> omega
  rw [under_unf hm h0 h1, List.count_cons, key _ fun k hk => hk, kids_count hb h0, List.count_cons]
  have e1 : (r == q) = decide (r = q) := by by_cases e : r = q <;> simp [e]
  have e2 : (r == parentB t q) = decide (r = parentB t q) := by by_cases e : r = parentB t q <;> simp [e]
  rw [e1, e2]
  by_cases h2 : 0 ≤ parentB t q
  · by_cases h3 : parentB t q = r
    · simp [h3, h0]; omega
    · have : r ≠ parentB t q := fun e => h3 e.symm
      simp [h2, h3, this]; omega
  · have : parentB t q ≠ r := by omega
    simp [h2, this]
theorem par_lt {t : List (Int × List Int)} (hb : mayB t = true) {q : Int} (h0 : 0 ≤ q) : parentB t q < q ∧ -1 ≤ parentB t q := by
  rcases parent_cases q hb with ⟨h1, _⟩ | ⟨o, ho, h1⟩
  · omega
  · have := (may_of hb).kids _ ho
    simp at this
    omega
theorem under_le1 {t : List (Int × List Int)} (hb : mayB t = true) {r : Int} (h0 : 0 ≤ r) (h1 : r < t.length) (q : Int) : (underB t r).count q ≤ 1 := by
  have hm := may_of hb
  by_cases hq : q ∈ underB t r
  · have key : ∀ (m : Nat) (q : Int), 0 ≤ q → q ≤ m → (underB t r).count q ≤ 1 := by
      intro m
      induction m with
      | zero =>
        intro q q0 qm
        have := par_lt hb q0
        rw [under_count hb h0 h1, if_neg (show ¬ 0 ≤ parentB t q by omega)]
        split <;> omega
      | succ m ih =>
        intro q q0 qm
        have hp := par_lt hb q0
        rw [under_count hb h0 h1]
        by_cases e : r = q
        · have : (underB t r).count (parentB t q) = 0 := List.count_eq_zero.2 fun hc => by
            have := under_rng hm h0 h1 _ hc
            omega
          rw [if_pos e, this]
          split <;> omega
        · rw [if_neg e]
          by_cases e2 : 0 ≤ parentB t q
          · rw [if_pos e2]
            have := ih (parentB t q) e2 (by omega)
            omega
          · rw [if_neg e2]; omega
    have := under_rng hm h0 h1 q hq
    exact key q.toNat q (by omega) (by omega)
  · rw [List.count_eq_zero.2 hq]; omega
/-- A sum over a list of numbers below n, by how often each is there. -/
def wsum (n : Nat) (f : Nat → Int) : Int := ((List.range n).map f).sum
theorem wsum_succ (n : Nat) (f : Nat → Int) : wsum (n + 1) f = wsum n f + f n := by
  unfold wsum
  rw [List.range_succ, List.map_append, List.sum_append]
  simp
theorem wsum_add (n : Nat) (f g : Nat → Int) : wsum n (fun i => f i + g i) = wsum n f + wsum n g := by
  induction n with
  | zero => rfl
  | succ n ih => rw [wsum_succ, wsum_succ, wsum_succ, ih]; omega
theorem wsum_eq {n : Nat} {f g : Nat → Int} (h : ∀ i, i < n → f i = g i) : wsum n f = wsum n g := by
  induction n with
  | zero => rfl
  | succ n ih => rw [wsum_succ, wsum_succ, ih fun i hi => h i (by omega), h n (by omega)]
theorem wsum_le {n : Nat} {f g : Nat → Int} (h : ∀ i, i < n → f i ≤ g i) : wsum n f ≤ wsum n g := by
  induction n with
  | zero => exact Int.le_refl _
  | succ n ih => rw [wsum_succ, wsum_succ]; have := ih fun i hi => h i (by omega); have := h n (by omega); omega
theorem wsum_zero (n : Nat) : wsum n (fun _ => 0) = 0 := by
  induction n with
  | zero => rfl
  | succ n ih => rw [wsum_succ, ih]; rfl
theorem wsum_one (n : Nat) : wsum n (fun _ => 1) = n := by
  induction n with
  | zero => rfl
  | succ n ih => rw [wsum_succ, ih]; omega
theorem wsum_at {n : Nat} {f : Int → Int} {x : Int} (h0 : 0 ≤ x) (h1 : x < n) : wsum n (fun i => if x = (i : Int) then f i else 0) = f x := by
  induction n with
  | zero => omega
  | succ n ih =>
    rw [wsum_succ]
    by_cases h : x = (n : Int)
    · rw [if_pos h, wsum_eq (g := fun _ => 0) fun i hi => by rw [if_neg (by omega)], wsum_zero, h]; omega
    · rw [if_neg h, ih (by omega)]; omega
theorem sum_count {n : Nat} (f : Int → Int) : ∀ {l : List Int}, (∀ x ∈ l, 0 ≤ x ∧ x < n) → (l.map f).sum = wsum n fun i => (l.count (i : Int) : Int) * f i
  | [], _ => by
    rw [wsum_eq (g := fun _ => 0) fun i hi => by simp, wsum_zero]
    rfl
  | x :: l, h => by
    have hx := h x (by simp)
    rw [List.map_cons, List.sum_cons, sum_count f fun y hy => h y (by simp [hy]), ← wsum_at (f := f) hx.1 hx.2, ← wsum_add]
    refine wsum_eq fun i hi => ?_
    rw [List.count_cons]
    have : (x == (i : Int)) = decide (x = (i : Int)) := by by_cases e : x = (i : Int) <;> simp [e]
    rw [this]
    by_cases e : x = (i : Int)
    · simp only [if_pos e, e, decide_true, if_true]
      rw [Int.natCast_add, Int.add_mul]
      omega
    · simp [e]
theorem len_sum {l : List Int} : (l.length : Int) = (l.map fun _ => (1 : Int)).sum := by
  induction l with
  | nil => rfl
  | cons x l ih => rw [List.map_cons, List.sum_cons, ← ih]; simp; omega
theorem under_len {t : List (Int × List Int)} (hb : mayB t = true) {r : Int} (h0 : 0 ≤ r) (h1 : r < t.length) : (underB t r).length ≤ 30 := by
  have hm := may_of hb
  have h30 := hm.len
  have : ((underB t r).length : Int) ≤ t.length := by
    rw [len_sum, sum_count (n := t.length) (fun _ => 1) fun x hx => by have := under_rng hm h0 h1 x hx; omega, ← wsum_one t.length]
    refine wsum_le fun i hi => ?_
    have := under_le1 hb h0 h1 (i : Int)
    omega
  omega
theorem roots_count {t : List (Int × List Int)} (hb : mayB t = true) {q : Int} : (rootsB t).count q = if 0 ≤ q ∧ q < t.length ∧ parentB t q = -1 then 1 else 0 := by
  have hn : (rootsB t).Nodup := (roots_sorted t).imp fun h => by omega
  rw [hn.count]
  by_cases h : q ∈ rootsB t
  · rw [if_pos h, if_pos ((mem_roots hb).1 h)]
  · rw [if_neg h, if_neg fun hk => h ((mem_roots hb).2 hk)]
/-- What is under all roots. -/
def allB (t : List (Int × List Int)) : List Int := (rootsB t).flatMap (underB t)
theorem all_count {t : List (Int × List Int)} (hb : mayB t = true) : ∀ (m : Nat) (q : Int), 0 ≤ q → q < t.length → q ≤ m → (allB t).count q = 1 := by
  have step : ∀ q, (allB t).count q = (rootsB t).count q + (if 0 ≤ parentB t q then (allB t).count (parentB t q) else 0) := by
    intro q
    have key : ∀ ks : List Int, (∀ k ∈ ks, k ∈ rootsB t) → (ks.flatMap (underB t)).count q = ks.count q + (if 0 ≤ parentB t q then (ks.flatMap (underB t)).count (parentB t q) else 0) := by
      intro ks
      induction ks with
      | nil => intro _; simp
      | cons k ks ih2 =>
        intro hk
        have hr := (mem_roots hb).1 (hk k (by simp))
        rw [List.flatMap_cons, List.count_append, List.count_append, under_count hb hr.1 hr.2.1 q, ih2 fun y hy => hk y (by simp [hy]), List.count_cons]
        have : (k == q) = decide (k = q) := by by_cases e : k = q <;> simp [e]
        rw [this]
        by_cases e1 : k = q <;> by_cases e2 : 0 ≤ parentB t q <;> simp [e1, e2] <;> omega
    exact key _ fun k hk => hk
  intro m
  induction m with
  | zero =>
    intro q h0 h1 h2
    have := par_lt hb h0
    rw [step, roots_count hb, if_pos ⟨h0, h1, by omega⟩, if_neg (by omega)]
  | succ m ih =>
    intro q h0 h1 h2
    have := par_lt hb h0
    rw [step, roots_count hb]
    by_cases e : parentB t q = -1
    · rw [if_pos ⟨h0, h1, e⟩, if_neg (by omega)]
    · rw [if_neg (fun h => e h.2.2), if_pos (by omega), ih _ (by omega) (by omega) (by omega)]
theorem all_rng {t : List (Int × List Int)} (hb : mayB t = true) : ∀ q ∈ allB t, 0 ≤ q ∧ q < t.length := by
  intro q hq
  obtain ⟨k, hk, hq⟩ := List.mem_flatMap.1 hq
  have hr := (mem_roots hb).1 hk
  have := under_rng (may_of hb) hr.1 hr.2.1 q hq
  omega
theorem all_sum {t : List (Int × List Int)} (hb : mayB t = true) (f : Int → Int) : ((allB t).map f).sum = wsum t.length fun i => f i := by
  rw [sum_count (n := t.length) f (all_rng hb)]
  refine wsum_eq fun i hi => ?_
  rw [all_count hb i (i : Int) (by omega) (by omega) (by omega)]
  omega
theorem allB_len {t : List (Int × List Int)} (hb : mayB t = true) : (allB t).length = t.length := by
  have h : ((allB t).length : Int) = t.length := by rw [len_sum, all_sum hb (fun _ => 1), wsum_one]
  omega
end Go.Ab
