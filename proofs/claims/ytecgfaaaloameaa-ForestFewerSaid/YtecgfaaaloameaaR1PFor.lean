/- The forest's functions, as words: what is walked comes to these. -/
import Derived.Test.YtecgfaaaloameaaR1GF
import Derived.Test.YtecgfaaaloameaaR1PForP
set_option maxRecDepth 100000
set_option linter.unusedVariables false
namespace Go.Ab
theorem rootsAt_len (t : List (Int × List Int)) : ∀ m i, (rootsAt t i m).length ≤ m
  | 0, _ => Nat.le_refl _
  | m + 1, i => by
    unfold rootsAt
    have := rootsAt_len t m (i + 1)
    split
    · simp only [List.length_cons]; omega
    · omega
theorem c_May1 (x : Int × List Int) : g_forest_May_1 x = some (workBad x) := by
  unfold g_forest_May_1 workBad
  cases decide (x.1 < 0) <;> rfl
section
variable (k : Nat) (hk : 9223372036854775808 ≤ k)
include hk
theorem c_Few (t : List (Int × List Int)) (ht : Wt t) : g_poacherlaw04_Few k t = some (fewB t) := by
  have hlen := ht.len
  have key : ∀ r i n, t.drop i = r → i ≤ t.length → r.length < n → g_poacherlaw04_Few_L0 k t n (i : Int) = some ((r.take (41 - i)).all (fun x => decide (x.2.length ≤ 40)) && decide (t.length ≤ 40)) := by
    intro r
    induction r with
    | nil =>
      intro i n hr hi hn
      obtain ⟨n, rfl⟩ := fuel hn
      have : i = t.length := by have := drop_nil hr; omega
      subst this
      rw [g_poacherlaw04_Few_L0, lt_len, cond_false, cast40]
      simp
    | cons x r ih =>
      intro i n hr hi hn
      obtain ⟨n, rfl⟩ := fuel hn
      obtain ⟨a, b, c, d, e⟩ := drop_cons hr
      rw [g_poacherlaw04_Few_L0, ltN a, cond_true]
      by_cases h : i ≤ 40
      · rw [leT (show (i : Int) ≤ 40 by omega), cond_true, idx_of b, ob_some]
        have e1 : 41 - i = (41 - (i + 1)) + 1 := by omega
        rw [e1, List.take_succ_cons, List.all_cons]
        by_cases h2 : x.2.length ≤ 40
        · rw [ltF (show ((x.2.length : Nat) : Int) ≤ 40 by omega), cond_false, wrapS (by omega), ih (i + 1) n c (by omega) (by simp only [List.length_cons] at hn; omega), decide_eq_true h2, Bool.true_and]
        · rw [ltT (show (40 : Int) < (x.2.length : Nat) by omega), cond_true, decide_eq_false h2]
          rfl
      · rw [leF (show (40 : Int) < i by omega), cond_false, cast40]
        have e1 : 41 - i = 0 := by omega
        rw [e1]
        simp
  have := key t 0 k rfl (Nat.zero_le _) (by omega)
  rw [g_poacherlaw04_Few]
  simpa [fewB] using this
theorem c_Ints (a b : List Int) (ha : a.length ≤ 9223372036854775807) : g_poacherref04_Ints k a b = some (decide (a = b)) := by
  rw [g_poacherref04_Ints, lenNe]
  by_cases h : a.length = b.length
  · rw [decide_eq_true h]
    refine scanE (F := fun n i => g_poacherref04_Ints_L0 k a b n i) h ?_ ?_ k (by omega)
    · intro n
      simp only [g_poacherref04_Ints_L0, lt_len, cond_false]
    · intro n i x y hi hx hy
      simp only [g_poacherref04_Ints_L0, ltN hi, cond_true, idx_of hx, idx_of hy, ob_some]
      rw [wrapS (by omega), bneI]
      cases decide (x = y) <;> rfl
  · rw [decide_eq_false h]
    have : a ≠ b := fun e => h (by rw [e])
    simp [this]
theorem c_Equal (a b : List Int) (ha : a.length ≤ 9223372036854775807) : g_slices_Equal_int k a b = some (decide (a = b)) := by
  rw [g_slices_Equal_int, lenNe]
  by_cases h : a.length = b.length
  · rw [decide_eq_true h]
    refine scanE (F := fun n i => g_slices_Equal_int_L0 k a b n i) h ?_ ?_ k (by omega)
    · intro n
      simp only [g_slices_Equal_int_L0, lt_len, cond_false]
    · intro n i x y hi hx hy
      simp only [g_slices_Equal_int_L0, ltN hi, cond_true, idx_of hx, idx_of hy, ob_some]
      rw [wrapS (by omega), bneI]
      cases decide (x = y) <;> rfl
  · rw [decide_eq_false h]
    have : a ≠ b := fun e => h (by rw [e])
    simp [this]
theorem c_CFMay (t : List (Int × List Int)) (ht : Wt t) : g_slices_ContainsFunc_apiTask_forest_May_1 k t = some (t.any workBad) := by
  have hlen := ht.len
  rw [g_slices_ContainsFunc_apiTask_forest_May_1, g_slices_IndexFunc_apiTask_forest_May_1]
  rw [scanF (F := fun n i => g_slices_IndexFunc_apiTask_forest_May_1_L0 (k + 8) t n i) (l := t) workBad ?_ ?_ _ (by omega)]
  · rw [ob_some, idxG_ge]
  · intro n
    simp only [g_slices_IndexFunc_apiTask_forest_May_1_L0, lt_len, cond_false]
  · intro n i x hi hx
    simp only [g_slices_IndexFunc_apiTask_forest_May_1_L0, ltN hi, cond_true, idx_of hx, ob_some, c_May1, Prod.eta]
    rw [wrapS (by omega)]
theorem c_May (t : List (Int × List Int)) (ht : Wt t) : g_forest_May k t = some (mayB t) := by
  have hlen := ht.len
  rw [g_forest_May, c_CFMay k hk t ht, ob_some]
  unfold mayB
  by_cases h1 : t.length ≤ 30
  · rw [leF' h1, cond_false, decide_eq_true h1]
    cases h2 : t.any workBad with
    | true => rfl
    | false =>
      have h3 : decide ((0 : Int) ≤ (t.length : Int) ∧ (t.length : Int) ≤ 9223372036854775807 ∧ (t.length : Int) * 1 ≤ 70368744177664) = true := by simp; omega
      rw [h3, cond_false, cond_true]
      -- one task's kids
      have inner : ∀ (x : Int × List Int) (hx : x ∈ t) (i : Nat) (hi : i < t.length) (o : Int → List Bool → Option Bool) (R : List (Int × Int)) (n0 : Nat)
          (ho : ∀ had : HadN t.length, o ((i + 1 : Nat) : Int) had.1 = some (runS (mayStep t.length) R had).1),
          ∀ r j n (had : HadN t.length), x.2.drop j = r → r.length < n →
            g_forest_May_L1 k t o n x.2 (x.2.length : Int) (j : Int) had.1 (i : Int) = some (runS (mayStep t.length) (r.map (fun q => (q, (i : Int))) ++ R) had).1 := by
        intro x hx i hi o R n0 ho r
        have hxl := ht.kids x hx
        induction r with
        | nil =>
          intro j n had hr hn
          obtain ⟨n, rfl⟩ := fuel hn
          have hj := drop_nil hr
          rw [g_forest_May_L1, ltF (by omega), cond_false, wrapS (by omega), ho]
          rfl
        | cons q r ih =>
          intro j n had hr hn
          obtain ⟨n, rfl⟩ := fuel hn
          obtain ⟨a, b, c, d, e⟩ := drop_cons hr
          have hb := had.2
          rw [g_forest_May_L1, ltN a, cond_true, idx_of b, ob_some, List.map_cons, List.cons_append, runS]
          by_cases h1 : q ≤ (i : Int)
          · rw [leT h1, cond_true]
            simp [mayStep, kidBad, leT h1]
          · rw [leF (show (i : Int) < q by omega), cond_false]
            by_cases h2 : (t.length : Int) ≤ q
            · rw [leT h2, cond_true]
              simp [mayStep, kidBad, leT h2]
            · rw [leF (show q < (t.length : Int) by omega), cond_false]
              have h5 : decide ((0 : Int) ≤ q ∧ q.toNat < t.length) = true := by simp; omega
              have h3 : q.toNat < had.1.length := by rw [hb]; omega
              have h4 : had.1[q.toNat]? = some had.1[q.toNat] := List.getElem?_eq_getElem h3
              rw [h5, cond_true, h4, ob_some, cond_true, ob_some, wrapS (by omega)]
              cases hh : had.1[q.toNat] with
              | true => simp [mayStep, kidBad, leF (show (i : Int) < q by omega), leF (show q < (t.length : Int) by omega), h4, hh]
              | false =>
                rw [cond_false]
                have e1 : mayStep t.length had (q, (i : Int)) = (true, ⟨had.1.set q.toNat true, by simp [had.2]⟩) := by
                  simp [mayStep, kidBad, leF (show (i : Int) < q by omega), leF (show q < (t.length : Int) by omega), h4, hh]
                rw [e1]
                simp only [if_true]
                exact ih (j + 1) n ⟨had.1.set q.toNat true, by simp [had.2]⟩ c (by simp only [List.length_cons] at hn; omega)
      have outer : ∀ r i n (had : HadN t.length), t.drop i = r → i ≤ t.length → r.length < n → g_forest_May_L0 k t n (i : Int) had.1 = some (runS (mayStep t.length) (kidsAt i r) had).1 := by
        intro r
        induction r with
        | nil =>
          intro i n had hr hi hn
          obtain ⟨n, rfl⟩ := fuel hn
          have := drop_nil hr
          rw [g_forest_May_L0, ltF (by omega), cond_false]
          rfl
        | cons x r ih =>
          intro i n had hr hi hn
          obtain ⟨n, rfl⟩ := fuel hn
          obtain ⟨a, b, c, d, e⟩ := drop_cons hr
          have hxl := ht.kids x d
          rw [g_forest_May_L0, ltN a, cond_true, idx_of b, ob_some, kidsAt]
          have := inner x d i a (fun s47 s56 => g_forest_May_L0 k t n s47 s56) (kidsAt (i + 1) r) n (fun had => ih (i + 1) n had c (by omega) (by simp only [List.length_cons] at hn; omega)) x.2 0 (k + 17) had rfl (by omega)
          simpa using this
      have := outer t 0 (k + 17) (noneHad t.length) rfl (Nat.zero_le _) (by omega)
      simpa [noneHad] using this
  · rw [leT' (by omega), cond_true, decide_eq_false h1]
    rfl
theorem c_Sums (t : List (Int × List Int)) (ht : Wt t) : g_forest_Sums k t = some (if mayB t then ((t.length : Int), (t.map (·.1)).sum) else (0, 0)) := by
  rw [g_forest_Sums, c_May k hk t ht, ob_some]
  cases hm : mayB t with
  | false => rfl
  | true =>
    have h30 := may_of' hm
    have hw : ∀ x ∈ t, 0 ≤ x.1 ∧ x.1 ≤ 20 := (may_of hm).work
    have key : ∀ r (i : Nat) n (s : Int), t.drop i = r → i ≤ t.length → r.length < n → 0 ≤ s → s ≤ 20 * (i : Int) → g_forest_Sums_L0 k t n s (i : Int) = some ((t.length : Int), s + (r.map (·.1)).sum) := by
      intro r
      induction r with
      | nil =>
        intro i n s hr hi hn h0 h1
        obtain ⟨n, rfl⟩ := fuel hn
        have := drop_nil hr
        rw [g_forest_Sums_L0, ltF (by omega), cond_false]
        simp
      | cons x r ih =>
        intro i n s hr hi hn h0 h1
        obtain ⟨n, rfl⟩ := fuel hn
        obtain ⟨a, b, c, d, e⟩ := drop_cons hr
        have := hw x d
        rw [g_forest_Sums_L0, ltN a, cond_true, idx_of b, ob_some, wrapS (by omega), wrapI (by omega), ih (i + 1) n (s + x.1) c (by omega) (by simp only [List.length_cons] at hn; omega) (by omega) (by omega)]
        simp only [List.map_cons, List.sum_cons]
        congr 2
        omega
    rw [Bool.not_true, cond_false]
    have := key t 0 (k + 19) 0 rfl (Nat.zero_le _) (by omega) (by omega) (by omega)
    simpa using this
theorem c_Parent (t : List (Int × List Int)) (ht : Wt t) (q : Int) : g_forest_Parent k t q = some (parentB t q) := by
  have hlen := ht.len
  rw [g_forest_Parent, c_May k hk t ht, ob_some]
  unfold parentB
  cases hm : mayB t with
  | false => rfl
  | true =>
    rw [cond_true, if_pos rfl]
    have inner : ∀ (x : Int × List Int) (hx : x ∈ t) (i : Nat) (hi : i < t.length) (o : Int → Option Int) (R : List (Int × Int)) (z : Int)
        (ho : o ((i + 1 : Nat) : Int) = some (if (runS (parStep q) R z).1 then -1 else (runS (parStep q) R z).2)),
        ∀ r j n, x.2.drop j = r → r.length < n →
          g_forest_Parent_L1 k t q o n x.2 (x.2.length : Int) (j : Int) (i : Int) = some (if (runS (parStep q) (r.map (fun p => (p, (i : Int))) ++ R) z).1 then -1 else (runS (parStep q) (r.map (fun p => (p, (i : Int))) ++ R) z).2) := by
      intro x hx i hi o R z ho r
      have hxl := ht.kids x hx
      induction r with
      | nil =>
        intro j n hr hn
        obtain ⟨n, rfl⟩ := fuel hn
        have hj := drop_nil hr
        rw [g_forest_Parent_L1, ltF (by omega), cond_false, wrapS (by omega), ho]
        rfl
      | cons p r ih =>
        intro j n hr hn
        obtain ⟨n, rfl⟩ := fuel hn
        obtain ⟨a, b, c, d, e⟩ := drop_cons hr
        rw [g_forest_Parent_L1, ltN a, cond_true, idx_of b, ob_some, List.map_cons, List.cons_append, runS, beqI]
        by_cases h1 : p = q
        · simp [h1, parStep]
        · rw [decide_eq_false h1, cond_false, wrapS (by omega), ih (j + 1) n c (by simp only [List.length_cons] at hn; omega)]
          simp [parStep, h1]
          -- the number handed on is not changed
    have outer : ∀ r i n (z : Int), t.drop i = r → i ≤ t.length → r.length < n → g_forest_Parent_L0 k t q n (i : Int) = some (if (runS (parStep q) (kidsAt i r) z).1 then -1 else (runS (parStep q) (kidsAt i r) z).2) := by
      intro r
      induction r with
      | nil =>
        intro i n z hr hi hn
        obtain ⟨n, rfl⟩ := fuel hn
        have := drop_nil hr
        rw [g_forest_Parent_L0, ltF (by omega), cond_false]
        rfl
      | cons x r ih =>
        intro i n z hr hi hn
        obtain ⟨n, rfl⟩ := fuel hn
        obtain ⟨a, b, c, d, e⟩ := drop_cons hr
        have hxl := ht.kids x d
        rw [g_forest_Parent_L0, ltN a, cond_true, idx_of b, ob_some, kidsAt]
        have := inner x d i a (fun s => g_forest_Parent_L0 k t q n s) (kidsAt (i + 1) r) z (ih (i + 1) n z c (by omega) (by simp only [List.length_cons] at hn; omega)) x.2 0 (k + 18) rfl (by omega)
        simpa using this
    have := outer t 0 (k + 18) 0 rfl (Nat.zero_le _) (by omega)
    simpa using this
theorem c_Roots (t : List (Int × List Int)) (ht : Wt t) : g_forest_Roots k t = some (rootsB t) := by
  rw [g_forest_Roots, c_May (k + 1) (by omega) t ht, ob_some]
  unfold rootsB
  cases hm : mayB t with
  | false => rfl
  | true =>
    have h30 := may_of' hm
    rw [if_pos rfl, Bool.not_true, cond_false]
    have key : ∀ m i n (l : List Int) (e : Nat), i + m = t.length → m < n → l.length ≤ i → e ≤ 1 → g_forest_Roots_L0 k t n l (i : Int) e = some (l ++ rootsAt t i m) := by
      intro m
      induction m with
      | zero =>
        intro i n l e hi hn hl he
        obtain ⟨n, rfl⟩ := fuel hn
        rw [g_forest_Roots_L0, ltF (by omega), cond_false, rootsAt, List.append_nil]
      | succ m ih =>
        intro i n l e hi hn hl he
        obtain ⟨n, rfl⟩ := fuel hn
        rw [g_forest_Roots_L0, ltN (by omega), cond_true, c_Parent k hk t ht, ob_some, beqI, wrapS (by omega), rootsAt]
        by_cases h : parentB t (i : Int) = -1
        · have e1 : (e == 1 || e == 0) = true := by
            have : e = 0 ∨ e = 1 := by omega
            rcases this with rfl | rfl <;> rfl
          have e2 : room (l ++ [(i : Int)]).length 8 = true := roomT (by simp; omega)
          rw [if_pos h, decide_eq_true h, cond_true, e1, ck_true, e2, cond_true, ih (i + 1) n _ 1 (by omega) (by omega) (by simp; omega) (by omega)]
          simp
        · rw [if_neg h, decide_eq_false h, cond_false, ih (i + 1) n l e (by omega) (by omega) (by omega) he]
    have := key t.length 0 (k + 20) [] 0 (by omega) (by omega) (by simp) (by omega)
    simpa using this
theorem c_Same1 (x y : Int × List Int) (hx : x.2.length ≤ 9223372036854775807) : g_forest_Same_1 k x y = some (decide (x = y)) := by
  rw [g_forest_Same_1, beqI, c_Equal k hk _ _ hx, ob_some]
  obtain ⟨a, b⟩ := x
  obtain ⟨c, d⟩ := y
  by_cases h1 : a = c <;> by_cases h2 : b = d <;> simp [h1, h2]
theorem c_Same (a b : List (Int × List Int)) (ha : Wt a) : g_forest_Same k a b = some (decide (a = b)) := by
  have hlen := ha.len
  rw [g_forest_Same, g_slices_EqualFunc_apiTask_forest_Same_1, lenNe]
  by_cases h : a.length = b.length
  · rw [decide_eq_true h, Bool.not_true, cond_false, scanE (F := fun n i => g_slices_EqualFunc_apiTask_forest_Same_1_L0 k a b n i) h ?_ ?_ (k + 8) (by omega), ob_some]
    · intro n
      simp only [g_slices_EqualFunc_apiTask_forest_Same_1_L0, lt_len, cond_false]
    · intro n i x y hi hx hy
      simp only [g_slices_EqualFunc_apiTask_forest_Same_1_L0, ltN hi, cond_true, idx_of hx, idx_of hy, ob_some, Prod.eta]
      rw [c_Same1 (k + 6) (by omega) x y (ha.kids x (List.mem_of_getElem? hx)), ob_some, wrapS (by omega)]
      cases decide (x = y) <;> rfl
  · rw [decide_eq_false h]
    have : a ≠ b := fun e => h (by rw [e])
    simp [this, ob_some]
theorem c_RMay (t : List (Int × List Int)) (ht : Wt t) : g_poacherref04_May k t = some (mayB t) := by
  have hlen := ht.len
  rw [g_poacherref04_May]
  unfold mayB
  by_cases h1 : t.length ≤ 30
  · rw [leF' h1, cond_false, decide_eq_true h1]
    have h3 : decide ((0 : Int) ≤ (t.length : Int) ∧ (t.length : Int) ≤ 9223372036854775807 ∧ (t.length : Int) * 1 ≤ 70368744177664) = true := by simp; omega
    rw [h3, cond_true]
    have inner : ∀ (x : Int × List Int) (i : Nat) (hi : t[i]? = some x) (o : Int → List Bool → Option Bool) (B : Bool) (R : List (Int × Int))
        (ho : ∀ had : HadN t.length, o ((i + 1 : Nat) : Int) had.1 = some (B && (runS (mayStep t.length) R had).1)),
        ∀ r j n (had : HadN t.length), x.2.drop j = r → r.length < n →
          g_poacherref04_May_L1 k t o n (j : Int) had.1 (i : Int) = some (B && (runS (mayStep t.length) (r.map (fun q => (q, (i : Int))) ++ R) had).1) := by
      intro x i hi o B R ho r
      have hx : x ∈ t := List.mem_of_getElem? hi
      have hil : i < t.length := (List.getElem?_eq_some_iff.1 hi).1
      have hxl := ht.kids x hx
      induction r with
      | nil =>
        intro j n had hr hn
        obtain ⟨n, rfl⟩ := fuel hn
        have hj := drop_nil hr
        rw [g_poacherref04_May_L1, idx_of hi, ob_some, ltF (by omega), cond_false, wrapS (by omega), ho]
        rfl
      | cons q r ih =>
        intro j n had hr hn
        obtain ⟨n, rfl⟩ := fuel hn
        obtain ⟨a, b, c, d, e⟩ := drop_cons hr
        have hb := had.2
        rw [g_poacherref04_May_L1, idx_of hi, ob_some, ltN a, cond_true, ob_some, idx_of b, ob_some, List.map_cons, List.cons_append, runS]
        by_cases h1 : q ≤ (i : Int)
        · rw [leT h1, cond_true]
          simp [mayStep, kidBad, leT h1]
        · rw [leF (show (i : Int) < q by omega), cond_false]
          by_cases h2 : (t.length : Int) ≤ q
          · rw [leT h2, cond_true]
            simp [mayStep, kidBad, leT h2]
          · rw [leF (show q < (t.length : Int) by omega), cond_false]
            have h5 : decide ((0 : Int) ≤ q ∧ q.toNat < t.length) = true := by simp; omega
            have h3 : q.toNat < had.1.length := by rw [hb]; omega
            have h4 : had.1[q.toNat]? = some had.1[q.toNat] := List.getElem?_eq_getElem h3
            rw [h5, cond_true, h4, ob_some, cond_true, ob_some, wrapS (by omega)]
            cases hh : had.1[q.toNat] with
            | true => simp [mayStep, kidBad, leF (show (i : Int) < q by omega), leF (show q < (t.length : Int) by omega), h4, hh]
            | false =>
              rw [cond_false]
              have e1 : mayStep t.length had (q, (i : Int)) = (true, ⟨had.1.set q.toNat true, by simp [had.2]⟩) := by
                simp [mayStep, kidBad, leF (show (i : Int) < q by omega), leF (show q < (t.length : Int) by omega), h4, hh]
              rw [e1]
              simp only [if_true]
              exact ih (j + 1) n ⟨had.1.set q.toNat true, by simp [had.2]⟩ c (by simp only [List.length_cons] at hn; omega)
    have outer : ∀ r i n (had : HadN t.length), t.drop i = r → i ≤ t.length → r.length < n → g_poacherref04_May_L0 k t n (i : Int) had.1 = some (!(r.any workBad) && (runS (mayStep t.length) (kidsAt i r) had).1) := by
      intro r
      induction r with
      | nil =>
        intro i n had hr hi hn
        obtain ⟨n, rfl⟩ := fuel hn
        have := drop_nil hr
        rw [g_poacherref04_May_L0, ltF (by omega), cond_false]
        rfl
      | cons x r ih =>
        intro i n had hr hi hn
        obtain ⟨n, rfl⟩ := fuel hn
        obtain ⟨a, b, c, d, e⟩ := drop_cons hr
        have hxl := ht.kids x d
        rw [g_poacherref04_May_L0, ltN a, cond_true, idx_of b, ob_some, List.any_cons, kidsAt, ob_some, workBad]
        cases h6 : decide (x.1 < 0) with
        | true => simp
        | false =>
          cases h7 : decide ((20 : Int) < x.1) with
          | true => simp
          | false =>
            simp only [cond_false, Bool.or_self, Bool.false_or]
            have := inner x i b (fun s s' => g_poacherref04_May_L0 k t n s s') (!(r.any workBad)) (kidsAt (i + 1) r) (fun had => ih (i + 1) n had c (by omega) (by simp only [List.length_cons] at hn; omega)) x.2 0 k had rfl (by omega)
            simpa using this
    have := outer t 0 k (noneHad t.length) rfl (Nat.zero_le _) (by omega)
    simpa [noneHad] using this
  · rw [leT' (by omega), cond_true, decide_eq_false h1]
    rfl
theorem c_RSame (a b : List (Int × List Int)) (ha : Wt a) : g_poacherref04_Same k a b = some (decide (a = b)) := by
  have hlen := ha.len
  rw [g_poacherref04_Same, lenNe]
  by_cases h : a.length = b.length
  · rw [decide_eq_true h, Bool.not_true, cond_false, scanE (F := fun n i => g_poacherref04_Same_L0 k a b n i) h ?_ ?_ (k + 1) (by omega)]
    · intro n
      simp only [g_poacherref04_Same_L0, lt_len, cond_false]
    · intro n i x y hi hx hy
      simp only [g_poacherref04_Same_L0, ltN hi, cond_true, idx_of hx, idx_of hy, ob_some]
      rw [c_Ints k hk _ _ (ha.kids x (List.mem_of_getElem? hx)), ob_some, wrapS (by omega), bneI]
      obtain ⟨p, q⟩ := x
      obtain ⟨u, v⟩ := y
      by_cases h1 : p = u <;> by_cases h2 : q = v <;> simp [h1, h2]
  · rw [decide_eq_false h]
    have : a ≠ b := fun e => h (by rw [e])
    simp [this]
theorem c_RSums (t : List (Int × List Int)) (ht : Wt t) : g_poacherref04_Sums k t = some (if mayB t then ((t.length : Int), (t.map (·.1)).sum) else (0, 0)) := by
  rw [g_poacherref04_Sums, c_RMay k hk t ht, ob_some]
  cases hm : mayB t with
  | false => rfl
  | true =>
    have h30 := may_of' hm
    have hw : ∀ x ∈ t, 0 ≤ x.1 ∧ x.1 ≤ 20 := (may_of hm).work
    have key : ∀ r (i : Nat) n (s : Int), t.drop i = r → i ≤ t.length → r.length < n → 0 ≤ s → s ≤ 20 * (i : Int) → g_poacherref04_Sums_L0 k t n s (i : Int) = some ((t.length : Int), s + (r.map (·.1)).sum) := by
      intro r
      induction r with
      | nil =>
        intro i n s hr hi hn h0 h1
        obtain ⟨n, rfl⟩ := fuel hn
        have := drop_nil hr
        rw [g_poacherref04_Sums_L0, ltF (by omega), cond_false]
        simp
      | cons x r ih =>
        intro i n s hr hi hn h0 h1
        obtain ⟨n, rfl⟩ := fuel hn
        obtain ⟨a, b, c, d, e⟩ := drop_cons hr
        have := hw x d
        rw [g_poacherref04_Sums_L0, ltN a, cond_true, idx_of b, ob_some, wrapS (by omega), wrapI (by omega), ih (i + 1) n (s + x.1) c (by omega) (by simp only [List.length_cons] at hn; omega) (by omega) (by omega)]
        simp only [List.map_cons, List.sum_cons]
        congr 2
        omega
    rw [Bool.not_true, cond_false]
    have := key t 0 (k + 1) 0 rfl (Nat.zero_le _) (by omega) (by omega) (by omega)
    simpa using this
theorem c_RParent (t : List (Int × List Int)) (ht : Wt t) (q : Int) : g_poacherref04_Parent k t q = some (parentB t q) := by
  have hlen := ht.len
  rw [g_poacherref04_Parent, c_RMay k hk t ht, ob_some]
  unfold parentB
  have inner : ∀ (x : Int × List Int) (i : Nat) (hi : t[i]? = some x) (o : Bool → Int → Option Int) (R : List (Int × Int)) (z : Int)
      (ho : o true ((i + 1 : Nat) : Int) = some (if (runS (parStep q) R z).1 then -1 else (runS (parStep q) R z).2)),
      ∀ r j n, x.2.drop j = r → r.length < n →
        g_poacherref04_Parent_L1 k t q o n true (j : Int) (i : Int) = some (if (runS (parStep q) (r.map (fun p => (p, (i : Int))) ++ R) z).1 then -1 else (runS (parStep q) (r.map (fun p => (p, (i : Int))) ++ R) z).2) := by
    intro x i hi o R z ho r
    have hx : x ∈ t := List.mem_of_getElem? hi
    have hil : i < t.length := (List.getElem?_eq_some_iff.1 hi).1
    have hxl := ht.kids x hx
    induction r with
    | nil =>
      intro j n hr hn
      obtain ⟨n, rfl⟩ := fuel hn
      have hj := drop_nil hr
      rw [g_poacherref04_Parent_L1, idx_of hi, ob_some, ltF (by omega), cond_false, wrapS (by omega), ho]
      rfl
    | cons p r ih =>
      intro j n hr hn
      obtain ⟨n, rfl⟩ := fuel hn
      obtain ⟨a, b, c, d, e⟩ := drop_cons hr
      rw [g_poacherref04_Parent_L1, idx_of hi, ob_some, ltN a, cond_true, ob_some, idx_of b, ob_some, List.map_cons, List.cons_append, runS, beqI]
      by_cases h1 : p = q
      · simp [h1, parStep]
      · rw [decide_eq_false h1, cond_false, wrapS (by omega), ih (j + 1) n c (by simp only [List.length_cons] at hn; omega)]
        simp [parStep, h1]
  have outer : ∀ r i n (z : Int), t.drop i = r → i ≤ t.length → r.length < n → g_poacherref04_Parent_L0 k t q n true (i : Int) = some (if (runS (parStep q) (kidsAt i r) z).1 then -1 else (runS (parStep q) (kidsAt i r) z).2) := by
    intro r
    induction r with
    | nil =>
      intro i n z hr hi hn
      obtain ⟨n, rfl⟩ := fuel hn
      have := drop_nil hr
      rw [g_poacherref04_Parent_L0, ltF (by omega), cond_false]
      rfl
    | cons x r ih =>
      intro i n z hr hi hn
      obtain ⟨n, rfl⟩ := fuel hn
      obtain ⟨a, b, c, d, e⟩ := drop_cons hr
      have hxl := ht.kids x d
      rw [g_poacherref04_Parent_L0, ltN a, cond_true, cond_true, kidsAt]
      have := inner x i b (fun s s' => g_poacherref04_Parent_L0 k t q n s s') (kidsAt (i + 1) r) z (ih (i + 1) n z c (by omega) (by simp only [List.length_cons] at hn; omega)) x.2 0 (k + 1) rfl (by omega)
      simpa using this
  cases hm : mayB t with
  | false =>
    obtain ⟨n, hn⟩ : ∃ n, k + 1 = n + 1 := ⟨k, rfl⟩
    rw [hn, g_poacherref04_Parent_L0]
    cases decide ((0 : Int) < (t.length : Int)) <;> rfl
  | true =>
    rw [if_pos rfl]
    have := outer t 0 (k + 1) 0 rfl (Nat.zero_le _) (by omega)
    simpa using this
theorem c_RRoots (t : List (Int × List Int)) (ht : Wt t) : g_poacherref04_Roots k t = some (rootsB t) := by
  rw [g_poacherref04_Roots, c_RMay (k + 1) (by omega) t ht, ob_some]
  unfold rootsB
  cases hm : mayB t with
  | false =>
    obtain ⟨n, hn⟩ : ∃ n, k + 2 = n + 1 := ⟨k + 1, rfl⟩
    rw [hn, g_poacherref04_Roots_L0]
    cases decide ((0 : Int) < (t.length : Int)) <;> rfl
  | true =>
    have h30 := may_of' hm
    rw [if_pos rfl]
    have key : ∀ m i n (l : List Int) (e : Nat), i + m = t.length → m < n → l.length ≤ i → e ≤ 1 → g_poacherref04_Roots_L0 k t n true l (i : Int) e = some (l ++ rootsAt t i m) := by
      intro m
      induction m with
      | zero =>
        intro i n l e hi hn hl he
        obtain ⟨n, rfl⟩ := fuel hn
        rw [g_poacherref04_Roots_L0, ltF (by omega), cond_false, rootsAt, List.append_nil]
      | succ m ih =>
        intro i n l e hi hn hl he
        obtain ⟨n, rfl⟩ := fuel hn
        rw [g_poacherref04_Roots_L0, ltN (by omega), cond_true, cond_true, c_RParent k hk t ht, ob_some, wrapS (by omega), rootsAt]
        rcases parent_cases (i : Int) hm with ⟨h, _⟩ | ⟨o, ho, h⟩
        · have e1 : (e == 1 || e == 0) = true := by
            have : e = 0 ∨ e = 1 := by omega
            rcases this with rfl | rfl <;> rfl
          have e2 : room (l ++ [(i : Int)]).length 8 = true := roomT (by simp; omega)
          rw [if_pos h, h, ltT (by omega), cond_true, e1, ck_true, e2, cond_true, ih (i + 1) n _ 1 (by omega) (by omega) (by simp; omega) (by omega)]
          simp
        · have h0 : 0 ≤ o := kidsAt_nonneg _ ho
          rw [if_neg (by omega), h, ltF h0, cond_false, ih (i + 1) n l e (by omega) (by omega) (by omega) he]
    have := key t.length 0 (k + 2) [] 0 (by omega) (by omega) (by simp) (by omega)
    simpa using this
end
end Go.Ab
