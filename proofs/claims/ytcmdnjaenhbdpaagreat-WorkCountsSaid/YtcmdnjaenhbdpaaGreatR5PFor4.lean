/- The forest's functions that the submitter reaches, as words. -/
import Derived.Test.YtcmdnjaenhbdpaaGreatR5GF
import Derived.Test.YtcmdnjaenhbdpaaGreatR5GV
import Derived.Test.YtcmdnjaenhbdpaaGreatR5PForP
set_option linter.unusedVariables false
set_option linter.unusedSimpArgs false
set_option maxRecDepth 100000
set_option linter.unusedVariables false
namespace Go.Ab
theorem c_May1 (x : Int × List Int) : g_forest_May_1 x = some (workBad x) := by
  unfold g_forest_May_1 workBad
  cases decide (x.1 < 0) <;> rfl
section
variable (k : Nat) (hk : 9223372036854775808 ≤ k)
include hk
theorem c_Few04 (t : List (Int × List Int)) (ht : Wt t) : g_poacherlaw04_Few k t = some (fewB t) := by
  have hlen := ht.len
  have key : ∀ r i n, t.drop i = r → i ≤ t.length → r.length < n → g_poacherlaw04_Few_L0 k t n (i : Int) = some ((r.take (41 - i)).all (fun x => decide (x.2.length ≤ 40)) && decide (t.length ≤ 40)) := by
    intro r
    induction r with
    | nil =>
      intro i n hr hi hn
      obtain ⟨n, rfl⟩ := fuel hn
      have : i = t.length := by have := drop_nil hr; omega
      subst this
      rw [g_poacherlaw04_Few_L0, lt_len, cond_false, cast40]
      simp
    | cons x r ih =>
      intro i n hr hi hn
      obtain ⟨n, rfl⟩ := fuel hn
      obtain ⟨a, b, c, d, e⟩ := drop_cons hr
      rw [g_poacherlaw04_Few_L0, ltN a, cond_true]
      by_cases h : i ≤ 40
      · rw [leT (show (i : Int) ≤ 40 by omega), cond_true, idx_of b, ob_some]
        have e1 : 41 - i = (41 - (i + 1)) + 1 := by omega
        rw [e1, List.take_succ_cons, List.all_cons]
        by_cases h2 : x.2.length ≤ 40
        · rw [ltF (show ((x.2.length : Nat) : Int) ≤ 40 by omega), cond_false, wrapS (by omega), ih (i + 1) n c (by omega) (by simp only [List.length_cons] at hn; omega), decide_eq_true h2, Bool.true_and]
        · rw [ltT (show (40 : Int) < (x.2.length : Nat) by omega), cond_true, decide_eq_false h2]
          rfl
      · rw [leF (show (40 : Int) < i by omega), cond_false, cast40]
        have e1 : 41 - i = 0 := by omega
        rw [e1]
        simp
  have := key t 0 k rfl (Nat.zero_le _) (by omega)
  rw [g_poacherlaw04_Few]
  simpa [fewB] using this
theorem c_CFMay (t : List (Int × List Int)) (ht : Wt t) : g_slices_ContainsFunc_apiTask_forest_May_1 k t = some (t.any workBad) := by
  have hlen := ht.len
  rw [g_slices_ContainsFunc_apiTask_forest_May_1, g_slices_IndexFunc_apiTask_forest_May_1]
  rw [scanF (F := fun n i => g_slices_IndexFunc_apiTask_forest_May_1_L0 (k + 8) t n i) (l := t) workBad ?_ ?_ _ (by omega)]
  · rw [ob_some, idxG_ge]
  · intro n
    simp only [g_slices_IndexFunc_apiTask_forest_May_1_L0, lt_len, cond_false]
  · intro n i x hi hx
    simp only [g_slices_IndexFunc_apiTask_forest_May_1_L0, ltN hi, cond_true, idx_of hx, ob_some, c_May1, Prod.eta]
    rw [wrapS (by omega)]
theorem c_May (t : List (Int × List Int)) (ht : Wt t) : g_forest_May k t = some (mayB t) := by
  have hlen := ht.len
  rw [g_forest_May, c_CFMay k hk t ht, ob_some]
  unfold mayB
  by_cases h1 : t.length ≤ 30
  · rw [leF' h1, cond_false, decide_eq_true h1]
    cases h2 : t.any workBad with
    | true => rfl
    | false =>
      have h3 : decide ((0 : Int) ≤ (t.length : Int) ∧ (t.length : Int) ≤ 9223372036854775807 ∧ (t.length : Int) * 1 ≤ 70368744177664) = true := by simp; omega
      rw [h3, cond_false, cond_true]
      -- one task's kids
      have inner : ∀ (x : Int × List Int) (hx : x ∈ t) (i : Nat) (hi : i < t.length) (o : Int → List Bool → Option Bool) (R : List (Int × Int)) (n0 : Nat)
          (ho : ∀ had : HadN t.length, o ((i + 1 : Nat) : Int) had.1 = some (runS (mayStep t.length) R had).1),
          ∀ r j n (had : HadN t.length), x.2.drop j = r → r.length < n →
            g_forest_May_L1 k t o n x.2 (x.2.length : Int) (j : Int) had.1 (i : Int) = some (runS (mayStep t.length) (r.map (fun q => (q, (i : Int))) ++ R) had).1 := by
        intro x hx i hi o R n0 ho r
        have hxl := ht.kids x hx
        induction r with
        | nil =>
          intro j n had hr hn
          obtain ⟨n, rfl⟩ := fuel hn
          have hj := drop_nil hr
          rw [g_forest_May_L1, ltF (by omega), cond_false, wrapS (by omega), ho]
          rfl
        | cons q r ih =>
          intro j n had hr hn
          obtain ⟨n, rfl⟩ := fuel hn
          obtain ⟨a, b, c, d, e⟩ := drop_cons hr
          have hb := had.2
          rw [g_forest_May_L1, ltN a, cond_true, idx_of b, ob_some, List.map_cons, List.cons_append, runS]
          by_cases h1 : q ≤ (i : Int)
          · rw [leT h1, cond_true]
            simp [mayStep, kidBad, leT h1]
          · rw [leF (show (i : Int) < q by omega), cond_false]
            by_cases h2 : (t.length : Int) ≤ q
            · rw [leT h2, cond_true]
              simp [mayStep, kidBad, leT h2]
            · rw [leF (show q < (t.length : Int) by omega), cond_false]
              have h5 : decide ((0 : Int) ≤ q ∧ q.toNat < t.length) = true := by simp; omega
              have h3 : q.toNat < had.1.length := by rw [hb]; omega
              have h4 : had.1[q.toNat]? = some had.1[q.toNat] := List.getElem?_eq_getElem h3
              rw [h5, cond_true, h4, ob_some, cond_true, ob_some, wrapS (by omega)]
              cases hh : had.1[q.toNat] with
              | true => simp [mayStep, kidBad, leF (show (i : Int) < q by omega), leF (show q < (t.length : Int) by omega), h4, hh]
              | false =>
                rw [cond_false]
                have e1 : mayStep t.length had (q, (i : Int)) = (true, ⟨had.1.set q.toNat true, by simp [had.2]⟩) := by
                  simp [mayStep, kidBad, leF (show (i : Int) < q by omega), leF (show q < (t.length : Int) by omega), h4, hh]
                rw [e1]
                simp only [if_true]
                exact ih (j + 1) n ⟨had.1.set q.toNat true, by simp [had.2]⟩ c (by simp only [List.length_cons] at hn; omega)
      have outer : ∀ r i n (had : HadN t.length), t.drop i = r → i ≤ t.length → r.length < n → g_forest_May_L0 k t n (i : Int) had.1 = some (runS (mayStep t.length) (kidsAt i r) had).1 := by
        intro r
        induction r with
        | nil =>
          intro i n had hr hi hn
          obtain ⟨n, rfl⟩ := fuel hn
          have := drop_nil hr
          rw [g_forest_May_L0, ltF (by omega), cond_false]
          rfl
        | cons x r ih =>
          intro i n had hr hi hn
          obtain ⟨n, rfl⟩ := fuel hn
          obtain ⟨a, b, c, d, e⟩ := drop_cons hr
          have hxl := ht.kids x d
          rw [g_forest_May_L0, ltN a, cond_true, idx_of b, ob_some, kidsAt]
          have := inner x d i a (fun s47 s56 => g_forest_May_L0 k t n s47 s56) (kidsAt (i + 1) r) n (fun had => ih (i + 1) n had c (by omega) (by simp only [List.length_cons] at hn; omega)) x.2 0 (k + 17) had rfl (by omega)
          simpa using this
      have := outer t 0 (k + 17) (noneHad t.length) rfl (Nat.zero_le _) (by omega)
      simpa [noneHad] using this
  · rw [leT' (by omega), cond_true, decide_eq_false h1]
    rfl
end
end Go.Ab
