/- What happens, as words. -/
import Derived.Test.YtecgfaaaloameaaR1GM
import Derived.Test.YtecgfaaaloameaaR1PFor
import Derived.Test.YtecgfaaaloameaaR1PModP
set_option maxRecDepth 100000
set_option linter.unusedVariables false
namespace Go.Ab
theorem c_clone {α : Type} (b : Nat) (l : List α) (h : l.length * b ≤ 70368744177664) : g_clone b l = some l := by
  unfold g_clone
  rw [nble, decide_eq_true h, ck_true]
theorem c_fits1 (x : Int) : g_model_fits_1 x = some (oddB x) := by
  unfold g_model_fits_1 oddB
  cases decide (x < 0) <;> rfl
theorem c_Calm1 (x : Int) : g_model_Calm_1 x = some (busyB x) := by
  unfold g_model_Calm_1 busyB
  cases x == 1 <;> rfl
theorem fits_len {t : List (Int × List Int)} {s : List Int} (h : fitsB t s = true) : mayB t = true ∧ s.length = t.length := by
  simp only [fitsB, Bool.and_eq_true, beq_iff_eq] at h
  exact h.1
theorem newB_len (t : List (Int × List Int)) : (newB t).length ≤ 30 := by
  unfold newB
  split
  · rename_i h
    simpa using may_of' h
  · simp
section
variable (k : Nat) (hk : 9223372036854775808 ≤ k)
include hk
theorem c_New (t : List (Int × List Int)) (ht : Wt t) : g_model_New k t = some (newB t) := by
  rw [g_model_New, c_May k hk t ht, ob_some, newB]
  cases hm : mayB t with
  | false => rfl
  | true =>
    have h30 := may_of' hm
    have h3 : decide ((0 : Int) ≤ (t.length : Int) ∧ (t.length : Int) ≤ 9223372036854775807 ∧ (t.length : Int) * 8 ≤ 70368744177664) = true := by simp; omega
    rw [h3]
    rfl
theorem c_Calm (s : List Int) (hs : s.length ≤ 9223372036854775807) : g_model_Calm k s = some (calmB s) := by
  rw [g_model_Calm, g_slices_ContainsFunc_int_model_Calm_1, g_slices_IndexFunc_int_model_Calm_1, scanF (F := fun n i => g_slices_IndexFunc_int_model_Calm_1_L0 (k + 8) s n i) (l := s) busyB ?_ ?_ _ (by omega), ob_some, idxG_ge, ob_some]
  · rfl
  · intro n
    simp only [g_slices_IndexFunc_int_model_Calm_1_L0, lt_len, cond_false]
  · intro n i x hi hx
    simp only [g_slices_IndexFunc_int_model_Calm_1_L0, ltN hi, cond_true, idx_of hx, ob_some, c_Calm1]
    rw [wrapS (by omega)]
theorem c_fits (t : List (Int × List Int)) (ht : Wt t) (s : List Int) (hs : s.length ≤ 9223372036854775807) : g_model_fits k t s = some (fitsB t s) := by
  rw [g_model_fits, c_May k hk t ht, ob_some, g_slices_ContainsFunc_int_model_fits_1, g_slices_IndexFunc_int_model_fits_1, scanF (F := fun n i => g_slices_IndexFunc_int_model_fits_1_L0 (k + 1 + 8) s n i) (l := s) oddB ?_ ?_ _ (by omega), ob_some, idxG_ge, ob_some, fitsB, lenEq]
  · have e : (s.length == t.length) = decide (s.length = t.length) := by
      by_cases h : s.length = t.length <;> simp [h]
    rw [e]
    cases mayB t <;> cases decide (s.length = t.length) <;> rfl
  · intro n
    simp only [g_slices_IndexFunc_int_model_fits_1_L0, lt_len, cond_false]
  · intro n i x hi hx
    simp only [g_slices_IndexFunc_int_model_fits_1_L0, ltN hi, cond_true, idx_of hx, ob_some, c_fits1]
    rw [wrapS (by omega)]
theorem c_Step (t : List (Int × List Int)) (ht : Wt t) (s : List Int) (hs : s.length ≤ 1048576) (e : Int × Int × Int) : g_model_Step k t s e = some (stepE t s e) := by
  rw [g_model_Step, c_clone 8 s (by omega), ob_some, c_fits (k + 1) (by omega) t ht s (by omega), ob_some, stepE]
  cases hf : fitsB t s with
  | false => rfl
  | true =>
    obtain ⟨hm, hl⟩ := fits_len hf
    have hM := may_of hm
    obtain ⟨kd, q, w⟩ := e
    rw [Bool.not_true, cond_false, if_neg (show ¬ (true = false) by simp), beqI]
    simp only
    by_cases h5 : kd = 5
    · rw [decide_eq_true h5, cond_true, if_pos h5, c_Calm (k + 2) (by omega) s (by omega), ob_some]
    · rw [decide_eq_false h5, cond_false, if_neg h5]
      by_cases h0 : q < 0
      · rw [ltT h0, if_pos (.inl h0)]; rfl
      · by_cases h1 : (t.length : Int) ≤ q
        · rw [ltF (by omega), leT h1, if_pos (.inr h1)]; rfl
        · have hx : s[q.toNat]? = some s[q.toNat] := List.getElem?_eq_getElem (by omega)
          have hix : idx s q = some s[q.toNat] := by rw [idx, if_pos (by omega), hx]
          have hd : decide ((0 : Int) ≤ q ∧ q.toNat < s.length) = true := by simp; omega
          have htx : t[q.toNat]? = some t[q.toNat] := List.getElem?_eq_getElem (by omega)
          have hit : idx t q = some t[q.toNat] := by rw [idx, if_pos (by omega), htx]
          rw [ltF (by omega), leF (by omega), cond_false, cond_false, if_neg (by omega), c_Parent k hk t ht, ob_some]
          simp only [hix, ob_some, hd, hx, cond_true, beqI, bneI, ruleB, Option.getD_some]
          by_cases k0 : kd = 0
          · subst k0
            by_cases a : s[q.toNat] = 0 <;> by_cases b : parentB t q < 0 <;> simp [a, b]
          by_cases k1 : kd = 1
          · subst k1
            by_cases a : s[q.toNat] = 0 <;> by_cases b : parentB t q < 0 <;> simp [a, b]
          by_cases k3 : kd = 3
          · subst k3
            by_cases a : s[q.toNat] = 0
            · by_cases b : 0 ≤ parentB t q
              · obtain ⟨y, hy⟩ : ∃ y, s[(parentB t q).toNat]? = some y := by
                  rcases parent_cases q hm with ⟨c, _⟩ | ⟨o, ho, c⟩
                  · omega
                  · have := hM.kids _ ho
                    simp only at this
                    exact ⟨_, List.getElem?_eq_getElem (by omega)⟩
                have hiy : idx s (parentB t q) = some y := by rw [idx, if_pos b, hy]
                rw [hiy]
                by_cases d : y = 2 <;> simp [a, b, hy, d, ob_some]
              · simp [a, b]
            · simp [a]
          by_cases k2 : kd = 2
          · subst k2
            by_cases a : s[q.toNat] = 1 <;> simp [a, g_model_rules_3, ob_some]
          by_cases k4 : kd = 4
          · subst k4
            have hin : ∀ i ∈ (t[q.toNat]).2, ∃ v, idx s i = some v := by
              intro i hi
              have hk := hM.kids (i, ((0 + q.toNat : Nat) : Int)) (mem_kidsAt.2 ⟨q.toNat, _, htx, hi, rfl⟩)
              simp only at hk
              rw [idx, if_pos (by omega)]
              exact ⟨_, List.getElem?_eq_getElem (by omega)⟩
            have hkl := ht.kids _ (List.getElem_mem (show q.toNat < t.length by omega))
            rw [hit, ob_some, scanF (F := fun n i => e_model_Step_E0_L0 k n (t[q.toNat]).2 ((t[q.toNat]).2.length : Int) s i) (l := (t[q.toNat]).2) (fun i => (idx s i).getD 1 == 0) ?_ ?_ _ (by omega), ob_some, idxG_ge, htx, Option.getD_some]
            · by_cases a : s[q.toNat] = 2 <;> cases hb : ((t[q.toNat]).2.any fun i => (idx s i).getD 1 == 0) <;> simp [a]
            · intro n
              simp only [e_model_Step_E0_L0, lt_len, cond_false]
            · intro n i x hi hx
              obtain ⟨v, hv⟩ := hin x (List.mem_of_getElem? hx)
              simp only [e_model_Step_E0_L0, ltN hi, cond_true, idx_of hx, hv, ob_some, Option.getD_some]
              rw [wrapS (by omega)]
          simp [k0, k1, k2, k3, k4]
theorem c_run (t : List (Int × List Int)) (ht : Wt t) (l : List (Int × Int × Int)) (hl : l.length ≤ 9223372036854775807) : g_model_run k t l = some (runE t l) := by
  rw [g_model_run, c_New (k + 2) (by omega) t ht, ob_some, runE]
  have hn := newB_len t
  have key : ∀ r i n s, l.drop i = r → i ≤ l.length → r.length < n → s.length ≤ 1048576 → g_model_run_L0 k t l n s true (i : Int) = some (runL t r s) := by
    intro r
    induction r with
    | nil =>
      intro i n s hr hi hn hs
      obtain ⟨n, rfl⟩ := fuel hn
      have := drop_nil hr
      rw [g_model_run_L0, ltF (by omega), cond_false]
      rfl
    | cons x r ih =>
      intro i n s hr hi hn hs
      obtain ⟨n, rfl⟩ := fuel hn
      obtain ⟨a, b, c, d, e⟩ := drop_cons hr
      have hlen := stepE_len t s x
      rw [g_model_run_L0, ltN a, cond_true, idx_of b, ob_some, wrapS (by omega), c_Step k hk t ht s hs, ob_some, runL]
      cases h : (stepE t s (x.1, x.2.1, x.2.2)).2 with
      | false => rw [Bool.not_false, cond_true, if_neg (by simp)]
      | true => rw [Bool.not_true, cond_false, if_pos rfl, ih (i + 1) n _ c (by omega) (by simp only [List.length_cons] at hn; omega) (by rw [hlen]; exact hs)]
  have := key l 0 (k + 22) (newB t) rfl (Nat.zero_le _) (by omega) (by omega)
  simpa using this
theorem c_End (t : List (Int × List Int)) (ht : Wt t) (l : List (Int × Int × Int)) (hl : l.length ≤ 9223372036854775807) : g_model_End k t l = some (runE t l).1 := by
  rw [g_model_End, c_run k hk t ht l hl, ob_some]
theorem c_Accepts (t : List (Int × List Int)) (ht : Wt t) (l : List (Int × Int × Int)) (hl : l.length ≤ 9223372036854775807) : g_model_Accepts k t l = some ((runE t l).2 && mayB t) := by
  rw [g_model_Accepts, c_run k hk t ht l hl, ob_some, c_May (k + 4) (by omega) t ht, ob_some]
  cases (runE t l).2 <;> rfl
end
end Go.Ab
