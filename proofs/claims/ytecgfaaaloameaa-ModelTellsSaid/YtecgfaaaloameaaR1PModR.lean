/- What happens, as the document says it, as words. -/
import Derived.Test.YtecgfaaaloameaaR1PMod
set_option maxRecDepth 100000
set_option linter.unusedVariables false
namespace Go.Ab
section
variable (k : Nat) (hk : 9223372036854775808 ≤ k)
include hk
theorem c_RNew (t : List (Int × List Int)) (ht : Wt t) : g_poacherref21_New k t = some (newB t) := by
  rw [g_poacherref21_New, c_RMay k hk t ht, ob_some, newB]
  cases hm : mayB t with
  | false => rfl
  | true =>
    have h30 := may_of' hm
    have h3 : decide ((0 : Int) ≤ (t.length : Int) ∧ (t.length : Int) ≤ 9223372036854775807 ∧ (t.length : Int) * 8 ≤ 70368744177664) = true := by simp; omega
    rw [h3]
    rfl
theorem c_RCalm (s : List Int) (hs : s.length ≤ 9223372036854775807) : g_poacherref21_Calm k s = some (calmB s) := by
  rw [g_poacherref21_Calm]
  have key : ∀ r i n, s.drop i = r → i ≤ s.length → r.length < n → g_poacherref21_Calm_L0 k s n (i : Int) = some (!(r.any busyB)) := by
    intro r
    induction r with
    | nil =>
      intro i n hr hi hn
      obtain ⟨n, rfl⟩ := fuel hn
      have := drop_nil hr
      rw [g_poacherref21_Calm_L0, ltF (by omega), cond_false]
      rfl
    | cons x r ih =>
      intro i n hr hi hn
      obtain ⟨n, rfl⟩ := fuel hn
      obtain ⟨a, b, c, d, e⟩ := drop_cons hr
      rw [g_poacherref21_Calm_L0, ltN a, cond_true, idx_of b, ob_some, ob_some, wrapS (by omega), ih (i + 1) n c (by omega) (by simp only [List.length_cons] at hn; omega), List.any_cons, busyB]
      cases x == 1 <;> cases x == 2 <;> simp
  have := key s 0 k rfl (Nat.zero_le _) (by omega)
  simpa [calmB] using this
theorem c_Rfits (t : List (Int × List Int)) (ht : Wt t) (s : List Int) (hs : s.length ≤ 9223372036854775807) : g_poacherref21_fits k t s = some (fitsB t s) := by
  rw [g_poacherref21_fits, c_RMay k hk t ht, ob_some, fitsB, lenNe]
  have e : (s.length == t.length) = decide (s.length = t.length) := by
    by_cases h : s.length = t.length <;> simp [h]
  rw [e]
  cases hm : mayB t with
  | false => rfl
  | true =>
    cases decide (s.length = t.length) with
    | false => rfl
    | true =>
      rw [Bool.not_true, cond_false, cond_false, Bool.and_self, Bool.true_and]
      have key : ∀ r i n, s.drop i = r → i ≤ s.length → r.length < n → g_poacherref21_fits_L0 k t s n (i : Int) = some (!(r.any oddB)) := by
        intro r
        induction r with
        | nil =>
          intro i n hr hi hn
          obtain ⟨n, rfl⟩ := fuel hn
          have := drop_nil hr
          rw [g_poacherref21_fits_L0, ltF (by omega), cond_false]
          rfl
        | cons x r ih =>
          intro i n hr hi hn
          obtain ⟨n, rfl⟩ := fuel hn
          obtain ⟨a, b, c, d, e⟩ := drop_cons hr
          rw [g_poacherref21_fits_L0, ltN a, cond_true, idx_of b, ob_some, ob_some, wrapS (by omega), ih (i + 1) n c (by omega) (by simp only [List.length_cons] at hn; omega), List.any_cons, oddB]
          cases decide (x < 0) <;> cases decide ((3 : Int) < x) <;> simp
      have := key s 0 (k + 1) rfl (Nat.zero_le _) (by omega)
      simpa using this
theorem c_RStep (t : List (Int × List Int)) (ht : Wt t) (s : List Int) (hs : s.length ≤ 1048576) (e : Int × Int × Int) : g_poacherref21_Step k t s e = some (stepE t s e) := by
  rw [g_poacherref21_Step, c_Rfits (k + 1) (by omega) t ht s (by omega), ob_some, c_RCalm (k + 2) (by omega) s (by omega), ob_some, stepE]
  cases hf : fitsB t s with
  | false => rfl
  | true =>
    obtain ⟨hm, hl⟩ := fits_len hf
    have hM := may_of hm
    obtain ⟨kd, q, w⟩ := e
    rw [Bool.not_true, cond_false, if_neg (show ¬ (true = false) by simp), beqI]
    simp only
    by_cases h5 : kd = 5
    · rw [decide_eq_true h5, cond_true, if_pos h5]
    · rw [decide_eq_false h5, cond_false, if_neg h5]
      by_cases h0 : q < 0
      · rw [ltT h0, if_pos (.inl h0)]; rfl
      · by_cases h1 : (t.length : Int) ≤ q
        · rw [ltF (by omega), leT h1, if_pos (.inr h1)]; rfl
        · have hx : s[q.toNat]? = some s[q.toNat] := List.getElem?_eq_getElem (by omega)
          have hix : idx s q = some s[q.toNat] := by rw [idx, if_pos (by omega), hx]
          have hd : decide ((0 : Int) ≤ q ∧ q.toNat < s.length) = true := by simp; omega
          have h8 : decide (s.length * 8 ≤ 70368744177664) = true := decide_eq_true (by omega)
          have htx : t[q.toNat]? = some t[q.toNat] := List.getElem?_eq_getElem (by omega)
          have hit : idx t q = some t[q.toNat] := by rw [idx, if_pos (by omega), htx]
          have hkl := ht.kids _ (List.getElem_mem (show q.toNat < t.length by omega))
          have hpa : parentB t q = -1 ∨ 0 ≤ parentB t q := by
            rcases parent_cases q hm with ⟨c, _⟩ | ⟨o, ho, c⟩
            · exact .inl c
            · have := kidsAt_nonneg _ ho
              simp only at this
              exact .inr (by omega)
          have haft : g_poacherref21_after k t s (kd, q, w) = some ((ruleB t s kd q).getD (-1)) := by
            rw [g_poacherref21_after, c_RParent k hk t ht, ob_some]
            simp only [hix, ob_some, beqI, ruleB, hx, Option.getD_some]
            by_cases k0 : kd = 0
            · subst k0
              rcases hpa with a | a
              · by_cases b : s[q.toNat] = 0 <;> simp [a, b]
              · have a1 : ¬ parentB t q = -1 := by omega
                have a2 : ¬ parentB t q < 0 := by omega
                simp [a1, a2]
            by_cases k1 : kd = 1
            · subst k1
              rcases hpa with a | a
              · by_cases b : s[q.toNat] = 0 <;> simp [a, b]
              · have a1 : ¬ parentB t q = -1 := by omega
                have a2 : ¬ parentB t q < 0 := by omega
                simp [a1, a2]
            by_cases k3 : kd = 3
            · subst k3
              by_cases b : 0 ≤ parentB t q
              · obtain ⟨y, hy⟩ : ∃ y, s[(parentB t q).toNat]? = some y := by
                  rcases parent_cases q hm with ⟨c, _⟩ | ⟨o, ho, c⟩
                  · omega
                  · have := hM.kids _ ho
                    simp only at this
                    exact ⟨_, List.getElem?_eq_getElem (by omega)⟩
                have hiy : idx s (parentB t q) = some y := by rw [idx, if_pos b, hy]
                rw [hiy]
                by_cases a : s[q.toNat] = 0 <;> by_cases d : y = 2 <;> simp [a, b, hy, d, ob_some]
              · simp [b]
            by_cases k2 : kd = 2
            · subst k2
              by_cases a : s[q.toNat] = 1 <;> simp [a]
            by_cases k4 : kd = 4
            · subst k4
              have hin : ∀ i ∈ (t[q.toNat]).2, ∃ v, idx s i = some v := by
                intro i hi
                have hk := hM.kids (i, ((0 + q.toNat : Nat) : Int)) (mem_kidsAt.2 ⟨q.toNat, _, htx, hi, rfl⟩)
                simp only at hk
                rw [idx, if_pos (by omega)]
                exact ⟨_, List.getElem?_eq_getElem (by omega)⟩
              have key : ∀ r i n, (t[q.toNat]).2.drop i = r → i ≤ (t[q.toNat]).2.length → r.length < n → g_poacherref21_after_L0 k t s (4, q, w) n (i : Int) = some (if (r.any fun i => (idx s i).getD 1 == 0) = true then -1 else if s[q.toNat] = 2 then 3 else -1) := by
                intro r
                induction r with
                | nil =>
                  intro i n hr hi hn
                  obtain ⟨n, rfl⟩ := fuel hn
                  have := drop_nil hr
                  rw [g_poacherref21_after_L0]
                  simp only [hit, ob_some]
                  rw [ltF (by omega), cond_false]
                  simp only [hix, ob_some, beqI]
                  by_cases a : s[q.toNat] = 2 <;> simp [a]
                | cons x r ih =>
                  intro i n hr hi hn
                  obtain ⟨n, rfl⟩ := fuel hn
                  obtain ⟨a, b, c, d, e⟩ := drop_cons hr
                  obtain ⟨v, hv⟩ := hin x d
                  rw [g_poacherref21_after_L0]
                  simp only [hit, ob_some]
                  rw [ltN a, cond_true, idx_of b, ob_some, hv, ob_some, wrapS (by omega), ih (i + 1) n c (by omega) (by simp only [List.length_cons] at hn; omega), List.any_cons, hv, beqI]
                  by_cases z : v = 0 <;> simp [z]
              have := key (t[q.toNat]).2 0 (k + 2) rfl (Nat.zero_le _) (by omega)
              simp only [Int.natCast_zero] at this
              rw [htx, Option.getD_some]
              simp only [decide_eq_false (show ¬ (4 : Int) = 0 by omega), decide_eq_false (show ¬ (4 : Int) = 1 by omega), decide_eq_false (show ¬ (4 : Int) = 3 by omega), decide_eq_false (show ¬ (4 : Int) = 2 by omega), decide_true, cond_false, cond_true]
              rw [this]
              by_cases a : s[q.toNat] = 2 <;> cases hb : ((t[q.toNat]).2.any fun i => (idx s i).getD 1 == 0) <;> simp [a]
            simp [k0, k1, k2, k3, k4]
          rw [ltF (by omega), leF (by omega), cond_false, cond_false, if_neg (by omega), haft, ob_some]
          cases hr : ruleB t s kd q with
          | none => rfl
          | some n =>
            have h0n : 0 ≤ n := by
              rcases ruleB_cases hr with h | h | h | h | h <;> omega
            rw [Option.getD_some, ltF h0n, cond_false, h8, hd, hx]
            rfl
theorem c_RRun (t : List (Int × List Int)) (ht : Wt t) (l : List (Int × Int × Int)) (hl : l.length ≤ 9223372036854775807) : g_poacherref21_End k t l = some (runE t l).1 ∧ g_poacherref21_Accepts k t l = some ((runE t l).2 && mayB t) := by
  have hn := newB_len t
  have key : ∀ r i n s, l.drop i = r → i ≤ l.length → r.length < n → s.length ≤ 1048576 →
      g_poacherref21_End_L0 k t l n s (i : Int) = some (runL t r s).1 ∧ g_poacherref21_Accepts_L0 k t l n s (i : Int) = some ((runL t r s).2 && mayB t) := by
    intro r
    induction r with
    | nil =>
      intro i n s hr hi hn hs
      obtain ⟨n, rfl⟩ := fuel hn
      have := drop_nil hr
      rw [g_poacherref21_End_L0, g_poacherref21_Accepts_L0, ltF (by omega), cond_false, cond_false, c_RMay (k + 3) (by omega) t ht, ob_some]
      exact ⟨rfl, rfl⟩
    | cons x r ih =>
      intro i n s hr hi hn hs
      obtain ⟨n, rfl⟩ := fuel hn
      obtain ⟨a, b, c, d, e⟩ := drop_cons hr
      have hlen := stepE_len t s x
      have ih' := ih (i + 1) n (stepE t s x).1 c (by omega) (by simp only [List.length_cons] at hn; omega) (by rw [hlen]; exact hs)
      rw [g_poacherref21_End_L0, g_poacherref21_Accepts_L0, ltN a, cond_true, cond_true, idx_of b, ob_some, ob_some, wrapS (by omega), c_RStep k hk t ht s hs, ob_some, ob_some, runL]
      cases h : (stepE t s (x.1, x.2.1, x.2.2)).2 with
      | false =>
        have := stepE_no t s x h
        rw [Bool.not_false, cond_true, cond_true, if_neg (by simp)]
        exact ⟨congrArg some this.symm, rfl⟩
      | true =>
        rw [Bool.not_true, cond_false, cond_false, if_pos rfl]
        exact ih'
  have := key l 0 (k + 4) (newB t) rfl (Nat.zero_le _) (by omega) (by omega)
  rw [g_poacherref21_End, g_poacherref21_Accepts, c_RNew (k + 2) (by omega) t ht, ob_some, ob_some, runE]
  simpa using this
end
end Go.Ab
