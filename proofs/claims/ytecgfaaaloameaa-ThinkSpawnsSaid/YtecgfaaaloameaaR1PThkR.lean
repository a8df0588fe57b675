/- The stacks' document, as words. -/
import Derived.Test.YtecgfaaaloameaaR1PThk
set_option linter.unusedVariables false
namespace Go.Ab
section
variable (k : Nat) (hk : 9223372036854775808 ≤ k)
include hk
theorem c_RTSame (a b : List (Int × Int × Int)) (ha : a.length ≤ 9223372036854775807) : g_poacherref17_Same k a b = some (decide (a = b)) := by
  rw [g_poacherref17_Same, lenNe]
  by_cases h : a.length = b.length
  · rw [decide_eq_true h, Bool.not_true, cond_false, scanE (F := fun n i => g_poacherref17_Same_L0 k a b n i) h ?_ ?_ k (by omega)]
    · intro n
      simp only [g_poacherref17_Same_L0, lt_len, cond_false]
    · intro n i x y hi hx hy
      simp only [g_poacherref17_Same_L0, ltN hi, cond_true, idx_of hx, idx_of hy, ob_some, tripEq]
      rw [wrapS (by omega)]
      cases decide (x = y) <;> rfl
  · rw [decide_eq_false h]
    have : a ≠ b := fun e => h (by rw [e])
    simp [this]
theorem c_RTMay (t : List (Int × List Int)) (ht : Wt t) (s : List (Int × Int × Int)) (hs : s.length ≤ 9223372036854775807) : g_poacherref17_May k t s = some (stackB t s) := by
  have hlen := ht.len
  rw [g_poacherref17_May, c_RMay k hk t ht, ob_some, stackB]
  cases hm : mayB t with
  | false => rfl
  | true =>
    rw [Bool.not_true, cond_false]
    have key : ∀ r i n, s.drop i = r → i ≤ s.length → r.length < n → g_poacherref17_May_L0 k t s n (i : Int) = some (r.all (itemOk t)) := by
      intro r
      induction r with
      | nil =>
        intro i n hr hi hn
        obtain ⟨n, rfl⟩ := fuel hn
        have := drop_nil hr
        rw [g_poacherref17_May_L0, ltF (by omega), cond_false]
        rfl
      | cons x r ih =>
        intro i n hr hi hn
        obtain ⟨n, rfl⟩ := fuel hn
        obtain ⟨a, b, c, d, e⟩ := drop_cons hr
        have ih' := ih (i + 1) n c (by omega) (by simp only [List.length_cons] at hn; omega)
        rw [g_poacherref17_May_L0, ltN a, cond_true, idx_of b, wrapS (by omega), ih', List.all_cons]
        simp only [ob_some]
        by_cases h0 : x.1 < 0
        · rw [ltT h0, cond_true]
          simp [itemOk, leF h0]
        · rw [ltF (show 0 ≤ x.1 by omega), cond_false]
          by_cases h1 : (t.length : Int) ≤ x.1
          · rw [leT h1, cond_true]
            simp [itemOk, ltF h1]
          · rw [leF (show x.1 < (t.length : Int) by omega), cond_false, idx_own (by omega) (by omega)]
            simp only [ob_some]
            have A : decide (0 ≤ x.1) = true := decide_eq_true (by omega)
            have B : decide (x.1 < (t.length : Int)) = true := decide_eq_true (by omega)
            unfold itemOk
            rw [A, B]
            by_cases h2 : x.2.1 < 0
            · rw [ltT h2, leF h2]; simp
            · rw [ltF (show 0 ≤ x.2.1 by omega), leT (show 0 ≤ x.2.1 by omega), cond_false]
              by_cases h3 : (ownT t x.1).1 < x.2.1
              · rw [ltT h3, leF h3]; simp
              · rw [ltF (show x.2.1 ≤ (ownT t x.1).1 by omega), leT (show x.2.1 ≤ (ownT t x.1).1 by omega), cond_false]
                by_cases h4 : x.2.2 < 0
                · rw [ltT h4, leF h4]; simp
                · rw [ltF (show 0 ≤ x.2.2 by omega), leT (show 0 ≤ x.2.2 by omega), cond_false]
                  by_cases h5 : ((ownT t x.1).2.length : Int) < x.2.2
                  · rw [ltT h5, leF h5]; simp
                  · rw [ltF (show x.2.2 ≤ ((ownT t x.1).2.length : Int) by omega), leT (show x.2.2 ≤ ((ownT t x.1).2.length : Int) by omega), cond_false, bneI]
                    by_cases h6 : x.2.1 < (ownT t x.1).1
                    · rw [ltT h6, cond_true]
                      by_cases h7 : x.2.2 = 0
                      · rw [decide_eq_true h7, ltF (show x.2.2 ≤ 0 by omega)]; simp
                      · rw [decide_eq_false h7, ltT (show 0 < x.2.2 by omega)]; simp
                    · rw [ltF (show (ownT t x.1).1 ≤ x.2.1 by omega), cond_false]; simp
    have := key s 0 (k + 1) rfl (Nat.zero_le _) (by omega)
    simpa using this
theorem c_RTNext (t : List (Int × List Int)) (ht : Wt t) (s : List (Int × Int × Int)) (hs : s.length ≤ 1048576) : g_poacherref17_Next k t s = some (nextB t s) := by
  rw [g_poacherref17_Next, c_RTMay k hk t ht s (by omega), ob_some]
  rcases snoc_cases s with rfl | ⟨r, x, rfl⟩
  · cases stackB t [] <;> rfl
  · have hr : r.length + 1 ≤ 1048576 := by simpa using hs
    have e1 : ((((r ++ [x]).length : Nat) : Int) == 0) = false := by simp; omega
    rw [nextB_snoc]
    cases h : stackB t (r ++ [x]) with
    | false => rfl
    | true =>
      obtain ⟨hm, hr', hx⟩ := stack_snoc.1 h
      have hl := ht.kids _ (own_mem hx.h0 hx.h1)
      rw [Bool.not_true, cond_false, e1, cond_false, snoc_len, wrapI (by omega), idx_of (snoc_get r x), ob_some, idx_own hx.h0 hx.h1, if_neg (show ¬ (true = false) by simp)]
      simp only [ob_some]
      by_cases h1 : x.2.1 < (ownT t x.1).1
      · rw [ltT h1, cond_true, if_pos h1]
      · rw [ltF (by omega), cond_false, if_neg h1]
        by_cases h2 : x.2.2 < ((ownT t x.1).2.length : Int)
        · have := hx.c0
          rw [ltT h2, cond_true, if_pos h2, idx, if_pos hx.c0, List.getElem?_eq_getElem (by omega), ob_some]
          rfl
        · rw [ltF (by omega), cond_false, if_neg h2]
theorem c_RTDo (t : List (Int × List Int)) (ht : Wt t) (s : List (Int × Int × Int)) (hs : s.length ≤ 1048576) : g_poacherref17_Do k t s = some (doB t s) := by
  rw [g_poacherref17_Do, c_RTNext k hk t ht s hs, ob_some]
  rcases snoc_cases s with rfl | ⟨r, x, rfl⟩
  · rfl
  · have hr : r.length + 1 ≤ 1048576 := by simpa using hs
    rw [snoc_len, wrapI (by omega), nextB_snoc, doB_snoc, Int.toNat_natCast, snoc_take, idx_of (snoc_get r x)]
    simp only [ob_some]
    have e1 : decide ((0 : Int) ≤ (r.length : Int) ∧ (r.length : Int) ≤ ((r ++ [x]).length : Nat)) = true := by simp; omega
    have e2 : decide (r.length * 24 ≤ 70368744177664) = true := decide_eq_true (by omega)
    have e3 : ∀ y : Int × Int × Int, room (r ++ [y]).length 24 = true := fun y => roomT (by simp; omega)
    rw [e1, e2]
    simp only [e3, cond_true]
    cases h : stackB t (r ++ [x]) with
    | false => rfl
    | true =>
      obtain ⟨hm, hr', hx⟩ := stack_snoc.1 h
      have hw := (may_of hm).work _ (own_mem hx.h0 hx.h1)
      have hl := ht.kids _ (own_mem hx.h0 hx.h1)
      have := hx.d0
      have := hx.c0
      rw [if_neg (show ¬ (true = false) by simp), if_neg (show ¬ (true = false) by simp)]
      by_cases h1 : x.2.1 < (ownT t x.1).1
      · rw [if_pos h1, if_pos h1]
        simp only [Int.reduceBEq, cond_true, cond_false]
        rw [wrapI (by omega)]
      · rw [if_neg h1, if_neg h1]
        by_cases h2 : x.2.2 < ((ownT t x.1).2.length : Int)
        · rw [if_pos h2, if_pos h2]
          simp only [Int.reduceBEq, cond_true, cond_false]
          rw [wrapI (z := x.2.2 + 1) (by omega)]
        · rw [if_neg h2, if_neg h2]
          rfl
theorem c_RTStart (t : List (Int × List Int)) (ht : Wt t) (s : List (Int × Int × Int)) (hs : s.length ≤ 1048576) (q : Int) : g_poacherref17_Start k t s q = some (startB t s q) := by
  rw [g_poacherref17_Start, c_RTMay k hk t ht s (by omega), ob_some, startB]
  cases h : stackB t s with
  | false => simp
  | true =>
    rw [Bool.not_true, cond_false]
    by_cases h0 : q < 0
    · rw [ltT h0, if_neg (by omega)]; rfl
    · by_cases h1 : (t.length : Int) ≤ q
      · rw [ltF (by omega), leT h1, if_neg (by omega)]; rfl
      · have e2 : room (s ++ [(q, (0 : Int), (0 : Int))]).length 24 = true := roomT (by simp; omega)
        have e3 : decide (s.length * 24 ≤ 70368744177664) = true := decide_eq_true (by omega)
        rw [ltF (by omega), leF (by omega), cond_false, cond_false, e3, e2, if_pos ⟨rfl, by omega, by omega⟩]
        rfl
theorem c_RTLeft (t : List (Int × List Int)) (hF : FwT t) (s : List (Int × Int × Int)) (hs : s.length ≤ 1048576) : g_poacherref17_Left k t s = some (leftB t s) := by
  have ht := hF.wt
  rw [g_poacherref17_Left, c_RTMay (k + 2) (by omega) t ht s (by omega), ob_some]
  cases h : stackB t s with
  | false =>
    obtain ⟨n, hn⟩ : ∃ n, k + 4 = n + 1 := ⟨k + 3, rfl⟩
    rw [hn, g_poacherref17_Left_L0, leftB, h]
    rfl
  | true =>
    have key : ∀ (s0 : List (Int × Int × Int)) (m : Nat) (s : List (Int × Int × Int)) n (z : Int), stackB t s = true → s.length ≤ 1048576 → leftB t s = (m : Int) → m < n → 0 ≤ z → z + m ≤ 9223372036854775806 → g_poacherref17_Left_L0 k t s0 n true s z = some (z + m) := by
      intro s0 m
      induction m with
      | zero =>
        intro s n z h hs hl hn h0 h1
        obtain ⟨n, rfl⟩ := fuel hn
        obtain ⟨hm, hi⟩ := stack_iff.1 h
        have hb := sum_cost hF hm hi
        rw [leftB, if_pos h] at hl
        have : s.length = 0 := by omega
        rw [g_poacherref17_Left_L0, this]
        simp
      | succ m ih =>
        intro s n z h hs hl hn h0 h1
        obtain ⟨n, rfl⟩ := fuel hn
        rcases snoc_cases s with rfl | ⟨r, x, rfl⟩
        · rw [leftB, if_pos h] at hl
          simp at hl
          omega
        · obtain ⟨a, b⟩ := do_stack h
          have hd := doB_len t (r ++ [x])
          rw [g_poacherref17_Left_L0, cond_true, ltT (by rw [List.length_append]; simp only [List.length_cons, List.length_nil]; omega), cond_true, c_RTDo k hk t ht _ (by omega), ob_some, wrapI (by omega), ih _ n (z + 1) a (by omega) (by omega) (by omega) (by omega) (by omega)]
          congr 1
          omega
    obtain ⟨hm, hi⟩ := stack_iff.1 h
    have hb := sum_cost hF hm hi
    have hl : leftB t s = (s.map (costB t)).sum := by rw [leftB, if_pos h]
    have := key s (leftB t s).toNat s (k + 4) 0 h hs (by omega) (by omega) (by omega) (by omega)
    rw [this]
    congr 1
    simp only [Int.zero_add]
    omega
end
end Go.Ab
