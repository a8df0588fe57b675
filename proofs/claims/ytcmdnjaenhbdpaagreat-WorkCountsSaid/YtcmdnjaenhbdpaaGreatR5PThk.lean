/- The stacks' functions, as words. -/
import Derived.Test.YtcmdnjaenhbdpaaGreatR5GT
import Derived.Test.YtcmdnjaenhbdpaaGreatR5PFor4
set_option linter.unusedVariables false
set_option linter.unusedSimpArgs false
set_option maxRecDepth 100000
set_option linter.unusedVariables false
namespace Go.Ab
structure FwT (t : List (Int × List Int)) : Prop where
  len : t.length ≤ 40
  kids : ∀ x ∈ t, x.2.length ≤ 40
def ownT (t : List (Int × List Int)) (q : Int) : Int × List Int := (t[q.toNat]?).getD (0, [])
def itemOk (t : List (Int × List Int)) (x : Int × Int × Int) : Bool :=
  decide (0 ≤ x.1) && decide (x.1 < t.length) && (decide (0 ≤ x.2.1) && decide (x.2.1 ≤ (ownT t x.1).1)) && (decide (0 ≤ x.2.2) && decide (x.2.2 ≤ ((ownT t x.1).2.length : Int))) &&
    !(decide (x.2.1 < (ownT t x.1).1) && decide (0 < x.2.2))
def stackB (t : List (Int × List Int)) (s : List (Int × Int × Int)) : Bool := mayB t && s.all (itemOk t)
theorem idx_own {t : List (Int × List Int)} {q : Int} (h0 : 0 ≤ q) (h1 : q < t.length) : idx t q = some (ownT t q) := by
  rw [idx, if_pos h0, ownT, List.getElem?_eq_getElem (by omega)]
  rfl
theorem own_mem {t : List (Int × List Int)} {q : Int} (h0 : 0 ≤ q) (h1 : q < t.length) : ownT t q ∈ t := by
  rw [ownT, List.getElem?_eq_getElem (show q.toNat < t.length by omega)]
  exact List.getElem_mem _
theorem c_clone {α : Type} (b : Nat) (l : List α) (h : l.length * b ≤ 70368744177664) : g_clone b l = some l := by
  unfold g_clone
  rw [nble, decide_eq_true h, ck_true]
theorem c_tin (a b : Int) : g_think_in a b = some (decide (0 ≤ a) && decide (a ≤ b)) := by
  rw [g_think_in]
  cases decide ((0 : Int) ≤ a) <;> rfl
section
variable (k : Nat) (hk : 9223372036854775808 ≤ k)
include hk
theorem c_TMay (t : List (Int × List Int)) (ht : Wt t) (s : List (Int × Int × Int)) (hs : s.length ≤ 9223372036854775807) : g_think_May k t s = some (stackB t s) := by
  have hlen := ht.len
  rw [g_think_May, c_May k hk t ht, ob_some, stackB]
  cases hm : mayB t with
  | false => rfl
  | true =>
    have h30 := may_of' hm
    rw [cond_true, scanF (F := fun n i => e_think_May_E0_L0 k n s (s.length : Int) t i) (l := s) (fun x => !itemOk t x) ?_ ?_ _ (by omega), ob_some, idxG_ge]
    · rw [List.all_eq_not_any_not, Bool.true_and]
    · intro n
      simp only [e_think_May_E0_L0, lt_len, cond_false]
    · intro n i x hi hx
      simp only [e_think_May_E0_L0, ltN hi, cond_true, idx_of hx, ob_some, c_tin]
      rw [wrapS (by omega), wrapI (z := (t.length : Int) - 1) (by omega)]
      have e0 : decide (x.1 ≤ (t.length : Int) - 1) = decide (x.1 < (t.length : Int)) := by
        by_cases h : x.1 < (t.length : Int)
        · rw [decide_eq_true h, decide_eq_true (by omega)]
        · rw [decide_eq_false h, decide_eq_false (by omega)]
      rw [e0]
      unfold itemOk
      by_cases h0 : 0 ≤ x.1
      · by_cases h1 : x.1 < (t.length : Int)
        · rw [leT h0, ltT h1, idx_own h0 h1, ob_some]
          simp only [Bool.and_self, Bool.not_true, cond_false, Bool.true_and]
          cases (decide (0 ≤ x.2.1) && decide (x.2.1 ≤ (ownT t x.1).1)) with
          | false => rfl
          | true =>
            cases (decide (0 ≤ x.2.2) && decide (x.2.2 ≤ ((ownT t x.1).2.length : Int))) with
            | false => rfl
            | true =>
              cases decide (x.2.1 < (ownT t x.1).1) with
              | false => rfl
              | true => cases decide (0 < x.2.2) <;> rfl
        · rw [ltF (show (t.length : Int) ≤ x.1 by omega)]
          simp
      · rw [leF (show x.1 < 0 by omega)]
        simp
end
def nextB (t : List (Int × List Int)) (s : List (Int × Int × Int)) : Int × Int :=
  match s.getLast? with
  | none => (0, 0)
  | some x => if stackB t s = false then (0, 0) else if x.2.1 < (ownT t x.1).1 then (1, x.1) else if x.2.2 < ((ownT t x.1).2.length : Int) then (2, ((ownT t x.1).2[x.2.2.toNat]?).getD 0) else (3, x.1)
def doB (t : List (Int × List Int)) (s : List (Int × Int × Int)) : List (Int × Int × Int) :=
  match s.getLast? with
  | none => s
  | some x => if stackB t s = false then s else if x.2.1 < (ownT t x.1).1 then s.dropLast ++ [(x.1, x.2.1 + 1, x.2.2)] else if x.2.2 < ((ownT t x.1).2.length : Int) then s.dropLast ++ [(x.1, x.2.1, x.2.2 + 1)] else s.dropLast
def startB (t : List (Int × List Int)) (s : List (Int × Int × Int)) (q : Int) : List (Int × Int × Int) :=
  if stackB t s = true ∧ 0 ≤ q ∧ q < t.length then s ++ [(q, 0, 0)] else s
theorem snoc_cases {α : Type} (s : List α) : s = [] ∨ ∃ r x, s = r ++ [x] := by
  rcases List.eq_nil_or_concat s with h | ⟨r, x, h⟩
  · exact .inl h
  · exact .inr ⟨r, x, by rw [h, List.concat_eq_append]⟩
theorem snoc_len {α : Type} (r : List α) (x : α) : (((r ++ [x]).length : Nat) : Int) - 1 = (r.length : Int) := by simp
theorem snoc_get {α : Type} (r : List α) (x : α) : (r ++ [x])[r.length]? = some x := by simp
theorem snoc_set {α : Type} (r : List α) (x y : α) : (r ++ [x]).set r.length y = r ++ [y] := by simp
theorem snoc_take {α : Type} (r : List α) (x : α) : (r ++ [x]).take r.length = r := by simp
theorem nextB_snoc (t : List (Int × List Int)) (r : List (Int × Int × Int)) (x : Int × Int × Int) : nextB t (r ++ [x]) = if stackB t (r ++ [x]) = false then (0, 0) else if x.2.1 < (ownT t x.1).1 then (1, x.1) else if x.2.2 < ((ownT t x.1).2.length : Int) then (2, ((ownT t x.1).2[x.2.2.toNat]?).getD 0) else (3, x.1) := by
  simp [nextB]
theorem doB_snoc (t : List (Int × List Int)) (r : List (Int × Int × Int)) (x : Int × Int × Int) : doB t (r ++ [x]) = if stackB t (r ++ [x]) = false then r ++ [x] else if x.2.1 < (ownT t x.1).1 then r ++ [(x.1, x.2.1 + 1, x.2.2)] else if x.2.2 < ((ownT t x.1).2.length : Int) then r ++ [(x.1, x.2.1, x.2.2 + 1)] else r := by
  simp [doB]
structure It (t : List (Int × List Int)) (x : Int × Int × Int) : Prop where
  h0 : 0 ≤ x.1
  h1 : x.1 < t.length
  d0 : 0 ≤ x.2.1
  d1 : x.2.1 ≤ (ownT t x.1).1
  c0 : 0 ≤ x.2.2
  c1 : x.2.2 ≤ ((ownT t x.1).2.length : Int)
  z : x.2.1 < (ownT t x.1).1 → x.2.2 = 0
theorem it_iff {t : List (Int × List Int)} {x : Int × Int × Int} : itemOk t x = true ↔ It t x := by
  simp only [itemOk, Bool.and_eq_true, decide_eq_true_eq, Bool.not_eq_true', Bool.and_eq_false_iff, decide_eq_false_iff_not]
  constructor
  · rintro ⟨⟨⟨⟨a, b⟩, c, d⟩, e, f⟩, g⟩
    exact ⟨a, b, c, d, e, f, fun h => by rcases g with g | g <;> omega⟩
  · rintro ⟨a, b, c, d, e, f, g⟩
    refine ⟨⟨⟨⟨a, b⟩, c, d⟩, e, f⟩, ?_⟩
    by_cases h : x.2.1 < (ownT t x.1).1
    · exact .inr (by have := g h; omega)
    · exact .inl h
theorem stack_snoc {t : List (Int × List Int)} {r : List (Int × Int × Int)} {x : Int × Int × Int} : stackB t (r ++ [x]) = true ↔ mayB t = true ∧ (∀ y ∈ r, It t y) ∧ It t x := by
  simp only [stackB, Bool.and_eq_true, List.all_eq_true, List.mem_append, List.mem_singleton, it_iff]
  constructor
  · rintro ⟨a, b⟩
    exact ⟨a, fun y hy => b y (.inl hy), b x (.inr rfl)⟩
  · rintro ⟨a, b, c⟩
    refine ⟨a, fun y hy => ?_⟩
    rcases hy with h | rfl
    · exact b y h
    · exact c
theorem stack_iff {t : List (Int × List Int)} {r : List (Int × Int × Int)} : stackB t r = true ↔ mayB t = true ∧ (∀ y ∈ r, It t y) := by
  simp only [stackB, Bool.and_eq_true, List.all_eq_true, it_iff]
section
variable (k : Nat) (hk : 9223372036854775808 ≤ k)
include hk
theorem c_TNext (t : List (Int × List Int)) (ht : Wt t) (s : List (Int × Int × Int)) (hs : s.length ≤ 1048576) : g_think_Next k t s = some (nextB t s) := by
  rw [g_think_Next]
  rcases snoc_cases s with rfl | ⟨r, x, rfl⟩
  · rfl
  · have hr : r.length + 1 ≤ 1048576 := by simpa using hs
    have e1 : ((((r ++ [x]).length : Nat) : Int) == 0) = false := by simp; omega
    rw [e1, cond_false, c_TMay k hk t ht _ (by omega), ob_some, nextB_snoc]
    cases h : stackB t (r ++ [x]) with
    | false => rfl
    | true =>
      obtain ⟨hm, hr', hx⟩ := stack_snoc.1 h
      have hl := ht.kids _ (own_mem hx.h0 hx.h1)
      rw [Bool.not_true, cond_false, snoc_len, wrapI (by omega), idx_of (snoc_get r x), ob_some, idx_own hx.h0 hx.h1, ob_some, if_neg (show ¬ (true = false) by simp)]
      by_cases h1 : x.2.1 < (ownT t x.1).1
      · rw [ltT h1, cond_true, if_pos h1]
      · rw [ltF (by omega), cond_false, if_neg h1]
        by_cases h2 : x.2.2 < ((ownT t x.1).2.length : Int)
        · have := hx.c0
          rw [ltT h2, cond_true, if_pos h2, idx, if_pos hx.c0, List.getElem?_eq_getElem (by omega), ob_some]
          rfl
        · rw [ltF (by omega), cond_false, if_neg h2]
theorem c_TDo (t : List (Int × List Int)) (ht : Wt t) (s : List (Int × Int × Int)) (hs : s.length ≤ 1048576) : g_think_Do k t s = some (doB t s) := by
  rw [g_think_Do, c_clone _ _ (by omega), ob_some, c_TNext k hk t ht s hs, ob_some]
  rcases snoc_cases s with rfl | ⟨r, x, rfl⟩
  · rfl
  · have hr : r.length + 1 ≤ 1048576 := by simpa using hs
    rw [snoc_len, wrapI (by omega), nextB_snoc, doB_snoc, Int.toNat_natCast, snoc_get, snoc_take]
    simp only [snoc_set, ob_some]
    have e1 : decide ((0 : Int) ≤ (r.length : Int) ∧ r.length < (r ++ [x]).length) = true := by simp
    have e2 : decide ((0 : Int) ≤ (r.length : Int) ∧ r.length ≤ (r ++ [x]).length) = true := by simp
    have e3 : decide (r.length ≤ (r ++ [x]).length) = true := by simp
    rw [e1, e2, e3]
    cases h : stackB t (r ++ [x]) with
    | false => rfl
    | true =>
      obtain ⟨hm, hr', hx⟩ := stack_snoc.1 h
      have hw := (may_of hm).work _ (own_mem hx.h0 hx.h1)
      have hl := ht.kids _ (own_mem hx.h0 hx.h1)
      have := hx.d0
      have := hx.c0
      rw [if_neg (show ¬ (true = false) by simp), if_neg (show ¬ (true = false) by simp)]
      by_cases h1 : x.2.1 < (ownT t x.1).1
      · rw [if_pos h1, if_pos h1]
        simp only [beq_self_eq_true, cond_true]
        rw [wrapI (by omega)]
      · rw [if_neg h1, if_neg h1]
        by_cases h2 : x.2.2 < ((ownT t x.1).2.length : Int)
        · rw [if_pos h2, if_pos h2]
          simp only [Int.reduceBEq, cond_true, cond_false]
          rw [wrapI (by omega)]
        · rw [if_neg h2, if_neg h2]
          rfl
theorem c_TStart (t : List (Int × List Int)) (ht : Wt t) (s : List (Int × Int × Int)) (hs : s.length ≤ 1048576) (q : Int) : g_think_Start k t s q = some (startB t s q) := by
  have hlen := ht.len
  rw [g_think_Start, c_clone _ _ (by omega), ob_some, c_TMay k hk t ht s (by omega), ob_some, startB]
  cases h : stackB t s with
  | false => simp
  | true =>
    have h30 := may_of' (stack_iff.1 h).1
    rw [Bool.not_true, cond_false, c_tin, ob_some, wrapI (by omega)]
    by_cases h0 : 0 ≤ q
    · by_cases h1 : q < t.length
      · have e2 : room (s ++ [(q, (0 : Int), (0 : Int))]).length 24 = true := roomT (by simp; omega)
        rw [leT h0, leT (show q ≤ (t.length : Int) - 1 by omega), Bool.and_self, Bool.not_true, cond_false, e2, cond_true, if_pos ⟨rfl, h0, h1⟩]
      · rw [leF (show (t.length : Int) - 1 < q by omega), if_neg (by omega)]
        simp
    · rw [leF (show q < 0 by omega), if_neg (by omega)]
      simp
end
end Go.Ab
