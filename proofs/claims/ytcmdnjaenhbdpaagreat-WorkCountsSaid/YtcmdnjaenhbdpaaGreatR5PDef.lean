/- Words of forests and of what happens; how loops run. -/
import Derived.Test.YtcmdnjaenhbdpaaGreatAbLibC
set_option linter.unusedVariables false
set_option linter.unusedSimpArgs false
set_option linter.unusedVariables false
namespace Go.Ab
def workBad (x : Int × List Int) : Bool := decide (x.1 < 0) || decide (20 < x.1)
def kidsAt : Nat → List (Int × List Int) → List (Int × Int)
  | _, [] => []
  | i, x :: r => x.2.map (fun k => (k, (i : Int))) ++ kidsAt (i + 1) r
def kidBad (n : Nat) (had : List Bool) (q : Int × Int) : Bool := decide (q.1 ≤ q.2) || decide ((n : Int) ≤ q.1) || (had[q.1.toNat]?).getD true
abbrev HadN (n : Nat) := { h : List Bool // h.length = n }
def mayStep (n : Nat) (had : HadN n) (q : Int × Int) : Bool × HadN n :=
  if kidBad n had.1 q then (false, had) else (true, ⟨had.1.set q.1.toNat true, by simp [had.2]⟩)
def noneHad (n : Nat) : HadN n := ⟨List.replicate n false, by simp⟩
def mayB (t : List (Int × List Int)) : Bool := decide (t.length ≤ 30) && !(t.any workBad) && (runS (mayStep t.length) (kidsAt 0 t) (noneHad t.length)).1


structure Wt (t : List (Int × List Int)) : Prop where
  len : t.length ≤ 9223372036854775807
  kids : ∀ x ∈ t, x.2.length ≤ 9223372036854775807
def fewB (t : List (Int × List Int)) : Bool := (t.take 41).all (fun x => decide (x.2.length ≤ 40)) && decide (t.length ≤ 40)

theorem may_of' {t : List (Int × List Int)} (h1 : mayB t = true) : t.length ≤ 30 := by
  unfold mayB at h1
  simp only [Bool.and_eq_true, decide_eq_true_eq] at h1
  exact h1.1.1

theorem scanF {α : Type} {l : List α} {F : Nat → Int → Option Int} (p : α → Bool)
    (h0 : ∀ n, F (n + 1) (l.length : Int) = some (-1))
    (h1 : ∀ n (i : Nat) x, i < l.length → l[i]? = some x → F (n + 1) (i : Int) = bif p x then some (i : Int) else F n ((i + 1 : Nat) : Int))
    (n : Nat) (hn : l.length < n) : F n 0 = some (idxG p l 0) := by
  have key : ∀ r i n, l.drop i = r → i ≤ l.length → r.length < n → F n (i : Int) = some (idxG p r i) := by
    intro r
    induction r with
    | nil =>
      intro i n hr hi hn
      obtain ⟨n, rfl⟩ := fuel hn
      have : i = l.length := by have := drop_nil hr; omega
      subst this
      rw [h0]
      rfl
    | cons x r ih =>
      intro i n hr hi hn
      obtain ⟨n, rfl⟩ := fuel hn
      obtain ⟨a, b, c, d, e⟩ := drop_cons hr
      rw [h1 n i x a b]
      simp only [idxG]
      cases p x with
      | true => rfl
      | false => exact ih (i + 1) n c (by omega) (by simp only [List.length_cons] at hn; omega)
  have := key l 0 n rfl (Nat.zero_le _) hn
  simpa using this
theorem bneI (x y : Int) : (x != y) = !decide (x = y) := by by_cases h : x = y <;> simp [h]
theorem beqI (x y : Int) : (x == y) = decide (x = y) := by by_cases h : x = y <;> simp [h]
theorem lt_len {α : Type} (l : List α) : decide ((l.length : Int) < (l.length : Int)) = false := decide_eq_false (by omega)
theorem ltN {i n : Nat} (h : i < n) : decide ((i : Int) < (n : Int)) = true := decide_eq_true (by omega)
theorem wrapI {z : Int} (h : -9223372036854775808 ≤ z ∧ z ≤ 9223372036854775807) : IntKind.i64.wrap z = z := wrap64 h.1 h.2
end Go.Ab
