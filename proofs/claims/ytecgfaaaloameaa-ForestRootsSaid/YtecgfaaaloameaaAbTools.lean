/- Small words for proofs on typed data. -/
import Derived.Test.YtecgfaaaloameaaAbIter
namespace Go.Ab
theorem drop_cons {α : Type} {l r : List α} {x : α} {i : Nat} (h : l.drop i = x :: r) : i < l.length ∧ l[i]? = some x ∧ l.drop (i + 1) = r ∧ x ∈ l ∧ l.length = i + 1 + r.length := by
  have h0 : i < l.length := by
    have := congrArg List.length h
    simp at this
    omega
  have h1 : l.drop i = l[i] :: l.drop (i + 1) := List.drop_eq_getElem_cons h0
  rw [h] at h1
  injection h1 with h2 h3
  refine ⟨h0, by rw [List.getElem?_eq_getElem h0, h2], h3.symm, h2 ▸ List.getElem_mem h0, ?_⟩
  have := congrArg List.length h
  simp at this
  omega
theorem drop_nil {α : Type} {l : List α} {i : Nat} (h : l.drop i = []) : l.length ≤ i := List.drop_eq_nil_iff.1 h
theorem idx_of {α : Type} {l : List α} {i : Nat} {x : α} (h : l[i]? = some x) : idx l (i : Int) = some x := by rw [idx_nat, h]
theorem ltT {a b : Int} (h : a < b) : decide (a < b) = true := decide_eq_true h
theorem ltF {a b : Int} (h : b ≤ a) : decide (a < b) = false := decide_eq_false (by omega)
theorem leT {a b : Int} (h : a ≤ b) : decide (a ≤ b) = true := decide_eq_true h
theorem leF {a b : Int} (h : b < a) : decide (a ≤ b) = false := decide_eq_false (by omega)
theorem fuel {k d : Nat} (h : d < k) : ∃ j, k = j + 1 := ⟨k - 1, by omega⟩
theorem wrapS {i : Nat} (h : i ≤ 9223372036854775806) : IntKind.i64.wrap ((i : Int) + 1) = ((i + 1 : Nat) : Int) := by
  rw [wrap64 (by omega) (by omega)]
  omega
end Go.Ab
namespace Go.Ab
theorem cond_bindO {α β : Type} {c : Bool} {x y : Option α} {f : α → Option β} : (bif c then x else y).bind f = bif c then x.bind f else y.bind f := by cases c <;> rfl
theorem ck_bindO {c : Bool} {x : Res} {f : V × Hp → Option (V × Hp)} : (ck c x).bind f = ck c (x.bind f) := by cases c <;> rfl
theorem ob_bindO {α : Type} {x : Option α} {k : α → Res} {f : V × Hp → Option (V × Hp)} : (ob x k).bind f = ob x fun a => (k a).bind f := by cases x <;> rfl
/-- The place of the first that is so. -/
def idxF {α : Type} (p : α → Bool) (l : List α) : Int := match l.findIdx? p with | some i => (i : Int) | none => -1
/-- From the i-th place on. -/
def idxG {α : Type} (p : α → Bool) : List α → Nat → Int
  | [], _ => -1
  | x :: r, i => if p x then (i : Int) else idxG p r (i + 1)
theorem idxG_ge {α : Type} (p : α → Bool) : ∀ (l : List α) (i : Nat), decide (0 ≤ idxG p l i) = l.any p
  | [], _ => rfl
  | x :: r, i => by
    by_cases h : p x = true
    · simp [idxG, h]
    · simpa [idxG, h] using idxG_ge p r (i + 1)
end Go.Ab
namespace Go.Ab
theorem leF' {n : Nat} (h : n ≤ 30) : decide ((30 : Int) < n) = false := decide_eq_false (by omega)
end Go.Ab
namespace Go.Ab
theorem leT' {n : Nat} (h : 30 < n) : decide ((30 : Int) < n) = true := decide_eq_true (by omega)
end Go.Ab
namespace Go.Ab
theorem cast40 {n : Nat} : decide ((n : Int) ≤ 40) = decide (n ≤ 40) := by
  by_cases h : n ≤ 40
  · rw [decide_eq_true h, decide_eq_true (by omega)]
  · rw [decide_eq_false h, decide_eq_false (by omega)]
end Go.Ab
namespace Go.Ab
section one
variable {wl e sz bytes id g len s : Nat} {H : Hp} {lv : Bool}
theorem roB_one {r : List V} : roB g 1 (some (.rows e [r] g lv)) = some [r] := by simp [roB]
theorem okRows_one {r : List V} (h : r.length = sz) : okRows sz [r] = true := by simp [okRows, h]
theorem okRows_1 {a : V} : okRows 1 [[a]] = true := rfl
theorem okRows_2 {a b : V} : okRows 2 [[a, b]] = true := rfl
theorem okRows_3 {a b c : V} : okRows 3 [[a, b, c]] = true := rfl
theorem apB_one {α : Type} {l : List α} {x : α} {enc : α → List V} (hl : len = l.length) (hw : Nat.ble wl id = true) (hs : (s == sz || s == 0) = true) :
    apB wl e sz bytes id g len [enc x] H (some (.rows s (l.map enc) g lv)) = bif room (l ++ [x]).length bytes then some (.own id (g + 1) (l ++ [x]).length, H.set id (.rows sz ((l ++ [x]).map enc) (g + 1) lv)) else none := by
  have := apB_rows (m := [x]) (enc := enc) (wl := wl) (e := e) (sz := sz) (bytes := bytes) (id := id) (g := g) (H := H) (lv := lv) hl hw hs
  simpa using this
theorem apB_int {k : IntKind} {l : List Int} {x : Int} (hl : len = l.length) (hw : Nat.ble wl id = true) (hs : (s == sz || s == 0) = true) :
    apB wl e sz bytes id g len [[.lit (.int k x)]] H (some (.rows s (l.map (intR k)) g lv)) = bif room (l ++ [x]).length bytes then some (.own id (g + 1) (l ++ [x]).length, H.set id (.rows sz ((l ++ [x]).map (intR k)) (g + 1) lv)) else none := apB_one (enc := intR k) hl hw hs
theorem roomT {n b : Nat} (h : n * b ≤ 70368744177664) : room n b = true := decide_eq_true h
end one
end Go.Ab
