/- What is known of typed arguments. -/
import Derived.Test.YtcahlnoianbndaaR4PDef
import Derived.WideShapes
set_option linter.unusedVariables false
set_option linter.unusedSimpArgs false
namespace Go.Ab
open Go.WideShapes
theorem maxLen_le : maxLen ≤ 9223372036854775807 := by decide
theorem wt_of {l : List (Int × List Int)} (hm : l.length ≤ maxLen) (h : ∀ x ∈ l, i64 x.1 ∧ (∀ n ∈ x.2, i64 n) ∧ x.2.length ≤ maxLen) : Wt l :=
  ⟨Nat.le_trans hm maxLen_le, fun x hx => Nat.le_trans (h x hx).2.2 maxLen_le⟩
theorem wl_of {α : Type} {l : List α} (hm : l.length ≤ maxLen) : l.length ≤ 9223372036854775807 := Nat.le_trans hm maxLen_le
theorem okWide_agg {P : Program} {w : World} {r : Reach} {base : Nat} {t : TypeId} {v : Value} {fs : Array Field} (ht : P.underlying t = some (.struct fs)) (h : Value.okWide P w r base t v) : ∃ cs, v = .agg cs := by
  simp only [Value.okWide, ht] at h
  cases v <;> simp_all
theorem Cells.agg {w : World} {cs : Array Value} {vs : List V} (c : Cells w (Value.agg cs).cells.toList vs) : RelV (allR w) [] (.agg vs) (.agg cs) := by
  have hl : vs.length = cs.toList.length := c.len
  refine .agg vs cs (by simpa using hl.symm) c.ones fun i x hx => ?_
  have hi : i < vs.length := (List.getElem?_eq_some_iff.1 hx).1
  have hi2 : i < cs.size := by rw [hl] at hi; simpa using hi
  have h1 : cs.toList[i]? = some cs[i] := by simp [hi2]
  have := c.rel i x cs[i] hx h1
  simpa [Array.getD, hi2] using this
end Go.Ab
