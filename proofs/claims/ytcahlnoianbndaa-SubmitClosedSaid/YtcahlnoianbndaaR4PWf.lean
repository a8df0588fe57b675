/- What is known of typed arguments. -/
import Derived.Test.YtcahlnoianbndaaR4PDef
import Derived.WideShapes
set_option linter.unusedVariables false
set_option linter.unusedSimpArgs false
namespace Go.Ab
open Go.WideShapes
theorem maxLen_le : maxLen ≤ 9223372036854775807 := by decide
theorem wt_of {l : List (Int × List Int)} (hm : l.length ≤ maxLen) (h : ∀ x ∈ l, i64 x.1 ∧ (∀ n ∈ x.2, i64 n) ∧ x.2.length ≤ maxLen) : Wt l :=
  ⟨Nat.le_trans hm maxLen_le, fun x hx => Nat.le_trans (h x hx).2.2 maxLen_le⟩
theorem wl_of {α : Type} {l : List α} (hm : l.length ≤ maxLen) : l.length ≤ 9223372036854775807 := Nat.le_trans hm maxLen_le
theorem okWide_agg {P : Program} {w : World} {r : Reach} {base : Nat} {t : TypeId} {v : Value} {fs : Array Field} (ht : P.underlying t = some (.struct fs)) (h : Value.okWide P w r base t v) : ∃ cs, v = .agg cs := by
  simp only [Value.okWide, ht] at h
  cases v <;> simp_all
theorem shape_three {P : Program} {t i : TypeId} {f0 f1 f2 : Field} {vs : List V} (he : P.underlying t = some (.struct #[f0, f1, f2])) (h0 : f0.type = i) (h1 : f1.type = i) (h2 : f2.type = i)
    (o0 : f0.offset = 0) (o1 : f1.offset = 1) (o2 : f2.offset = 2) (hi : P.underlying i = some (.int .i64)) (ci : P.cellsOf i = 1) (ce : P.cellsOf t = 3) (h : Shape P t vs) :
    ∃ x : Int × Int × Int, vs = threeV x ∧ (i64 x.1 ∧ i64 x.2.1 ∧ i64 x.2.2) := by
  obtain ⟨a, b⟩ := shape_struct he h
  have s0 := b 0 f0 rfl
  have s1 := b 1 f1 rfl
  have s2 := b 2 f2 rfl
  rw [h0, o0, ci, List.drop_zero] at s0
  rw [h1, o1, ci] at s1
  rw [h2, o2, ci] at s2
  rw [ce] at a
  obtain ⟨n0, e0, w0⟩ := shape_int hi s0
  obtain ⟨n1, e1, w1⟩ := shape_int hi s1
  obtain ⟨n2, e2, w2⟩ := shape_int hi s2
  match vs, a with
  | [x, y, z], _ =>
    simp at e0 e1 e2
    subst e0 e1 e2
    exact ⟨(n0, n1, n2), rfl, w0, w1, w2⟩
theorem Cells.agg {w : World} {cs : Array Value} {vs : List V} (c : Cells w (Value.agg cs).cells.toList vs) : RelV (allR w) [] (.agg vs) (.agg cs) := by
  have hl : vs.length = cs.toList.length := c.len
  refine .agg vs cs (by simpa using hl.symm) c.ones fun i x hx => ?_
  have hi : i < vs.length := (List.getElem?_eq_some_iff.1 hx).1
  have hi2 : i < cs.size := by rw [hl] at hi; simpa using hi
  have h1 : cs.toList[i]? = some cs[i] := by simp [hi2]
  have := c.rel i x cs[i] hx h1
  simpa [Array.getD, hi2] using this
end Go.Ab
