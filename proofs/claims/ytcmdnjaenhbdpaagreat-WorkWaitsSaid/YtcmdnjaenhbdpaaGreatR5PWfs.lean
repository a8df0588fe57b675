import Derived.Test.YtcmdnjaenhbdpaaGreatR5PDef
import Derived.WideShapes
import Derived.Test.YtcmdnjaenhbdpaaGreatAbLibC
import Derived.Test.YtcmdnjaenhbdpaaGreatR5PW2
set_option linter.unusedVariables false
set_option linter.unusedSimpArgs false
/- What is known of typed arguments. -/
namespace Go.Ab
open Go.WideShapes
theorem maxLen_le : maxLen ≤ 9223372036854775807 := by decide
theorem wt_of {l : List (Int × List Int)} (hm : l.length ≤ maxLen) (h : ∀ x ∈ l, i64 x.1 ∧ (∀ n ∈ x.2, i64 n) ∧ x.2.length ≤ maxLen) : Wt l :=
  ⟨Nat.le_trans hm maxLen_le, fun x hx => Nat.le_trans (h x hx).2.2 maxLen_le⟩
theorem okWide_agg {P : Program} {w : World} {r : Reach} {base : Nat} {t : TypeId} {v : Value} {fs : Array Field} (ht : P.underlying t = some (.struct fs)) (h : Value.okWide P w r base t v) : ∃ cs, v = .agg cs := by
  simp only [Value.okWide, ht] at h
  cases v <;> simp_all
theorem Cells.agg {w : World} {cs : Array Value} {vs : List V} (c : Cells w (Value.agg cs).cells.toList vs) : RelV (allR w) [] (.agg vs) (.agg cs) := by
  have hl : vs.length = cs.toList.length := c.len
  refine .agg vs cs (by simpa using hl.symm) c.ones fun i x hx => ?_
  have hi : i < vs.length := (List.getElem?_eq_some_iff.1 hx).1
  have hi2 : i < cs.size := by rw [hl] at hi; simpa using hi
  have h1 : cs.toList[i]? = some cs[i] := by simp [hi2]
  have := c.rel i x cs[i] hx h1
  simpa [Array.getD, hi2] using this
end Go.Ab

/- What is known of typed arguments: layouts, calls, lists of lists. -/
namespace Go.Ab
open Go.WideShapes
def u64 (n : Int) : Prop := (Lit.int .u64 n).wf = true
def confOk (c : Int × Int × Int × Int) : Prop := i64 c.1 ∧ i64 c.2.1 ∧ i64 c.2.2.1 ∧ i64 c.2.2.2
theorem shape_conf {P : Program} {t ti : TypeId} {f0 f1 f2 f3 : Field} {vs : List V} (he : P.underlying t = some (.struct #[f0, f1, f2, f3])) (h0 : f0.type = ti) (h1 : f1.type = ti) (h2 : f2.type = ti) (h3 : f3.type = ti) (o0 : f0.offset = 0) (o1 : f1.offset = 1) (o2 : f2.offset = 2) (o3 : f3.offset = 3) (hi : P.underlying ti = some (.int .i64)) (ci : P.cellsOf ti = 1) (ce : P.cellsOf t = 4) (h : Shape P t vs) :
    ∃ x : Int × Int × Int × Int, vs = confV x ∧ confOk x := by
  obtain ⟨a, b⟩ := shape_struct he h
  have s0 := b 0 f0 rfl
  rw [h0, o0, ci, List.drop_zero] at s0
  have s1 := b 1 f1 rfl
  rw [h1, o1, ci] at s1
  have s2 := b 2 f2 rfl
  rw [h2, o2, ci] at s2
  have s3 := b 3 f3 rfl
  rw [h3, o3, ci] at s3
  rw [ce] at a
  obtain ⟨n0, e0, w0⟩ := shape_int hi s0
  obtain ⟨n1, e1, w1⟩ := shape_int hi s1
  obtain ⟨n2, e2, w2⟩ := shape_int hi s2
  obtain ⟨n3, e3, w3⟩ := shape_int hi s3
  match vs, a with
  | [x0, x1, x2, x3], _ =>
    simp at e0 e1 e2 e3
    subst e0 e1 e2 e3
    exact ⟨(n0, n1, n2, n3), rfl, w0, w1, w2, w3⟩
end Go.Ab

/- Typed arguments, as words of cells. -/
namespace Go.Ab
open Go.WideShapes
end Go.Ab

/- Typed arguments: lists of lists. -/
namespace Go.Ab
open Go.WideShapes
structure Ll (l : List (List Int)) : Prop where
  len : l.length ≤ 9223372036854775807
  each : ∀ x ∈ l, x.length ≤ 9223372036854775807
end Go.Ab

/- Typed arguments: who submits. -/
namespace Go.Ab
open Go.WideShapes
end Go.Ab

/- Typed arguments: one who works. -/
namespace Go.Ab
open Go.WideShapes
end Go.Ab
