import Derived.Test.YtcmdnjaenhbdpaaGreatR5PDef
import Derived.WideShapes
import Derived.Test.YtcmdnjaenhbdpaaGreatAbLibC
import Derived.Test.YtcmdnjaenhbdpaaGreatR5PW2
set_option linter.unusedVariables false
set_option linter.unusedSimpArgs false
/- What is known of typed arguments. -/
namespace Go.Ab
open Go.WideShapes
theorem maxLen_le : maxLen ≤ 9223372036854775807 := by decide
theorem wt_of {l : List (Int × List Int)} (hm : l.length ≤ maxLen) (h : ∀ x ∈ l, i64 x.1 ∧ (∀ n ∈ x.2, i64 n) ∧ x.2.length ≤ maxLen) : Wt l :=
  ⟨Nat.le_trans hm maxLen_le, fun x hx => Nat.le_trans (h x hx).2.2 maxLen_le⟩
theorem wl_of {α : Type} {l : List α} (hm : l.length ≤ maxLen) : l.length ≤ 9223372036854775807 := Nat.le_trans hm maxLen_le
theorem okWide_agg {P : Program} {w : World} {r : Reach} {base : Nat} {t : TypeId} {v : Value} {fs : Array Field} (ht : P.underlying t = some (.struct fs)) (h : Value.okWide P w r base t v) : ∃ cs, v = .agg cs := by
  simp only [Value.okWide, ht] at h
  cases v <;> simp_all
theorem Cells.agg {w : World} {cs : Array Value} {vs : List V} (c : Cells w (Value.agg cs).cells.toList vs) : RelV (allR w) [] (.agg vs) (.agg cs) := by
  have hl : vs.length = cs.toList.length := c.len
  refine .agg vs cs (by simpa using hl.symm) c.ones fun i x hx => ?_
  have hi : i < vs.length := (List.getElem?_eq_some_iff.1 hx).1
  have hi2 : i < cs.size := by rw [hl] at hi; simpa using hi
  have h1 : cs.toList[i]? = some cs[i] := by simp [hi2]
  have := c.rel i x cs[i] hx h1
  simpa [Array.getD, hi2] using this
end Go.Ab

/- What is known of typed arguments: layouts, calls, lists of lists. -/
namespace Go.Ab
open Go.WideShapes
def u64 (n : Int) : Prop := (Lit.int .u64 n).wf = true
def confOk (c : Int × Int × Int × Int) : Prop := i64 c.1 ∧ i64 c.2.1 ∧ i64 c.2.2.1 ∧ i64 c.2.2.2
def frameOk (f : Int × Int × Int × Int × Int × Int × Int) : Prop := i64 f.1 ∧ i64 f.2.1 ∧ i64 f.2.2.1 ∧ u64 f.2.2.2.1 ∧ u64 f.2.2.2.2.1 ∧ u64 f.2.2.2.2.2.1 ∧ i64 f.2.2.2.2.2.2
theorem shape_conf {P : Program} {t ti : TypeId} {f0 f1 f2 f3 : Field} {vs : List V} (he : P.underlying t = some (.struct #[f0, f1, f2, f3])) (h0 : f0.type = ti) (h1 : f1.type = ti) (h2 : f2.type = ti) (h3 : f3.type = ti) (o0 : f0.offset = 0) (o1 : f1.offset = 1) (o2 : f2.offset = 2) (o3 : f3.offset = 3) (hi : P.underlying ti = some (.int .i64)) (ci : P.cellsOf ti = 1) (ce : P.cellsOf t = 4) (h : Shape P t vs) :
    ∃ x : Int × Int × Int × Int, vs = confV x ∧ confOk x := by
  obtain ⟨a, b⟩ := shape_struct he h
  have s0 := b 0 f0 rfl
  rw [h0, o0, ci, List.drop_zero] at s0
  have s1 := b 1 f1 rfl
  rw [h1, o1, ci] at s1
  have s2 := b 2 f2 rfl
  rw [h2, o2, ci] at s2
  have s3 := b 3 f3 rfl
  rw [h3, o3, ci] at s3
  rw [ce] at a
  obtain ⟨n0, e0, w0⟩ := shape_int hi s0
  obtain ⟨n1, e1, w1⟩ := shape_int hi s1
  obtain ⟨n2, e2, w2⟩ := shape_int hi s2
  obtain ⟨n3, e3, w3⟩ := shape_int hi s3
  match vs, a with
  | [x0, x1, x2, x3], _ =>
    simp at e0 e1 e2 e3
    subst e0 e1 e2 e3
    exact ⟨(n0, n1, n2, n3), rfl, w0, w1, w2, w3⟩
theorem shape_frame {P : Program} {t ti tu : TypeId} {f0 f1 f2 f3 f4 f5 f6 : Field} {vs : List V} (he : P.underlying t = some (.struct #[f0, f1, f2, f3, f4, f5, f6])) (h0 : f0.type = ti) (h1 : f1.type = ti) (h2 : f2.type = ti) (h3 : f3.type = tu) (h4 : f4.type = tu) (h5 : f5.type = tu) (h6 : f6.type = ti) (o0 : f0.offset = 0) (o1 : f1.offset = 1) (o2 : f2.offset = 2) (o3 : f3.offset = 3) (o4 : f4.offset = 4) (o5 : f5.offset = 5) (o6 : f6.offset = 6) (hi : P.underlying ti = some (.int .i64)) (ci : P.cellsOf ti = 1) (hu : P.underlying tu = some (.int .u64)) (cu : P.cellsOf tu = 1) (ce : P.cellsOf t = 7) (h : Shape P t vs) :
    ∃ x : Int × Int × Int × Int × Int × Int × Int, vs = frameV x ∧ frameOk x := by
  obtain ⟨a, b⟩ := shape_struct he h
  have s0 := b 0 f0 rfl
  rw [h0, o0, ci, List.drop_zero] at s0
  have s1 := b 1 f1 rfl
  rw [h1, o1, ci] at s1
  have s2 := b 2 f2 rfl
  rw [h2, o2, ci] at s2
  have s3 := b 3 f3 rfl
  rw [h3, o3, cu] at s3
  have s4 := b 4 f4 rfl
  rw [h4, o4, cu] at s4
  have s5 := b 5 f5 rfl
  rw [h5, o5, cu] at s5
  have s6 := b 6 f6 rfl
  rw [h6, o6, ci] at s6
  rw [ce] at a
  obtain ⟨n0, e0, w0⟩ := shape_int hi s0
  obtain ⟨n1, e1, w1⟩ := shape_int hi s1
  obtain ⟨n2, e2, w2⟩ := shape_int hi s2
  obtain ⟨n3, e3, w3⟩ := shape_int hu s3
  obtain ⟨n4, e4, w4⟩ := shape_int hu s4
  obtain ⟨n5, e5, w5⟩ := shape_int hu s5
  obtain ⟨n6, e6, w6⟩ := shape_int hi s6
  match vs, a with
  | [x0, x1, x2, x3, x4, x5, x6], _ =>
    simp at e0 e1 e2 e3 e4 e5 e6
    subst e0 e1 e2 e3 e4 e5 e6
    exact ⟨(n0, n1, n2, n3, n4, n5, n6), rfl, w0, w1, w2, w3, w4, w5, w6⟩
theorem i64_of {n : Int} (h : i64 n) : -9223372036854775808 ≤ n ∧ n ≤ 9223372036854775807 := by
  have h1 : IntKind.min .i64 = -9223372036854775808 := by decide
  have h2 : IntKind.max .i64 = 9223372036854775807 := by decide
  simpa [i64, Lit.wf, h1, h2] using h
theorem u64_of {n : Int} (h : u64 n) : 0 ≤ n ∧ n ≤ 18446744073709551615 := by
  have h1 : IntKind.min .u64 = 0 := by decide
  have h2 : IntKind.max .u64 = 18446744073709551615 := by decide
  simpa [u64, Lit.wf, h1, h2] using h
end Go.Ab

/- Typed arguments, as words of cells. -/
namespace Go.Ab
open Go.WideShapes
theorem wm_of {m : List Int} (h : ∀ x ∈ m, u64 x) (hl : m.length ≤ maxLen) : Wm m := ⟨wl_of hl, fun x hx => u64_of (h x hx)⟩
end Go.Ab

/- Typed arguments: lists of lists. -/
namespace Go.Ab
open Go.WideShapes
structure Ll (l : List (List Int)) : Prop where
  len : l.length ≤ 9223372036854775807
  each : ∀ x ∈ l, x.length ≤ 9223372036854775807
end Go.Ab

/- Typed arguments: who submits. -/
namespace Go.Ab
open Go.WideShapes
end Go.Ab

/- Typed arguments: one who works. -/
namespace Go.Ab
open Go.WideShapes
def workOk (x : Int × List (Int × Int × Int) × (Int × Int × Int × Int × Int × Int × Int) × Int × Int) : Prop := i64 x.1 ∧ (∀ y ∈ x.2.1, i64 y.1 ∧ i64 y.2.1 ∧ i64 y.2.2) ∧ x.2.1.length ≤ maxLen ∧ frameOk x.2.2.1 ∧ i64 x.2.2.2.1 ∧ i64 x.2.2.2.2
theorem shape_work {P : Program} {t ti ts te tf tu : TypeId} {e0 e1 e2 e3 e4 i0 i1 i2 f0 f1 f2 f3 f4 f5 f6 : Field} {vs : List V} (he : P.underlying t = some (.struct #[e0, e1, e2, e3, e4])) (g0 : e0.type = ti) (g1 : e1.type = ts) (g2 : e2.type = tf) (g3 : e3.type = ti) (g4 : e4.type = ti)
    (p0 : e0.offset = 0) (p1 : e1.offset = 1) (p2 : e2.offset = 2) (p3 : e3.offset = 9) (p4 : e4.offset = 10)
    (hs : P.underlying ts = some (.slice te)) (hse : P.underlying te = some (.struct #[i0, i1, i2])) (q0 : i0.type = ti) (q1 : i1.type = ti) (q2 : i2.type = ti) (r0 : i0.offset = 0) (r1 : i1.offset = 1) (r2 : i2.offset = 2) (cte : P.cellsOf te = 3)
    (cs : P.cellsOf ts = 1) (cf : P.cellsOf tf = 7) (ct : P.cellsOf t = 11)
    (hf : P.underlying tf = some (.struct #[f0, f1, f2, f3, f4, f5, f6])) (h0 : f0.type = ti) (h1 : f1.type = ti) (h2 : f2.type = ti) (h3 : f3.type = tu) (h4 : f4.type = tu) (h5 : f5.type = tu) (h6 : f6.type = ti)
    (o0 : f0.offset = 0) (o1 : f1.offset = 1) (o2 : f2.offset = 2) (o3 : f3.offset = 3) (o4 : f4.offset = 4) (o5 : f5.offset = 5) (o6 : f6.offset = 6) (hi : P.underlying ti = some (.int .i64)) (ci : P.cellsOf ti = 1) (hu : P.underlying tu = some (.int .u64)) (cu : P.cellsOf tu = 1) (h : Shape P t vs) :
    ∃ x, vs = workV x ∧ workOk x := by
  obtain ⟨a, b⟩ := shape_struct he h
  have s0 := b 0 e0 rfl
  rw [g0, p0, ci, List.drop_zero] at s0
  have s1 := b 1 e1 rfl
  rw [g1, p1, cs] at s1
  have s2 := b 2 e2 rfl
  rw [g2, p2, cf] at s2
  have s3 := b 3 e3 rfl
  rw [g3, p3, ci] at s3
  have s4 := b 4 e4 rfl
  rw [g4, p4, ci] at s4
  rw [ct] at a
  obtain ⟨n0, z0, w0⟩ := shape_int hi s0
  obtain ⟨l, z1, wl, ml⟩ := shape_threes hs hse q0 q1 q2 r0 r1 r2 hi ci cte s1
  obtain ⟨f, z2, wf⟩ := shape_frame hf h0 h1 h2 h3 h4 h5 h6 o0 o1 o2 o3 o4 o5 o6 hi ci hu cu cf s2
  obtain ⟨n3, z3, w3⟩ := shape_int hi s3
  obtain ⟨n4, z4, w4⟩ := shape_int hi s4
  match vs, a with
  | [x0, x1, x2, x3, x4, x5, x6, x7, x8, x9, x10], _ =>
    simp at z0 z1 z2 z3 z4
    subst z0 z1 z3 z4
    refine ⟨(n0, l, f, n3, n4), ?_, w0, wl, ml, wf, w3, w4⟩
    unfold frameV at z2
    simp only [List.cons.injEq, and_true] at z2
    obtain ⟨y0, y1, y2, y3, y4, y5, y6⟩ := z2
    subst y0 y1 y2 y3 y4 y5 y6
    rfl
end Go.Ab
