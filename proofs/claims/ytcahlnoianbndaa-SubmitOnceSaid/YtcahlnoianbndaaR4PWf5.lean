/- Typed arguments: who submits. -/
import Derived.Test.YtcahlnoianbndaaR4PWf4
import Derived.Test.YtcahlnoianbndaaAbWalk3
set_option linter.unusedVariables false
set_option linter.unusedSimpArgs false
namespace Go.Ab
open Go.WideShapes
def subOk (x : Int × List Int × Int × Int × Int × Int × Int × Int × Int) : Prop := i64 x.1 ∧ (∀ n ∈ x.2.1, i64 n) ∧ x.2.1.length ≤ maxLen ∧ frameOk x.2.2
theorem shape_sub {P : Program} {t ti ts tf tu : TypeId} {e0 e1 e2 f0 f1 f2 f3 f4 f5 f6 : Field} {vs : List V} (he : P.underlying t = some (.struct #[e0, e1, e2])) (g0 : e0.type = ti) (g1 : e1.type = ts) (g2 : e2.type = tf) (p0 : e0.offset = 0) (p1 : e1.offset = 1) (p2 : e2.offset = 2)
    (hs : P.underlying ts = some (.slice ti)) (cs : P.cellsOf ts = 1) (cf : P.cellsOf tf = 7) (ct : P.cellsOf t = 9)
    (hf : P.underlying tf = some (.struct #[f0, f1, f2, f3, f4, f5, f6])) (h0 : f0.type = ti) (h1 : f1.type = ti) (h2 : f2.type = ti) (h3 : f3.type = tu) (h4 : f4.type = tu) (h5 : f5.type = tu) (h6 : f6.type = ti)
    (o0 : f0.offset = 0) (o1 : f1.offset = 1) (o2 : f2.offset = 2) (o3 : f3.offset = 3) (o4 : f4.offset = 4) (o5 : f5.offset = 5) (o6 : f6.offset = 6) (hi : P.underlying ti = some (.int .i64)) (ci : P.cellsOf ti = 1) (hu : P.underlying tu = some (.int .u64)) (cu : P.cellsOf tu = 1) (h : Shape P t vs) :
    ∃ x : Int × List Int × Int × Int × Int × Int × Int × Int × Int, vs = subV x ∧ subOk x := by
  obtain ⟨a, b⟩ := shape_struct he h
  have s0 := b 0 e0 rfl
  rw [g0, p0, ci, List.drop_zero] at s0
  have s1 := b 1 e1 rfl
  rw [g1, p1, cs] at s1
  have s2 := b 2 e2 rfl
  rw [g2, p2, cf] at s2
  rw [ct] at a
  obtain ⟨n0, q0, w0⟩ := shape_int hi s0
  obtain ⟨l, q1, wl, ml⟩ := shape_ints hs hi s1
  obtain ⟨f, q2, wf⟩ := shape_frame hf h0 h1 h2 h3 h4 h5 h6 o0 o1 o2 o3 o4 o5 o6 hi ci hu cu cf s2
  match vs, a with
  | [x0, x1, x2, x3, x4, x5, x6, x7, x8], _ =>
    simp at q0 q1 q2
    subst q0 q1
    refine ⟨(n0, l, f), ?_, w0, wl, ml, wf⟩
    unfold frameV at q2
    simp only [List.cons.injEq, and_true] at q2
    obtain ⟨r0, r1, r2, r3, r4, r5, r6⟩ := q2
    subst r0 r1 r2 r3 r4 r5 r6
    rfl
end Go.Ab
