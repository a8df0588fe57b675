/- From shapes to typed data. -/
import Derived.Test.YtecgfaaaloameaaAbData
namespace Go.Ab
section typed
variable {P : Program}

theorem shape_int {t : TypeId} {k : IntKind} {vs : List V} (ht : P.underlying t = some (.int k)) (h : Shape P t vs) : ∃ n, vs = [.lit (.int k n)] ∧ (Lit.int k n).wf = true := by
  cases h with
  | int n ht' hn => rw [ht] at ht'; cases ht'; exact ⟨n, rfl, hn⟩
  | bool b ht' => rw [ht] at ht'; cases ht'
  | slice rows ht' => rw [ht] at ht'; cases ht'
  | struct vs ht' => rw [ht] at ht'; cases ht'

theorem shape_slice {t e : TypeId} {vs : List V} (ht : P.underlying t = some (.slice e)) (h : Shape P t vs) : ∃ rows, vs = [.ro rows] ∧ (∀ r ∈ rows, Shape P e r) ∧ rows.length ≤ maxLen := by
  cases h with
  | int n ht' hn => rw [ht] at ht'; cases ht'
  | bool b ht' => rw [ht] at ht'; cases ht'
  | slice rows ht' hr hl hm => rw [ht] at ht'; cases ht'; exact ⟨rows, rfl, hr, hm⟩
  | struct vs ht' => rw [ht] at ht'; cases ht'

theorem shape_struct {t : TypeId} {fs : Array Field} {vs : List V} (ht : P.underlying t = some (.struct fs)) (h : Shape P t vs) :
    vs.length = P.cellsOf t ∧ ∀ (i : Nat) (f : Field), fs[i]? = some f → Shape P f.type ((vs.drop f.offset).take (P.cellsOf f.type)) := by
  cases h with
  | int n ht' hn => rw [ht] at ht'; cases ht'
  | bool b ht' => rw [ht] at ht'; cases ht'
  | slice rows ht' => rw [ht] at ht'; cases ht'
  | struct vs ht' hl hf => rw [ht] at ht'; cases ht'; exact ⟨hl, hf⟩

/-- Rows, each of which is typed. -/
theorem rows_typed {α : Type} {enc : α → List V} {Q : α → Prop} : ∀ {rows : List (List V)}, (∀ r ∈ rows, ∃ a, r = enc a ∧ Q a) → ∃ l : List α, rows = l.map enc ∧ ∀ a ∈ l, Q a
  | [], _ => ⟨[], rfl, by simp⟩
  | r :: rows, h => by
    obtain ⟨a, rfl, ha⟩ := h r (by simp)
    obtain ⟨l, rfl, hl⟩ := rows_typed (rows := rows) (fun r hr => h r (by simp [hr]))
    exact ⟨a :: l, rfl, by intro b hb; rcases List.mem_cons.1 hb with rfl | hb; exact ha; exact hl b hb⟩

theorem shape_ints {t e : TypeId} {k : IntKind} {vs : List V} (ht : P.underlying t = some (.slice e)) (he : P.underlying e = some (.int k)) (h : Shape P t vs) :
    ∃ l : List Int, vs = [intsV k l] ∧ (∀ n ∈ l, (Lit.int k n).wf = true) ∧ l.length ≤ maxLen := by
  obtain ⟨rows, rfl, hr, hm⟩ := shape_slice ht h
  obtain ⟨l, rfl, hl⟩ := rows_typed (enc := fun n => [V.lit (.int k n)]) (Q := fun n => (Lit.int k n).wf = true) (fun r h => shape_int he (hr r h))
  exact ⟨l, rfl, hl, by simpa using hm⟩

/-- Tasks: work, and kids. -/
def taskV (t : Int × List Int) : List V := [.lit (.int .i64 t.1), intsV .i64 t.2]
def tasksV (l : List (Int × List Int)) : V := .ro (l.map taskV)

def i64 (n : Int) : Prop := (Lit.int .i64 n).wf = true

theorem shape_tasks {t e i s : TypeId} {f0 f1 : Field} {vs : List V} (ht : P.underlying t = some (.slice e)) (he : P.underlying e = some (.struct #[f0, f1])) (h0 : f0.type = i) (h1 : f1.type = s) (o0 : f0.offset = 0) (o1 : f1.offset = 1)
    (hi : P.underlying i = some (.int .i64)) (hs : P.underlying s = some (.slice i)) (ci : P.cellsOf i = 1) (cs : P.cellsOf s = 1) (ce : P.cellsOf e = 2) (h : Shape P t vs) :
    ∃ l : List (Int × List Int), vs = [tasksV l] ∧ (∀ x ∈ l, i64 x.1 ∧ (∀ n ∈ x.2, i64 n) ∧ x.2.length ≤ maxLen) ∧ l.length ≤ maxLen := by
  obtain ⟨rows, rfl, hr, hm⟩ := shape_slice ht h
  obtain ⟨l, rfl, hl⟩ := rows_typed (enc := taskV) (Q := fun x => i64 x.1 ∧ (∀ n ∈ x.2, i64 n) ∧ x.2.length ≤ maxLen) (rows := rows) (fun r hx => by
    obtain ⟨a, b⟩ := shape_struct he (hr r hx)
    have s0 := b 0 f0 rfl
    have s1 := b 1 f1 rfl
    rw [h0, o0, ci, List.drop_zero] at s0
    rw [h1, o1, cs] at s1
    rw [ce] at a
    obtain ⟨n, e0, w0⟩ := shape_int hi s0
    obtain ⟨l, e1, w1, m1⟩ := shape_ints hs hi s1
    match r, a with
    | [x, y], _ =>
      simp at e0 e1
      subst e0 e1
      exact ⟨(n, l), rfl, w0, w1, m1⟩)
  exact ⟨l, rfl, hl, by simpa using hm⟩

/-- Structs of three numbers. -/
def threeV (t : Int × Int × Int) : List V := [.lit (.int .i64 t.1), .lit (.int .i64 t.2.1), .lit (.int .i64 t.2.2)]
def threesV (l : List (Int × Int × Int)) : V := .ro (l.map threeV)

theorem shape_threes {t e i : TypeId} {f0 f1 f2 : Field} {vs : List V} (ht : P.underlying t = some (.slice e)) (he : P.underlying e = some (.struct #[f0, f1, f2])) (h0 : f0.type = i) (h1 : f1.type = i) (h2 : f2.type = i)
    (o0 : f0.offset = 0) (o1 : f1.offset = 1) (o2 : f2.offset = 2) (hi : P.underlying i = some (.int .i64)) (ci : P.cellsOf i = 1) (ce : P.cellsOf e = 3) (h : Shape P t vs) :
    ∃ l : List (Int × Int × Int), vs = [threesV l] ∧ (∀ x ∈ l, i64 x.1 ∧ i64 x.2.1 ∧ i64 x.2.2) ∧ l.length ≤ maxLen := by
  obtain ⟨rows, rfl, hr, hm⟩ := shape_slice ht h
  obtain ⟨l, rfl, hl⟩ := rows_typed (enc := threeV) (Q := fun x => i64 x.1 ∧ i64 x.2.1 ∧ i64 x.2.2) (rows := rows) (fun r hx => by
    obtain ⟨a, b⟩ := shape_struct he (hr r hx)
    have s0 := b 0 f0 rfl
    have s1 := b 1 f1 rfl
    have s2 := b 2 f2 rfl
    rw [h0, o0, ci, List.drop_zero] at s0
    rw [h1, o1, ci] at s1
    rw [h2, o2, ci] at s2
    rw [ce] at a
    obtain ⟨n0, e0, w0⟩ := shape_int hi s0
    obtain ⟨n1, e1, w1⟩ := shape_int hi s1
    obtain ⟨n2, e2, w2⟩ := shape_int hi s2
    match r, a with
    | [x, y, z], _ =>
      simp at e0 e1 e2
      subst e0 e1 e2
      exact ⟨(n0, n1, n2), rfl, w0, w1, w2⟩)
  exact ⟨l, rfl, hl, by simpa using hm⟩

end typed
end Go.Ab
