/- Arguments of data, read: what they are to the abstract evaluator. -/
import Derived.Test.YtecgfaaaloameaaAbRow
import Derived.Deep.Slices
import Derived.ChangeArms
namespace Go.Ab
open Go.RowKit

section data
variable {P : Program} {w : World} {H : Type} {enc : TypeId × Value → H}

/-- What cells of a type are. -/
inductive Shape (P : Program) : TypeId → List V → Prop where
  | int {t : TypeId} {k : IntKind} (n : Int) (ht : P.underlying t = some (.int k)) (hn : (Lit.int k n).wf = true) : Shape P t [.lit (.int k n)]
  | bool {t : TypeId} (b : Bool) (ht : P.underlying t = some .bool) : Shape P t [.lit (.bool b)]
  | slice {t e : TypeId} (rows : List (List V)) (ht : P.underlying t = some (.slice e)) (hr : ∀ r ∈ rows, Shape P e r) (hl : ∀ r ∈ rows, r.length = P.cellsOf e) (hm : rows.length ≤ maxLen) : Shape P t [.ro rows]
  | struct {t : TypeId} {fs : Array Field} (vs : List V) (ht : P.underlying t = some (.struct fs)) (hl : vs.length = P.cellsOf t)
      (hf : ∀ (i : Nat) (f : Field), fs[i]? = some f → Shape P f.type ((vs.drop f.offset).take (P.cellsOf f.type))) : Shape P t vs

/-- Fields one behind the other. -/
def inLine (P : Program) : List Field → Nat → Nat → Bool
  | [], k, n => k == n
  | f :: fs, k, n => f.offset == k && inLine P fs (k + P.cellsOf f.type) n

/-- A type of numbers, bools, slices and structs. -/
def plainTy (P : Program) : Nat → TypeId → Bool
  | 0, _ => false
  | d + 1, t =>
    match P.underlying t with
    | some .bool => true
    | some (.int _) => true
    | some (.slice e) => plainTy P d e && P.cellsOf e != 0
    | some (.struct fs) => inLine P fs.toList 0 (P.cellsOf t) && fs.toList.all fun f => plainTy P d f.type
    | _ => false

/-- What cells are known as. -/
structure Known (P : Program) (w : World) (t : TypeId) (cs : List Value) (vs : List V) : Prop where
  len : vs.length = cs.length
  rel : ∀ (i : Nat) (v : V) (c : Value), vs[i]? = some v → cs[i]? = some c → RelV (allR w) [] v c
  pure : pureL vs = true
  ones : onesL vs = true
  shape : Shape P t vs

/-- Cells, without their type. -/
structure Cells (w : World) (cs : List Value) (vs : List V) : Prop where
  len : vs.length = cs.length
  rel : ∀ (i : Nat) (v : V) (c : Value), vs[i]? = some v → cs[i]? = some c → RelV (allR w) [] v c
  pure : pureL vs = true
  ones : onesL vs = true

theorem pureL_append (a b : List V) : pureL (a ++ b) = (pureL a && pureL b) := by
  induction a with
  | nil => simp [pureL]
  | cons x a ih => simp [pureL, ih, Bool.and_assoc]

theorem Cells.append {as bs : List Value} {xs ys : List V} (h : Cells w as xs) (k : Cells w bs ys) : Cells w (as ++ bs) (xs ++ ys) := by
  refine ⟨by simp [h.len, k.len], fun i v c hv hc => ?_, by rw [pureL_append, h.pure, k.pure]; rfl, by simp only [onesL, List.all_append, Bool.and_eq_true]; exact ⟨h.ones, k.ones⟩⟩
  by_cases hi : i < xs.length
  · rw [List.getElem?_append_left hi] at hv
    rw [List.getElem?_append_left (by rw [← h.len]; exact hi)] at hc
    exact h.rel i v c hv hc
  · rw [List.getElem?_append_right (by omega)] at hv
    rw [List.getElem?_append_right (by rw [← h.len]; omega), ← h.len] at hc
    exact k.rel _ v c hv hc

theorem fields_known : ∀ (fs : List Field) (k : Nat) (cs : List Value), inLine P fs k (k + cs.length) = true →
    (∀ f ∈ fs, ∃ vs, Cells w ((cs.drop (f.offset - k)).take (P.cellsOf f.type)) vs ∧ Shape P f.type vs) →
    ∃ vs, Cells w cs vs ∧ ∀ f ∈ fs, Shape P f.type ((vs.drop (f.offset - k)).take (P.cellsOf f.type))
  | [], k, cs, hl, _ => by
    simp [inLine] at hl
    subst hl
    exact ⟨[], ⟨rfl, fun i v c hv => by simp at hv, rfl, rfl⟩, fun f hf => by simp at hf⟩
  | f :: fs, k, cs, hl, h => by
    simp only [inLine, Bool.and_eq_true, beq_iff_eq] at hl
    obtain ⟨ho, hl⟩ := hl
    have off : ∀ g ∈ fs, k + P.cellsOf f.type ≤ g.offset := by
      have : ∀ (l : List Field) (k n : Nat), inLine P l k n = true → ∀ g ∈ l, k ≤ g.offset := by
        intro l
        induction l with
        | nil => intro k n _ g hg; simp at hg
        | cons x l ih =>
          intro k n hx g hg
          simp only [inLine, Bool.and_eq_true, beq_iff_eq] at hx
          rcases List.mem_cons.1 hg with rfl | hg
          · omega
          · have := ih _ _ hx.2 g hg; omega
      exact this fs _ _ hl
    have fin : ∀ (l : List Field) (k n : Nat), inLine P l k n = true → k ≤ n := by
      intro l
      induction l with
      | nil => intro k n hx; simp [inLine] at hx; omega
      | cons x l ih =>
        intro k n hx
        simp only [inLine, Bool.and_eq_true, beq_iff_eq] at hx
        have := ih _ _ hx.2
        omega
    have hle := fin fs _ _ hl
    obtain ⟨v0, h0, s0⟩ := h f (by simp)
    rw [ho, Nat.sub_self, List.drop_zero] at h0
    have hl0 : v0.length = P.cellsOf f.type := by rw [h0.len, List.length_take]; omega
    obtain ⟨vs, h1, s1⟩ := fields_known fs (k + P.cellsOf f.type) (cs.drop (P.cellsOf f.type)) (by rw [List.length_drop]; rw [show k + P.cellsOf f.type + (cs.length - P.cellsOf f.type) = k + cs.length by omega]; exact hl) (fun g hg => by
      obtain ⟨vs, a, b⟩ := h g (by simp [hg])
      refine ⟨vs, ?_, b⟩
      rw [List.drop_drop]
      have := off g hg
      rw [show P.cellsOf f.type + (g.offset - (k + P.cellsOf f.type)) = g.offset - k by omega]
      exact a)
    refine ⟨v0 ++ vs, ?_, fun g hg => ?_⟩
    · have := h0.append h1
      rwa [List.take_append_drop] at this
    · rcases List.mem_cons.1 hg with rfl | hg
      · rw [ho, Nat.sub_self, List.drop_zero, List.take_append_of_le_length (by omega), List.take_of_length_le (by omega)]
        exact s0
      · have := off g hg
        rw [List.drop_append, List.drop_of_length_le (by omega), List.nil_append, hl0]
        rw [show g.offset - k - P.cellsOf f.type = g.offset - (k + P.cellsOf f.type) by omega]
        exact s1 g hg

/-- Data, read: what it is to the abstract evaluator. -/
theorem absorb : ∀ (d fuel : Nat) (t : TypeId) (cs : List Value) (x : DataW H × List MemPlace), plainTy P d t = true → DataW.trod enc P w 0 (fun _ => true) true fuel t cs = some x → ∃ vs, Cells w cs vs ∧ Shape P t vs
  | 0, _, _, _, _, hp, _ => by cases hp
  | d + 1, fuel, t, cs, x, hp, h => by
    unfold plainTy at hp
    split at hp
    · rename_i ht
      obtain ⟨b, rfl, _⟩ := DataW.trod_bool ht h
      exact ⟨[.lit (.bool b)], ⟨rfl, fun i v c hv hc => by cases i <;> simp at hv hc; subst hv hc; exact .lit _, rfl, rfl⟩, .bool b ht⟩
    · rename_i k ht
      obtain ⟨n, rfl, _, hw⟩ := DataW.trod_int ht h
      exact ⟨[.lit (.int k n)], ⟨rfl, fun i v c hv hc => by cases i <;> simp at hv hc; subst hv hc; exact .lit _, rfl, rfl⟩, .int n ht hw⟩
    · rename_i e ht
      simp only [Bool.and_eq_true, bne_iff_ne, ne_eq] at hp
      obtain ⟨hpe, hne⟩ := hp
      rcases Go.Deep.open_slice ht h with ⟨rfl, _⟩ | ⟨a, len, cap, m, n, D, Pl, rfl, _, hlc, hcm, hmm, _, hx⟩
      · exact ⟨[.ro []], ⟨rfl, fun i v c hv hc => by cases i <;> simp at hv hc; subst hv hc; exact .roNil _ _, rfl, rfl⟩, .slice [] ht (by simp) (by simp) (by simp)⟩
      · have hx' : ∀ i, i < len → ∃ vs, ∃ cs', w.cells? 0 (a.add (i * P.cellsOf e)) (P.cellsOf e) = some cs' ∧ Cells w cs' vs ∧ Shape P e vs := by
          intro i hi
          obtain ⟨cs', h1, h2⟩ := hx i (by simp at hmm; omega)
          obtain ⟨vs, h3, h4⟩ := absorb d n e cs' _ hpe h2
          exact ⟨vs, cs', h1, h3, h4⟩
        obtain ⟨f, hf⟩ := Go.Deep.choose_lt (α := List V) (p := fun i vs => ∃ cs', w.cells? 0 (a.add (i * P.cellsOf e)) (P.cellsOf e) = some cs' ∧ Cells w cs' vs ∧ Shape P e vs) hx'
        by_cases h0 : len = 0
        · subst h0
          exact ⟨[.ro []], ⟨rfl, fun i v c hv hc => by cases i <;> simp at hv hc; subst hv hc; exact .roNil _ _, rfl, rfl⟩, .slice [] ht (by simp) (by simp) (by simp)⟩
        · have hsp : a.spot = none := by
            obtain ⟨cs', h1, _⟩ := hf 0 (by omega)
            obtain ⟨_, h2, h3⟩ := World.cells?_some h1
            have h4 := h3 0 (by omega)
            have hz : a.add (0 * P.cellsOf e) = a := by simp [Addr.add]
            rw [hz] at h4
            have hz2 : a.add 0 = a := by simp [Addr.add]
            rw [hz2, List.getElem?_eq_getElem (by omega)] at h4
            unfold World.cell? at h4
            split at h4
            · split at h4
              · cases h4
              · rename_i hs; simpa using hs
            · cases h4
          obtain ⟨b, off, sp⟩ := a
          simp only at hsp
          subst hsp
          have hcell : ∀ i j, i < len → j < P.cellsOf e → ∃ c, w.cell? ⟨b, off + (i * P.cellsOf e + j), none⟩ = some c ∧ ∀ v, (f i)[j]? = some v → RelV (allR w) [] v c := by
            intro i j hi hj
            obtain ⟨cs', h1, h2, _⟩ := hf i hi
            obtain ⟨_, h3, h4⟩ := World.cells?_some h1
            have h5 := h4 j hj
            rw [add_plain', add_plain', List.getElem?_eq_getElem (by omega), Nat.add_assoc] at h5
            exact ⟨_, h5, fun v hv => h2.rel j v _ hv (List.getElem?_eq_getElem (by omega))⟩
          have hlen : ∀ i, i < len → (f i).length = P.cellsOf e := by
            intro i hi
            obtain ⟨cs', h1, h2, _⟩ := hf i hi
            rw [h2.len, (World.cells?_some h1).2.1]
          have hrow : ∀ i r, ((List.range len).map f)[i]? = some r → i < len ∧ r = f i := by
            intro i r hr
            obtain ⟨y, hy, rfl⟩ := map_get hr
            have h1 := (List.getElem?_eq_some_iff.1 hy).1
            have h2 := (List.getElem?_eq_some_iff.1 hy).2
            simp at h1 h2
            exact ⟨h1, by rw [h2]⟩
          have hmem : ∀ r ∈ (List.range len).map f, ∃ i, i < len ∧ r = f i := by
            intro r hr
            obtain ⟨i, hi, rfl⟩ := List.mem_map.1 hr
            exact ⟨i, by simpa using hi, rfl⟩
          have hrl : ((List.range len).map f).length = len := by simp
          have hpr : pureR ((List.range len).map f) = true := by
            unfold pureR
            rw [List.all_eq_true]
            intro r hr
            obtain ⟨i, hi, rfl⟩ := hmem r hr
            obtain ⟨_, _, h2, _⟩ := hf i hi
            exact h2.pure
          have hon : ((List.range len).map f).all onesL = true := by
            rw [List.all_eq_true]
            intro r hr
            obtain ⟨i, hi, rfl⟩ := hmem r hr
            obtain ⟨_, _, h2, _⟩ := hf i hi
            exact h2.ones
          have hrel := RelV.ro (R := allR w) (σ := []) ((List.range len).map f) b off cap (P.cellsOf e) (fun i j => (w.cell? ⟨b, off + (i * P.cellsOf e + j), none⟩).getD undef) (by rw [hrl]; exact hlc)
            (fun r hr => by obtain ⟨i, hi, rfl⟩ := hmem r hr; exact hlen i hi) hpr hon
            (fun i j r v h1 h2 => by
              obtain ⟨hi, rfl⟩ := hrow i r h1
              have hj := (List.getElem?_eq_some_iff.1 h2).1
              rw [hlen i hi] at hj
              obtain ⟨c, h3, h4⟩ := hcell i j hi hj
              rw [h3]
              exact h4 v h2)
            (fun i j r v h1 h2 => by
              obtain ⟨hi, rfl⟩ := hrow i r h1
              have hj := (List.getElem?_eq_some_iff.1 h2).1
              rw [hlen i hi] at hj
              obtain ⟨c, h3, _⟩ := hcell i j hi hj
              show w.cell? _ = _
              rw [h3]
              rfl)
          rw [hrl] at hrel
          refine ⟨[.ro ((List.range len).map f)], ⟨rfl, fun i v c hv hc => by cases i <;> simp at hv hc; subst hv hc; exact hrel, rfl, rfl⟩, .slice _ ht (fun r hr => ?_) (fun r hr => ?_) (by rw [hrl]; omega)⟩
          · obtain ⟨i, hi, rfl⟩ := hmem r hr
            obtain ⟨_, _, _, h3⟩ := hf i hi
            exact h3
          · obtain ⟨i, hi, rfl⟩ := hmem r hr
            exact hlen i hi
    · rename_i fs ht
      simp only [Bool.and_eq_true] at hp
      obtain ⟨hline, hall⟩ := hp
      obtain ⟨xs, n, _, _, hl, hxl, hxf⟩ := DataW.trod_struct ht h
      rw [List.all_eq_true] at hall
      obtain ⟨vs, h1, h2⟩ := fields_known (P := P) (w := w) fs.toList 0 cs (by rw [Nat.zero_add, hl]; exact hline) (fun f hf => by
        obtain ⟨i, hi⟩ := List.mem_iff_getElem?.1 hf
        have hi' : fs[i]? = some f := by simpa using hi
        have hx := hxf i f hi'
        have hlt : i < xs.length := by rw [hxl]; exact (Array.getElem?_eq_some_iff.1 hi').1
        rw [List.getElem?_eq_getElem hlt] at hx
        obtain ⟨vs, a, b⟩ := absorb d n f.type _ _ (hall f hf) hx
        exact ⟨vs, by rw [Nat.sub_zero]; exact a, b⟩)
      refine ⟨vs, h1, .struct vs ht (by rw [h1.len, hl]) (fun i f hf => ?_)⟩
      have := h2 f (List.mem_of_getElem? (by simpa using hf))
      rwa [Nat.sub_zero] at this
    · cases hp

end data
end Go.Ab
