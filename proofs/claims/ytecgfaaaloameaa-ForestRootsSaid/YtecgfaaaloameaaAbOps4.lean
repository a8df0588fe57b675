/- Making and writing memory: literals, stores, appends, maps. -/
import Derived.Test.YtecgfaaaloameaaAbOps3
import Derived.Laws.AppendOwn
namespace Go.Ab
open Go.RowKit
section ops
variable {P : Program} {wl B0 : Nat} {w0 : World} {R R' : Ro} {σ σ' : List Sg} {H : Hp} {w w' : World}

/-- Cells laid one by one. -/
def splC : Array Value → Nat → List Value → Array Value
  | cs, _, [] => cs
  | cs, off, v :: vs => splC (cs.setIfInBounds off v) (off + 1) vs

theorem splC_size : ∀ (vs : List Value) (cs : Array Value) (off : Nat), (splC cs off vs).size = cs.size
  | [], _, _ => rfl
  | v :: vs, cs, off => by simp [splC, splC_size vs]

theorem spl_length : ∀ (vs : List V) (cs : List V) (off : Nat), (spl cs off vs).length = cs.length
  | [], _, _ => rfl
  | v :: vs, cs, off => by simp [spl, spl_length vs]

theorem RelA.set {cs : List V} {vs : Array Value} (h : RelA R σ cs vs) (i : Nat) {c : V} {v : Value} (hv : RelV R σ c v) : RelA R σ (cs.set i c) (vs.setIfInBounds i v) := by
  refine ⟨by simp [h.1], fun j x hx => ?_⟩
  rcases set_cases hx with ⟨rfl, rfl, hlt⟩ | ⟨hne, hx⟩
  · have : j < vs.size := by rw [h.1]; exact hlt
    simpa [this] using hv
  · have := h.2 j x hx
    rw [Array.getD_eq_getD_getElem?, Array.getElem?_setIfInBounds_ne (by omega), ← Array.getD_eq_getD_getElem?]
    exact this

theorem spl_rel : ∀ {xs : List V} {l : List Value} {cs : List V} {vs : Array Value} (off : Nat), RelA R σ cs vs → RelA R σ xs l.toArray → RelA R σ (spl cs off xs) (splC vs off l)
  | [], l, cs, vs, off, h, hx => by
    have := hx.nil_inv
    have : l = [] := by simpa using this
    subst this
    exact h
  | x :: xs, l, cs, vs, off, h, hx => by
    obtain ⟨cv, l', e, h1, h2⟩ := hx.uncons
    have : l = cv :: l' := by simpa using e
    subst this
    exact spl_rel (off + 1) (h.set off h1) h2

theorem spl_ones : ∀ {xs cs : List V} (off : Nat), onesL cs = true → onesL xs = true → onesL (spl cs off xs) = true
  | [], cs, off, h, _ => h
  | x :: xs, cs, off, h, hx => by
    simp only [onesL, List.all_cons, Bool.and_eq_true] at hx
    refine spl_ones (off + 1) ?_ hx.2
    simp only [onesL, List.all_eq_true] at h ⊢
    intro y hy
    rcases List.mem_or_eq_of_mem_set hy with hy | rfl
    · exact h y hy
    · exact hx.1

theorem fold_splC : ∀ (l : List Value) (k : Nat) (off : Nat) (cells : Array Value), (l.zipIdx k).foldl (fun cs (p : Value × Nat) => cs.setIfInBounds (off + p.2) p.1) cells = splC cells (off + k) l
  | [], _, _, _ => rfl
  | v :: l, k, off, cells => by
    simp only [List.zipIdx_cons, List.foldl_cons, splC]
    rw [fold_splC l (k + 1) off]
    rfl

theorem fill_rel {place : Nat → Option (Nat × Nat)} : ∀ {parts : List (Nat × V)} {cparts : List (Nat × Value)} {cells : List V} {vs : Array Value} {r : List V},
    fillV place cells parts = some r → parts.length = cparts.length → (∀ (i : Nat) (p : Nat × V) (q : Nat × Value), parts[i]? = some p → cparts[i]? = some q → p.1 = q.1 ∧ RelV R σ p.2 q.2) →
    RelA R σ cells vs → onesL cells = true → ∃ out, Instr.fill place vs cparts = some out ∧ RelA R σ r out ∧ onesL r = true
  | [], cparts, cells, vs, r, h, hl, _, hr, ho => by
    cases h
    have : cparts = [] := by cases cparts <;> first | rfl | simp at hl
    subst this
    exact ⟨vs, rfl, hr, ho⟩
  | (i, v) :: parts, cparts, cells, vs, r, h, hl, hp, hr, ho => by
    cases cparts with
    | nil => simp at hl
    | cons q cparts =>
      obtain ⟨e1, hv⟩ := hp 0 (i, v) q rfl rfl
      obtain ⟨qi, qv⟩ := q
      simp only at e1 hv
      subst e1
      unfold fillV at h
      split at h
      · cases h
      · rename_i off size hpl
        split at h
        · rename_i xs hx
          split at h
          · rename_i hc
            obtain ⟨hxr, hxo, hx1⟩ := cells_rel hv hx
            have hsz : qv.cells.size = size := by rw [hxr.1]; exact hc.1
            have hcs : qv.cells = qv.cells.toList.toArray := by simp
            rw [hcs] at hxr
            obtain ⟨out, h1, h2, h3⟩ := fill_rel h (by simpa using hl) (fun j p q' ha hb => hp (j + 1) p q' (by simpa using ha) (by simpa using hb)) (spl_rel off hr hxr) (spl_ones off ho hxo)
            refine ⟨out, ?_, h2, h3⟩
            unfold Instr.fill
            simp only [hpl]
            have hcond : ¬ (qv.cells.size ≠ size ∨ off + qv.cells.size > vs.size) := by
              rw [hr.1]
              rintro (h | h)
              · exact h hsz
              · have := hc.2; omega
            have hcond' : (decide (qv.cells.size ≠ size) || decide (off + qv.cells.size > vs.size)) = false := by
              have h1 : qv.cells.size = size := hsz
              have h2 : ¬ (off + qv.cells.size > vs.size) := by have := hr.1; have := hc.2; omega
              simp [h1] 
              omega
            rw [if_neg (by rw [hcond']; simp)]
            have hfold : qv.cells.zipIdx.foldl (fun cs (x : Value × Nat) => cs.setIfInBounds (off + x.2) x.1) vs = splC vs off qv.cells.toList := by
              rw [← Array.foldl_toList, Array.toList_zipIdx, fold_splC]
              rfl
            rw [hfold]
            exact h1
          · cases h
        · cases h

theorem mapO_rel {env : List V} {a : Act} (hE : RelA R σ env a.tmps) : ∀ {parts : List (Nat × Operand)} {l : List (Nat × V)}, mapO (evO env) parts = some l →
    l.length = (parts.map fun p => (p.1, a.eval p.2)).length ∧ ∀ (i : Nat) (p : Nat × V) (q : Nat × Value), l[i]? = some p → (parts.map fun p => (p.1, a.eval p.2))[i]? = some q → p.1 = q.1 ∧ RelV R σ p.2 q.2
  | [], l, h => by cases h; exact ⟨rfl, fun i p q h => by simp at h⟩
  | (k, x) :: parts, l, h => by
    simp only [mapO, Option.bind_eq_some_iff] at h
    obtain ⟨v, hv, l', hl', e⟩ := h
    cases e
    obtain ⟨h1, h2⟩ := mapO_rel hE hl'
    refine ⟨by simp at h1 ⊢; omega, fun i p q hp hq => ?_⟩
    cases i with
    | zero =>
      simp at hp hq
      subst hp hq
      exact ⟨rfl, evO_rel hE hv⟩
    | succ i => exact h2 i p q (by simpa using hp) (by simpa using hq)

theorem vBuild_run {t : TypeId} {parts : List (Nat × V)} {cparts : Array (Nat × Value)} {v : V} (h : vBuild P t parts = some v) (hl : parts.length = cparts.toList.length)
    (hp : ∀ (i : Nat) (p : Nat × V) (q : Nat × Value), parts[i]? = some p → cparts.toList[i]? = some q → p.1 = q.1 ∧ RelV R σ p.2 q.2) :
    ∃ cv, (Instr.build t cparts).run P w = .ok cv w ∧ RelV R σ v cv := by
  unfold vBuild at h
  split at h
  · rename_i z fs hz hu
    obtain ⟨it, hit, hiz⟩ := zeroOf_some hz
    split at h
    · rename_i hc
      rw [Bool.and_eq_true] at hc
      obtain ⟨ho, hinf⟩ := hc
      simp only [Option.map_eq_some_iff] at h
      obtain ⟨r, hr, rfl⟩ := h
      obtain ⟨out, h1, h2, h3⟩ := fill_rel hr hl hp (zeroCs_rel z ho) ho
      have hplaces : fs.toList.mapM (fun f => (P.info? f.type).map fun i => (f.offset, i.size)) = some (fs.toList.map fun f => (f.offset, szOf P f.type)) := by
        generalize fs.toList = l at hinf
        clear hr h1 hu
        induction l with
        | nil => rfl
        | cons f l ih =>
          simp only [List.all_cons, Bool.and_eq_true] at hinf
          obtain ⟨i, hi⟩ := Option.isSome_iff_exists.1 hinf.1
          have ih := ih hinf.2
          simp only [List.mapM_cons, hi, Option.map_some, Option.bind_eq_bind, Option.bind_some, ih, List.map_cons, Option.pure_def]
          simp [szOf, Program.cellsOf, hi]
      have hb : P.built t cparts.toList = some out := by
        unfold Program.built
        simp only [hit, hu, hiz, hplaces]
        rw [← h1]
        congr 1
        funext i
        simp
      exact ⟨.agg out, run_build w t cparts out hb, .agg _ _ h2.1 h3 h2.2⟩
    · cases h
  · rename_i z n e hz hu
    obtain ⟨it, hit, hiz⟩ := zeroOf_some hz
    split at h
    · rename_i hc
      rw [Bool.and_eq_true] at hc
      obtain ⟨ho, hinf⟩ := hc
      simp only [Option.map_eq_some_iff] at h
      obtain ⟨r, hr, rfl⟩ := h
      obtain ⟨out, h1, h2, h3⟩ := fill_rel hr hl hp (zeroCs_rel z ho) ho
      obtain ⟨i, hi⟩ := Option.isSome_iff_exists.1 hinf
      have hb : P.built t cparts.toList = some out := by
        unfold Program.built
        simp only [hit, hu, hiz, hi]
        rw [← h1]
        simp [szOf, Program.cellsOf, hi]
      exact ⟨.agg out, run_build w t cparts out hb, .agg _ _ h2.1 h3 h2.2⟩
    · cases h
  · cases h

end ops
end Go.Ab
