/- Made slices, literals of slices, maps, slice expressions. -/
import Derived.Test.YtecgfaaaloameaaAbOps5
namespace Go.Ab
open Go.RowKit
section ops
variable {P : Program} {wl B0 : Nat} {w0 : World} {R R' : Ro} {σ σ' : List Sg} {H : Hp} {w w' : World}

theorem fzZ_rel : ∀ {cs : List V} {vs : Array Value}, RelA R σ cs vs → RelA R σ (vMakeSlice.fzZ cs) vs ∧ (onesL cs = true → onesL (vMakeSlice.fzZ cs) = true) ∧ (vMakeSlice.fzZ cs).length = cs.length
  | [], vs, h => ⟨h, fun h => h, rfl⟩
  | c :: cs, vs, h => by
    obtain ⟨cv, l, rfl, h1, h2⟩ := h.uncons
    obtain ⟨r, o, n⟩ := fzZ_rel h2
    by_cases hn : c = .nil
    · subst hn
      cases h1
      refine ⟨?_, fun ho => ?_, by simp [vMakeSlice.fzZ, n]⟩
      · exact (RelV.roNil none 0).cons r
      · simp only [onesL, List.all_cons, Bool.and_eq_true] at ho
        have := o ho.2
        simp only [vMakeSlice.fzZ, onesL, List.all_cons, Bool.and_eq_true]
        exact ⟨rfl, this⟩
    · have e : vMakeSlice.fzZ (c :: cs) = c :: vMakeSlice.fzZ cs := by
        cases c <;> first | rfl | exact absurd rfl hn
      rw [e]
      refine ⟨h1.cons r, fun ho => ?_, by simp [n]⟩
      simp only [onesL, List.all_cons, Bool.and_eq_true] at ho ⊢
      exact ⟨ho.1, o ho.2⟩

theorem madeCells_get (z : Array Value) (n k : Nat) (hk : k < n) (hz : z.size ≠ 0) : ∃ v, z[k % z.size]? = some v ∧ (madeCells z n)[k]? = some v := by
  have hlt : k % z.size < z.size := Nat.mod_lt _ (by omega)
  refine ⟨z[k % z.size], by simp [hlt], ?_⟩
  simp [madeCells, hk, hlt]

theorem div_mod_row {i j size : Nat} (hj : j < size) : (i * size + j) / size = i ∧ (i * size + j) % size = j := by
  constructor
  · rw [Nat.add_comm, Nat.add_mul_div_right _ _ (by omega), Nat.div_eq_of_lt hj, Nat.zero_add]
  · rw [Nat.add_comm, Nat.add_mul_mod_self_right, Nat.mod_eq_of_lt hj]

/-- Rows of zero values. -/
theorem zero_rows {z : Value} {size n : Nat} (ho : onesL (zeroCs z) = true) (hl : (zeroCs z).length = size) (_hsz : size ≠ 0) :
    (∀ r ∈ List.replicate n (vMakeSlice.fzZ (zeroCs z)), r.length = size ∧ onesL r = true) ∧
    ∀ (i j : Nat) (r : List V) (x : V), (List.replicate n (vMakeSlice.fzZ (zeroCs z)))[i]? = some r → r[j]? = some x → ∃ cv, (madeCells z.cells (n * size))[i * size + j]? = some cv ∧ RelV R σ x cv := by
  obtain ⟨hr, hones, hlen⟩ := fzZ_rel (zeroCs_rel (R := R) (σ := σ) z ho)
  have hzl : z.cells.size = size := by rw [← hl]; simp [zeroCs]
  refine ⟨fun r hr' => ?_, fun i j r x h1 h2 => ?_⟩
  · rw [List.mem_replicate] at hr'
    rw [hr'.2]
    exact ⟨by rw [hlen, hl], hones ho⟩
  · have hi := (List.getElem?_eq_some_iff.1 h1).1
    rw [List.length_replicate] at hi
    have hrr : r = vMakeSlice.fzZ (zeroCs z) := by
      have := List.mem_of_getElem? h1
      rw [List.mem_replicate] at this
      exact this.2
    subst hrr
    have hj := (List.getElem?_eq_some_iff.1 h2).1
    rw [hlen, hl] at hj
    obtain ⟨cv, hc, hrel⟩ := hr.get h2
    obtain ⟨v, h3, h4⟩ := madeCells_get z.cells (n * size) (i * size + j) (rowLt hi hj) (by omega)
    rw [hzl, (div_mod_row hj).2] at h3
    rw [h3] at hc
    cases hc
    exact ⟨_, h4, hrel⟩

theorem vMakeSlice_run (hI : Inv wl B0 w0 R σ H w) {t : TypeId} {l c v : V} {cl cc : Value} {H' : Hp} (h : vMakeSlice P t l c H = some (v, H')) (hl : RelV R σ l cl) (hc : RelV R σ c cc) :
    ∃ cv w' σ', (Instr.makeSlice t cl cc).run P w = .ok cv w' ∧ Stp (fun _ => False) wl B0 w0 R σ w R σ' H' w' ∧ RelV R σ' v cv ∧ w.heap.size ≤ w'.heap.size := by
  unfold vMakeSlice at h
  split at h
  · cases h
  · rename_i e he
    have hte := elemT_some he
    split at h
    · rename_i a b
      split at h
      · rename_i hcond
        obtain ⟨rfl, h0, h63, hb⟩ := hcond
        split at h
        · rename_i z hz
          split at h
          · rename_i hcz
            simp only [Bool.and_eq_true, beq_iff_eq, bne_iff_ne, ne_eq] at hcz
            obtain ⟨⟨ho, hzl⟩, hsz⟩ := hcz
            cases h
            have el := hl.lit_inv
            have ec := hc.lit_inv
            subst el ec
            obtain ⟨i, hi, hiz⟩ := zeroOf_some hz
            have hisz : i.size = szOf P e := by simp [szOf, Program.cellsOf, hi]
            have hib : i.bytes = P.bytesOf e := by simp [Program.bytesOf, hi]
            have hrun := run_make (P := P) w t e i z hte hi hiz .i64 .i64 a a h0 (Int.le_refl _) (by rw [hib, Int.mul_comm]; omega) h63
            rw [hisz] at hrun
            obtain ⟨hr1, hr2⟩ := zero_rows (R := R) (σ := σ ++ [⟨some w.heap.size, 0, szOf P e, a.toNat * szOf P e, false⟩]) (n := a.toNat) ho hzl hsz
            have hp := hI.push_stp (T := fun _ => False) (w' := w.alloc (.cells (madeCells z.cells (a.toNat * szOf P e)) e)) (b := .rows (szOf P e) (List.replicate a.toNat (vMakeSlice.fzZ (zeroCs z))) 0 true)
              (s := ⟨some w.heap.size, 0, szOf P e, a.toNat * szOf P e, false⟩) (Below.one_alloc _ _) (fun k hk => by cases hk; exact ⟨Nat.le_refl _, by simp⟩)
              ⟨rfl, rfl, fun _ => hsz, hr1, _, e, alloc_new w _, size_madeCells _ _, hr2, fun o ho => absurd (hI.ro_new o) ho⟩
            refine ⟨_, _, _, hrun, hp, ?_, by simp⟩
            exact .own _ _ _ _ _ _ ⟨some w.heap.size, 0, szOf P e, a.toNat * szOf P e, false⟩ (by rw [← hI.len]; simp) rfl (Nat.le_refl _)
              (fun _ => ⟨rfl, (fun hb => by cases hb), fun b hb => by cases hb; exact ⟨rfl, Nat.le_refl _, Nat.le_refl _⟩⟩)
          · cases h
        · cases h
      · cases h
    · cases h

theorem fillR_run {size : Nat} (hsz : size ≠ 0) : ∀ {parts : List (Nat × V)} {cparts : List (Nat × Value)} {rs rs' : List (List V)} {cells : Array Value} {H H' : Hp} {R : Ro}, Inv wl B0 w0 R σ H w →
    fillR wl size parts rs H = some (rs', H') → parts.length = cparts.length →
    (∀ (i : Nat) (p : Nat × V) (q : Nat × Value), parts[i]? = some p → cparts[i]? = some q → p.1 = q.1 ∧ RelV R σ p.2 q.2) →
    cells.size = rs.length * size → (∀ r ∈ rs, r.length = size ∧ onesL r = true) →
    (∀ (i j : Nat) (r : List V) (x : V), rs[i]? = some r → r[j]? = some x → ∃ cv, cells[i * size + j]? = some cv ∧ RelV R σ x cv) →
    ∃ R' out, Instr.fill (fun i => some (i * size, size)) cells cparts = some out ∧ Stp (TB B0) wl B0 w0 R σ w R' σ H' w ∧ out.size = cells.size ∧ rs'.length = rs.length ∧
      (∀ r ∈ rs', r.length = size ∧ onesL r = true) ∧
      (∀ (i j : Nat) (r : List V) (x : V), rs'[i]? = some r → r[j]? = some x → ∃ cv, out[i * size + j]? = some cv ∧ RelV R' σ x cv)
  | [], cparts, rs, rs', cells, H, H', R, hI, h, hl, hp, hc, hr, hrel => by
    cases h
    have : cparts = [] := by cases cparts <;> first | rfl | simp at hl
    subst this
    exact ⟨R, cells, rfl, Stp.refl hI, rfl, rfl, hr, hrel⟩
  | (i, v) :: parts, cparts, rs, rs', cells, H, H', R, hI, h, hl, hp, hc, hr, hrel => by
    cases cparts with
    | nil => simp at hl
    | cons q cparts =>
      obtain ⟨e1, hv⟩ := hp 0 (i, v) q rfl rfl
      obtain ⟨qi, qv⟩ := q
      simp only at e1 hv
      subst e1
      unfold fillR at h
      split at h
      · rename_i vs hvs
        simp only [Option.bind_eq_some_iff] at h
        obtain ⟨p, hpz, h⟩ := h
        split at h
        · rename_i hcond
          obtain ⟨hi, hps⟩ := hcond
          obtain ⟨hxr, hxo, hx1⟩ := cells_rel hv hvs
          have hxr' : RelA R σ vs qv.cells.toList.toArray := by simpa using hxr
          obtain ⟨R1, s1, r1, o1, l1⟩ := fzL_run true hI hpz hxr'
          have hql : qv.cells.toList.length = size := by have := hxr.1; simp; omega
          have hfit : i * size + qv.cells.toList.length ≤ cells.size := by
            rw [hql, hc]
            calc i * size + size = (i + 1) * size := by rw [Nat.succ_mul]
              _ ≤ rs.length * size := Nat.mul_le_mul_right _ hi
          obtain ⟨R2, out, h1, h2, h3, h4, h5, h6⟩ := fillR_run hsz s1.inv h (by simpa using hl)
            (fun j p q' ha hb => let ⟨a, b⟩ := hp (j + 1) p q' (by simpa using ha) (by simpa using hb); ⟨a, b.mono s1.le (Ext.refl σ)⟩)
            (cells := splC cells (i * size) qv.cells.toList) (by rw [splC_size, hc]; simp)
            (fun r hr' => by
              rcases List.mem_or_eq_of_mem_set hr' with hr' | rfl
              · exact hr r hr'
              · exact ⟨hps, o1 hxo⟩)
            (fun k j r x hk hx => by
              rw [splC_get _ _ _ _ hfit]
              rcases set_cases hk with ⟨rfl, rfl, _⟩ | ⟨hne, hk⟩
              · have hj := (List.getElem?_eq_some_iff.1 hx).1
                obtain ⟨u, hu, hru⟩ := r1.get hx
                refine ⟨u, ?_, hru⟩
                rw [if_pos (by omega), show k * size + j - k * size = j by omega]
                simpa using hu
              · have hj := (List.getElem?_eq_some_iff.1 hx).1
                rw [(hr r (List.mem_of_getElem? hk)).1] at hj
                have hne2 : ¬ (i * size ≤ k * size + j ∧ k * size + j < i * size + qv.cells.toList.length) := by
                  rw [hql]
                  rintro ⟨a1, a2⟩
                  rcases Nat.lt_or_gt_of_ne hne with hlt | hgt
                  · have := rowLt (n := i) (esz := size) hlt hj; omega
                  · have : i * size + size ≤ k * size := by
                      calc i * size + size = (i + 1) * size := by rw [Nat.succ_mul]
                        _ ≤ k * size := Nat.mul_le_mul_right _ hgt
                    omega
                rw [if_neg hne2]
                obtain ⟨cv, a, b⟩ := hrel k j r x hk hx
                exact ⟨cv, a, b.mono s1.le (Ext.refl σ)⟩)
          refine ⟨R2, out, ?_, s1.trans h2 (Nat.le_refl _), by rw [h3, splC_size], by rw [h4]; simp, h5, h6⟩
          unfold Instr.fill
          have hsz1 : qv.cells.size = size := by simpa using hql
          have hcond' : (decide (qv.cells.size ≠ size) || decide (i * size + qv.cells.size > cells.size)) = false := by
            have : ¬ (i * size + qv.cells.size > cells.size) := by simp at hfit; omega
            simp [hsz1]
            omega
          simp only []
          rw [if_neg (by rw [hcond']; simp)]
          have hfold : qv.cells.zipIdx.foldl (fun cs (x : Value × Nat) => cs.setIfInBounds (i * size + x.2) x.1) cells = splC cells (i * size) qv.cells.toList := by
            rw [← Array.foldl_toList, Array.toList_zipIdx, fold_splC]
            rfl
          rw [hfold]
          exact h1
        · cases h
      · cases h

theorem vBuildSlice_run (hI : Inv wl B0 w0 R σ H w) {t : TypeId} {len : Nat} {parts : List (Nat × V)} {cparts : Array (Nat × Value)} {v : V} {H' : Hp} (h : vBuildSlice P wl t len parts H = some (v, H'))
    (hl : parts.length = cparts.toList.length)
    (hp : ∀ (i : Nat) (p : Nat × V) (q : Nat × Value), parts[i]? = some p → cparts.toList[i]? = some q → p.1 = q.1 ∧ RelV R σ p.2 q.2) :
    ∃ cv w' R' σ', (Instr.buildSlice t len cparts).run P w = .ok cv w' ∧ Stp (TB B0) wl B0 w0 R σ w R' σ' H' w' ∧ RelV R' σ' v cv ∧ w.heap.size ≤ w'.heap.size := by
  unfold vBuildSlice at h
  split at h
  · cases h
  · rename_i e he
    have hte := elemT_some he
    split at h
    · rename_i z hz
      split at h
      · rename_i hcond
        obtain ⟨hsz, hsmall, ho, hzl⟩ := hcond
        simp only [Option.bind_eq_some_iff] at h
        obtain ⟨p, hpz, e1⟩ := h
        cases e1
        obtain ⟨i, hi, hiz⟩ := zeroOf_some hz
        have hisz : i.size = szOf P e := by simp [szOf, Program.cellsOf, hi]
        obtain ⟨hr1, hr2⟩ := zero_rows (R := R) (σ := σ) (n := len) ho hzl hsz
        obtain ⟨R', out, h1, h2, h3, h4, h5, h6⟩ := fillR_run hsz hI hpz hl hp (cells := madeCells z.cells (len * szOf P e)) (by rw [size_madeCells]; simp) hr1 hr2
        have hrun : (Instr.buildSlice t len cparts).run P w = .ok (.slice (some ⟨w.heap.size, 0, none⟩) len len) (w.alloc (.cells out e)) := by
          by_cases h0 : len = 0
          · subst h0
            have hp0 : parts = [] := by
              cases parts with
              | nil => rfl
              | cons q qs =>
                obtain ⟨k, x⟩ := q
                exfalso
                unfold fillR at hpz
                split at hpz
                · simp at hpz
                · cases hpz
            subst hp0
            have hc0 : cparts = #[] := by
              have : cparts.toList = [] := by
                cases hq : cparts.toList with
                | nil => rfl
                | cons a b => rw [hq] at hl; simp at hl
              simpa using this
            subst hc0
            have hm : madeCells z.cells (0 * szOf P e) = #[] := by simp [madeCells]
            rw [hm] at h1
            cases h1
            simp [Instr.buildSlice, run_underlying hte, sizeOf, typeInfo, hi, newRow, Instr.fill]
            congr 2
            exact Array.eq_empty_of_size_eq_zero (by simp)
          · exact run_buildSlice w t e len cparts out i z hte hi hiz (by rw [hisz]; omega) (by rw [hisz]; intro h; rcases Nat.mul_eq_zero.1 h with h | h <;> omega) (by rw [hisz]; exact h1)
        let s' : Sg := ⟨some w.heap.size, 0, szOf P e, out.size, false⟩
        have hpush := h2.inv.push_stp (T := TB B0) (w' := w.alloc (.cells out e)) (b := .rows (szOf P e) p.1 0 true) (s := s') (Below.one_alloc _ _) (fun k hk => by cases hk; exact ⟨Nat.le_refl _, by simp⟩)
          ⟨rfl, rfl, fun _ => hsz, h5, out, e, alloc_new w _, rfl, fun i j r x a b => let ⟨cv, c, d⟩ := h6 i j r x a b; ⟨cv, c, d.mono (RoLe.refl _) (Ext.append σ _)⟩, fun o ho => absurd (h2.inv.ro_new o) ho⟩
        refine ⟨_, _, R', _, hrun, h2.trans hpush (Nat.le_refl _), ?_, by simp⟩
        refine .own _ _ _ _ _ _ s' (by rw [← h2.inv.len]; simp) rfl (Nat.le_refl _) (fun _ => ⟨rfl, (fun hb => by cases hb), fun b hb => by cases hb; exact ⟨rfl, Nat.le_refl _, by show len * szOf P e ≤ out.size; rw [h3, size_madeCells]; exact Nat.le_refl _⟩⟩)
      · cases h
    · cases h


theorem keyKind_some {kk : IntKind} {v : Value} (h : keyKind kk v = true) : ∃ a, v = .int kk a := by
  unfold keyKind at h
  split at h
  · rename_i k a
    have : k = kk := by simpa using h
    subst this
    exact ⟨a, rfl⟩
  · cases h

/-- A map's entries, as they lie. -/
def RelE (R : Ro) (σ : List Sg) (es : List (Value × V)) (ents : List MapEntry) : Prop :=
  ents.length = es.length ∧ ∀ (i : Nat) (e : Value × V), es[i]? = some e → ∃ m, ents[i]? = some m ∧ m.key = e.1 ∧ RelV R σ e.2 m.val

theorem RelE.uncons {e : Value × V} {es : List (Value × V)} {ents : List MapEntry} (h : RelE R σ (e :: es) ents) : ∃ m l, ents = m :: l ∧ m.key = e.1 ∧ RelV R σ e.2 m.val ∧ RelE R σ es l := by
  obtain ⟨m, h1, h2, h3⟩ := h.2 0 e rfl
  cases ents with
  | nil => simp at h1
  | cons m' l =>
    simp at h1
    subst h1
    exact ⟨_, _, rfl, h2, h3, by have := h.1; simpa using this, fun i e he => by simpa using h.2 (i + 1) e (by simpa using he)⟩

theorem RelE.cons {e : Value × V} {es : List (Value × V)} {m : MapEntry} {l : List MapEntry} (h1 : m.key = e.1) (h2 : RelV R σ e.2 m.val) (h : RelE R σ es l) : RelE R σ (e :: es) (m :: l) :=
  ⟨by have := h.1; simp; exact this, fun i x hx => by
    cases i with
    | zero => simp at hx; subst hx; exact ⟨m, rfl, h1, h2⟩
    | succ i => simpa using h.2 i x (by simpa using hx)⟩

/-- Where a key stands. -/
theorem findNow_rel {kk q : IntKind} {n : Int} {v : V} {cv : Value} (hv : RelV R σ v cv) (b : Nat) : ∀ {es : List (Value × V)} {ents : List MapEntry} (k0 : Nat), RelE R σ es ents → es.all (fun e => keyKind kk e.1) = true →
    (∃ i val, Instr.findNow (.int q) (.int kk n) ents k0 = some (some (k0 + i, val)) ∧ (∃ m, ents[i]? = some m ∧ m.key = .int kk n) ∧
      RelE R σ (mapPut (.int kk n) v es) (ents.modify i fun e => { e with key := .int kk n, val := cv }) ∧ (∀ z, ∃ x, mapGet (.int kk n) z es = (x, true) ∧ RelV R σ x val)) ∨
    (Instr.findNow (.int q) (.int kk n) ents k0 = some none ∧ RelE R σ (mapPut (.int kk n) v es) (ents ++ [{ key := .int kk n, val := cv, born := b }]) ∧ (∀ z, mapGet (.int kk n) z es = (z, false)))
  | [], ents, k0, h, _ => by
    have : ents = [] := by have := h.1; cases ents <;> first | rfl | simp at this
    subst this
    exact .inr ⟨rfl, RelE.cons rfl hv ⟨rfl, fun i e he => by simp at he⟩, fun z => rfl⟩
  | e :: es, ents, k0, h, hk => by
    obtain ⟨m, l, rfl, h1, h2, h3⟩ := h.uncons
    simp only [List.all_cons, Bool.and_eq_true] at hk
    obtain ⟨a, ha⟩ := keyKind_some hk.1
    have hkey : m.key = .int kk a := by rw [h1, ha]
    obtain ⟨ek, ev⟩ := e
    simp only at ha h1 h2
    subst ha
    by_cases hna : n = a
    · subst hna
      refine .inl ⟨0, m.val, ?_, ⟨m, rfl, hkey⟩, ?_, fun z => ⟨ev, ?_, h2⟩⟩
      · simp [Instr.findNow, Instr.sameNow, hkey]
      · simp only [mapPut, keyEq, beq_self_eq_true, Bool.and_self, if_true]
        simp only [List.modify_zero_cons]
        exact RelE.cons rfl hv h3
      · simp [mapGet, keyEq]
    · have hke : keyEq (.int kk n) (.int kk a) = false := by simp [keyEq, hna]
      have hnb : (n == a) = false := by simpa using hna
      rcases findNow_rel (q := q) (n := n) hv b (k0 + 1) h3 hk.2 with ⟨i, val, g1, ⟨m', g2, g3⟩, g4, g5⟩ | ⟨g1, g2, g3⟩
      · refine .inl ⟨i + 1, val, ?_, ⟨m', by simpa using g2, g3⟩, ?_, fun z => ?_⟩
        · have : k0 + (i + 1) = k0 + 1 + i := by omega
          rw [this]
          simp [Instr.findNow, Instr.sameNow, hkey, hnb, g1]
        · simp only [mapPut, hke, Bool.false_eq_true, if_false, List.modify_succ_cons]
          exact RelE.cons h1 h2 g4
        · obtain ⟨x, a1, a2⟩ := g5 z
          exact ⟨x, by simp only [mapGet, hke, cond_false]; exact a1, a2⟩
      · refine .inr ⟨?_, ?_, fun z => ?_⟩
        · simp [Instr.findNow, Instr.sameNow, hkey, hnb, g1]
        · simp only [mapPut, hke, Bool.false_eq_true, if_false, List.cons_append]
          exact RelE.cons h1 h2 g2
        · simp only [mapGet, hke, cond_false]; exact g3 z

theorem map_inv {id : Nat} {cv : Value} (h : RelV R σ (.map id) cv) : ∃ r s, cv = .map r ∧ σ[id]? = some s ∧ s.hole = false ∧ (s.gen = 0 → s.blk = r ∧ r.isSome = true) := by
  cases h with
  | map _ r s h1 h2 h3 => exact ⟨r, s, rfl, h1, h2, h3⟩

theorem checkKey_run {kt : TypeId} {kk q : IntKind} {n : Int} (em : Bool) (d : Nat) (h : P.underlying kt = some (.int q)) : (Instr.checkKey em (d + 1) kt (.int kk n)).run P w = .ok () w := by
  simp only [Instr.checkKey, Sem.run_bind, run_underlying h, Result.andThen_ok]
  rfl

theorem vLookup_run (hI : Inv wl B0 w0 R σ H w) {t : TypeId} {m k v : V} {cm ck : Value} {ok : Bool} (h : vLookup P t m k ok H = some v) (hm : RelV R σ m cm) (hk : RelV R σ k ck) :
    ∃ cv, (Instr.lookup t cm ck ok).run P w = .ok cv w ∧ RelV R σ v cv := by
  unfold vLookup at h
  split at h
  · rename_i kt et hu
    split at h
    · rename_i hkk
      obtain ⟨q, hq⟩ := Option.isSome_iff_exists.1 hkk
      have hku := kindT_some hq
      split at h
      · rename_i z id kk n hz
        split at h
        · rename_i es hb
          split at h
          · rename_i hcond
            simp only [Bool.and_eq_true, beq_iff_eq] at hcond
            obtain ⟨hall, hkind⟩ := hcond
            cases h
            have ek := hk.lit_inv
            subst ek
            obtain ⟨r, s, rfl, hs, hh, hl⟩ := map_inv hm
            obtain ⟨hgen, b, ents, clock, hblk, hheap, hsz, hent⟩ := hI.blk id _ s hb hs hh
            obtain ⟨hr, _⟩ := hl hgen
            rw [hblk] at hr
            subst hr
            have hE : RelE R σ es ents.toList := ⟨by simpa using hsz, fun i e he => by simpa using hent i e he⟩
            have hget : (getObj b).run P w = .ok (.map ents clock) w := by simp [getObj, Sem.run, hheap]
            have hck := checkKey_run (P := P) (w := w) (kk := kk) (n := n) ents.isEmpty 9999 hku
            rcases findNow_rel (q := q) (n := n) (RelV.junk (R := R) (σ := σ) undef) 0 0 hE hall with ⟨i, val, g1, _, _, g5⟩ | ⟨g1, _, g3⟩
            · obtain ⟨x, a1, a2⟩ := g5 (constV z)
              have hfk : (Instr.findKey kt (.int kk n) ents.toList).run P w = .ok (some (0 + i, val)) w := by
                simp only [Instr.findKey, Sem.run_bind, run_underlying hku, Result.andThen_ok, g1]
                rfl
              cases ok
              · refine ⟨val, ?_, by simp only [cond_false, a1]; exact a2⟩
                simp only [Instr.lookup, Sem.run_bind, run_underlying hu, Result.andThen_ok, hget, Sem.run_pure, hck, hfk]
                rfl
              · refine ⟨.tuple #[val, .bool true], ?_, ?_⟩
                · simp only [Instr.lookup, Sem.run_bind, run_underlying hu, Result.andThen_ok, hget, Sem.run_pure, hck, hfk]
                  rfl
                · simp only [cond_true, a1]
                  have : RelA R σ [x, .lit (.bool true)] #[val, .bool true] := a2.cons ((RelV.lit (.bool true)).cons (RelA.nil R σ))
                  exact .tup _ _ this.1 this.2
            · have hfk : (Instr.findKey kt (.int kk n) ents.toList).run P w = .ok none w := by
                simp only [Instr.findKey, Sem.run_bind, run_underlying hku, Result.andThen_ok, g1]
                rfl
              have hzr := run_zero (P := P) (w := w) hz
              cases ok
              · refine ⟨z, ?_, by simp only [cond_false, g3]; exact constV_rel z⟩
                simp only [Instr.lookup, Sem.run_bind, run_underlying hu, Result.andThen_ok, hget, Sem.run_pure, hck, hfk, hzr]
                rfl
              · refine ⟨.tuple #[z, .bool false], ?_, ?_⟩
                · simp only [Instr.lookup, Sem.run_bind, run_underlying hu, Result.andThen_ok, hget, Sem.run_pure, hck, hfk, hzr]
                  rfl
                · simp only [cond_true, g3]
                  have : RelA R σ [constV z, .lit (.bool false)] #[z, .bool false] := (constV_rel z).cons ((RelV.lit (.bool false)).cons (RelA.nil R σ))
                  exact .tup _ _ this.1 this.2
          · cases h
        · cases h
      · cases h
    · cases h
  · cases h

theorem vInsert_run (hI : Inv wl B0 w0 R σ H w) {t : TypeId} {m k v : V} {cm ck cv : Value} {H' : Hp} (h : vInsert P wl t m k v H = some H') (hm : RelV R σ m cm) (hk : RelV R σ k ck) (hv : RelV R σ v cv) :
    ∃ w', (Instr.mapUpdate t cm ck cv).run P w = .ok () w' ∧ Stp (TB B0) wl B0 w0 R σ w R σ H' w' ∧ w'.heap.size = w.heap.size := by
  unfold vInsert at h
  split at h
  · rename_i kt et hu
    split at h
    · rename_i hkk
      obtain ⟨q, hq⟩ := Option.isSome_iff_exists.1 hkk
      have hku := kindT_some hq
      split at h
      · rename_i id kk n
        split at h
        · rename_i es hb
          split at h
          · rename_i hcond
            simp only [Bool.and_eq_true, beq_iff_eq] at hcond
            obtain ⟨⟨hall, hkind⟩, hwl⟩ := hcond
            have hwl : wl ≤ id := Nat.le_of_ble_eq_true hwl
            cases h
            have ek := hk.lit_inv
            subst ek
            obtain ⟨r, s, rfl, hs, hh, hl⟩ := map_inv hm
            obtain ⟨hgen, b, ents, clock, hblk, hheap, hsz, hent⟩ := hI.blk id _ s hb hs hh
            obtain ⟨hr, _⟩ := hl hgen
            rw [hblk] at hr
            subst hr
            have hB : B0 ≤ b := hI.ge id _ s b hwl hb rfl hs hblk
            have hbl : b < w.heap.size := hI.lt id _ s b hb rfl hs hblk
            have hE : RelE R σ es ents.toList := ⟨by simpa using hsz, fun i e he => by simpa using hent i e he⟩
            have hget : (getObj b).run P w = .ok (.map ents clock) w := by simp [getObj, Sem.run, hheap]
            have hck := checkKey_run (P := P) (w := w) (kk := kk) (n := n) false 9999 hku
            have fin : ∀ (ents' : Array MapEntry) (clock' : Nat), (Instr.mapUpdate t (.map (some b)) (.int kk n) cv).run P w = .ok () (w.putObj b (.map ents' clock')) → RelE R σ (mapPut (.int kk n) v es) ents'.toList →
                ∃ w', (Instr.mapUpdate t (.map (some b)) (.int kk n) cv).run P w = .ok () w' ∧ Stp (TB B0) wl B0 w0 R σ w R σ (H.set id (.map (mapPut (.int kk n) v es))) w' ∧ w'.heap.size = w.heap.size := by
              intro ents' clock' hrun hE'
              have hset := hI.set (R' := R) (w' := w.putObj b (.map ents' clock')) (b' := .map (mapPut (.int kk n) v es)) (s' := s) hb rfl hs hh hwl (SgLe.refl s) (fun k hk => .inl hk)
                ⟨rfl, rfl, rfl, by simp [World.putObj], fun k hk => World.putObj_heap_other (by omega)⟩ (by simp [World.putObj])
                (fun k _ hk => World.putObj_heap_other (fun e => hk (by rw [e]; exact hblk))) (RoLe.refl R) (fun _ _ h => .inl h)
                (fun k o u hu' hk => by
                  rw [hblk] at hk; cases hk
                  have := hI.ro b o u hu'
                  simp [World.cell?, hheap] at this)
                ⟨hgen, b, ents', clock', hblk, World.putObj_heap_same hbl, by simpa using hE'.1, fun i e he => by
                  rw [set_self_eq hs]
                  obtain ⟨m, a1, a2, a3⟩ := hE'.2 i e he
                  exact ⟨m, by simpa using a1, a2, a3⟩⟩
              rw [set_self_eq hs] at hset
              exact ⟨_, hrun, hset.widen (fun k hk => by rw [hblk] at hk; cases hk; exact hB), by simp [World.putObj]⟩
            have hput : ∀ o : Obj, (setObj b o).run P w = .ok () (w.putObj b o) := by
              intro o
              simp [setObj, Sem.run, hheap, World.putObj]
            rcases findNow_rel (q := q) (n := n) hv clock 0 hE hall with ⟨i, val, g1, ⟨m', g2, g3⟩, g4, _⟩ | ⟨g1, g2, _⟩
            · have hfk : (Instr.findKey kt (.int kk n) ents.toList).run P w = .ok (some (0 + i, val)) w := by
                simp only [Instr.findKey, Sem.run_bind, run_underlying hku, Result.andThen_ok, g1]
                rfl
              have hold : ((ents[0 + i]?).map (·.key)).getD (.int kk n) = .int kk n := by
                rw [Nat.zero_add]
                have : ents[i]? = some m' := by simpa using g2
                simp [this, g3]
              have hks : (Instr.keyThatStays (.int kk n) (.int kk n)).run P w = .ok (.int kk n) w := by
                simp [Instr.keyThatStays, Instr.sameBits]
              refine fin (ents.modify (0 + i) fun e => { e with key := .int kk n, val := cv }) clock ?_ ?_
              · simp only [Instr.mapUpdate, Sem.run_bind, run_underlying hu, Result.andThen_ok, hget, hck, hfk, hold, hks, hput]
              · rw [Nat.zero_add]
                simpa using g4
            · have hfk : (Instr.findKey kt (.int kk n) ents.toList).run P w = .ok none w := by
                simp only [Instr.findKey, Sem.run_bind, run_underlying hku, Result.andThen_ok, g1]
                rfl
              refine fin (ents.push { key := .int kk n, val := cv, born := clock }) (clock + 1) ?_ ?_
              · simp only [Instr.mapUpdate, Sem.run_bind, run_underlying hu, Result.andThen_ok, hget, hck, hfk, hput]
              · simpa using g2
          · cases h
        · cases h
      · cases h
    · cases h
  · cases h

end ops
end Go.Ab
