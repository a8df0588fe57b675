/- Reading memory: loads, fields, indexes, lengths, slices. -/
import Derived.Test.YtecgfaaaloameaaAbOps
namespace Go.Ab
open Go.RowKit
section ops
variable {P : Program} {wl B0 : Nat} {w0 : World} {R : Ro} {σ : List Sg} {H : Hp} {w : World}

theorem aggT_some {t : TypeId} {b : Bool} (h : aggT P t = some b) : (isAgg t).run P w = .ok b w ∧ ∃ i, P.info? t = some i := by
  unfold aggT at h
  have inf : ∀ d, P.underlying t = some d → ∃ i, P.info? t = some i := by
    intro d hd
    cases hi : P.info? t with
    | none => simp [Program.underlying, hi] at hd
    | some i => exact ⟨i, rfl⟩
  split at h
  · rename_i hu; cases h; exact ⟨by simp [isAgg, run_underlying hu], inf _ hu⟩
  · rename_i hu; cases h; exact ⟨by simp [isAgg, run_underlying hu], inf _ hu⟩
  · rename_i d h1 h2 hu
    cases h
    refine ⟨?_, inf _ hu⟩
    simp only [isAgg, Sem.run_bind, run_underlying hu, Result.andThen_ok]
    cases d <;> first | rfl | (exact absurd rfl (h1 _)) | (exact absurd rfl (h2 _ _))
  · cases h

theorem szOf_info {t : TypeId} (h : szOf P t ≠ 0) : ∃ i, P.info? t = some i ∧ i.size = szOf P t := by
  unfold szOf Program.cellsOf at *
  cases hi : P.info? t with
  | none => simp [hi] at h
  | some i => exact ⟨i, rfl, by simp⟩

theorem run_size {t : TypeId} {i : TypeInfo} (h : P.info? t = some i) : (sizeOf t).run P w = .ok (szOf P t) w := run_sizeOf w h

theorem onesL_get {l : List V} (h : onesL l = true) {i : Nat} {x : V} (hx : l[i]? = some x) : x.one = true := by
  rw [onesL, List.all_eq_true] at h
  exact h x (List.mem_of_getElem? hx)

theorem onesL_take {l : List V} (n : Nat) (h : onesL l = true) : onesL (l.take n) = true := by
  rw [onesL, List.all_eq_true] at *
  exact fun x hx => h x (List.mem_of_mem_take hx)
theorem onesL_drop {l : List V} (n : Nat) (h : onesL l = true) : onesL (l.drop n) = true := by
  rw [onesL, List.all_eq_true] at *
  exact fun x hx => h x (List.mem_of_mem_drop hx)
theorem pureL_drop {l : List V} (n : Nat) (h : pureL l = true) : pureL (l.drop n) = true := by
  rw [pureL_iff] at *
  exact fun x hx => h x (List.mem_of_mem_drop hx)

/-- A variable's value, out of the cells at its place. -/
theorem ld_run {t : TypeId} {cs : List V} {v : V} {b o : Nat} (vals : Nat → Value) (h : ldCells P t cs = some v) (ho : onesL cs = true)
    (hv : ∀ j x, cs[j]? = some x → RelV R σ x (vals j)) (hc : ∀ (j : Nat) (x : V), cs[j]? = some x → w.cell? ⟨b, o + j, none⟩ = some (vals j)) :
    ∃ cv, (loadVar t ⟨b, o, none⟩).run P w = .ok cv w ∧ RelV R σ v cv := by
  unfold ldCells at h
  split at h
  · rename_i ha
    obtain ⟨hr, i, hi⟩ := aggT_some (P := P) (w := w) ha
    split at h
    · rename_i hl
      cases h
      have hld := run_loadCells (P := P) w ⟨b, o, none⟩ (szOf P t) vals (fun j hj => by
        rw [add_plain']
        obtain ⟨x, hx⟩ : ∃ x, cs[j]? = some x := ⟨cs[j]'(by omega), by simp [show j < cs.length by omega]⟩
        exact hc j x hx)
      refine ⟨.agg ((List.range (szOf P t)).map vals).toArray, ?_, .agg _ _ (by simp; omega) (onesL_take _ ho) (fun j x hx => ?_)⟩
      · simp only [loadVar, Sem.run_bind, hr, Result.andThen_ok, if_true, run_size hi, hld, Sem.run_pure]
      · have hj : j < szOf P t := by
          have := (List.getElem?_eq_some_iff.1 hx).1
          simp at this; omega
        rw [List.getElem?_take, if_pos hj] at hx
        have := hv j x hx
        simpa [hj] using this
    · cases h
  · rename_i ha
    obtain ⟨hr, i, hi⟩ := aggT_some (P := P) (w := w) ha
    have hx : cs[0]? = some v := by rw [← h]; cases cs <;> rfl
    have hcell := hc 0 v hx
    rw [Nat.add_zero] at hcell
    refine ⟨vals 0, ?_, hv 0 v hx⟩
    simp only [loadVar, Sem.run_bind, hr, Result.andThen_ok, Bool.false_eq_true, if_false, run_load, hcell]
  · cases h

theorem cell_of_block {b o : Nat} {arr : Array Value} {e : TypeId} {fz : Nat × Nat} (h : w.heap[b]? = some (.cells arr e fz)) : w.cell? ⟨b, o, none⟩ = arr[o]? := by
  simp [World.cell?, h]

/-- What is known of a live reference. -/
theorem ptr_inv {id g row off : Nat} {cv : Value} (h : RelV R σ (.ptr id g row off) cv) : ∃ p s, cv = .pointer (some p) ∧ σ[id]? = some s ∧ s.hole = false ∧ g ≤ s.gen ∧
    (g = s.gen → ∃ b, s.blk = some b ∧ p = ⟨b, row * s.esz + off, none⟩) := by
  cases h with
  | ptr _ _ _ _ p s h1 h2 h3 h4 => exact ⟨p, s, rfl, h1, h2, h3, h4⟩

theorem own_inv {id g len : Nat} {cv : Value} (h : RelV R σ (.own id g len) cv) : ∃ A l c s, cv = .slice A l c ∧ σ[id]? = some s ∧ s.hole = false ∧ g ≤ s.gen ∧
    (g = s.gen → l = len ∧ (s.blk = none → len = 0 ∧ c = 0) ∧ (∀ b, s.blk = some b → A = some ⟨b, 0, none⟩ ∧ len ≤ c ∧ c * s.esz ≤ s.cap)) := by
  cases h with
  | own _ _ _ A l c s h1 h2 h3 h4 => exact ⟨A, l, c, s, rfl, h1, h2, h3, h4⟩

theorem vLoad_run (hI : Inv wl B0 w0 R σ H w) {t : TypeId} {a v : V} {ca : Value} (h : vLoad P t a H = some v) (ha : RelV R σ a ca) :
    ∃ cv, (Instr.loadAt t ca).run P w = .ok cv w ∧ RelV R σ v cv := by
  unfold vLoad at h
  split at h
  · rename_i cs
    cases ha with
    | rp _ b off vals hp ho hv hR =>
      obtain ⟨cv, h1, h2⟩ := ld_run (w := w) vals h ho hv (fun j x hx => hI.ro _ _ _ (hR j x hx))
      exact ⟨cv, by simp only [Instr.loadAt, Instr.sureAddr, Sem.run_bind, Sem.run_pure, Result.andThen_ok, h1], h2⟩
  · rename_i id g row off
    obtain ⟨p, s, rfl, hs, hh, hg, hl⟩ := ptr_inv ha
    split at h
    · rename_i cs hb
      split at h
      · rename_i hc
        obtain ⟨rfl, rfl⟩ := hc
        obtain ⟨hgen, ho, b, arr, e, hblk, hheap, hrel, _⟩ := hI.blk id _ s hb hs hh
        obtain ⟨b', hb', rfl⟩ := hl hgen.symm
        rw [hblk] at hb'
        cases hb'
        obtain ⟨cv, h1, h2⟩ := ld_run (w := w) (R := R) (σ := σ) (b := b) (o := off) (fun j => arr.getD (off + j) undef) h (onesL_drop _ ho)
          (fun j x hx => hrel.2 (off + j) x (by rw [List.getElem?_drop] at hx; exact hx))
          (fun j x hx => by
            rw [List.getElem?_drop] at hx
            obtain ⟨u, hu, _⟩ := hrel.get hx
            rw [cell_of_block hheap, hu]
            simp [hu])
        exact ⟨cv, by simp only [Instr.loadAt, Instr.sureAddr, Sem.run_bind, Sem.run_pure, Result.andThen_ok, Nat.zero_mul, Nat.zero_add, h1], h2⟩
      · cases h
    · rename_i esz rs g' live hb
      split at h
      · rename_i hg'
        subst hg'
        simp only [Option.bind_eq_some_iff] at h
        obtain ⟨r, hr, h⟩ := h
        obtain ⟨hgen, hesz, _, hrow, hm⟩ := hI.blk id _ s hb hs hh
        obtain ⟨b, hblk, rfl⟩ := hl hgen.symm
        rw [hblk] at hm
        obtain ⟨arr, e, hheap, hcap, hcell, _⟩ := hm
        have hones := (hrow r (List.mem_of_getElem? hr)).2
        obtain ⟨cv, h1, h2⟩ := ld_run (w := w) (R := R) (σ := σ) (b := b) (o := row * esz + off) (fun j => arr.getD (row * esz + (off + j)) undef) h (onesL_drop _ hones)
          (fun j x hx => by
            rw [List.getElem?_drop] at hx
            obtain ⟨u, hu, hrel⟩ := hcell row (off + j) r x hr hx
            simpa [hu] using hrel)
          (fun j x hx => by
            rw [List.getElem?_drop] at hx
            obtain ⟨u, hu, hrel⟩ := hcell row (off + j) r x hr hx
            rw [cell_of_block hheap, show row * esz + off + j = row * esz + (off + j) by omega, hu]
            simp [hu])
        exact ⟨cv, by simp only [Instr.loadAt, Instr.sureAddr, Sem.run_bind, Sem.run_pure, Result.andThen_ok, hesz, h1], h2⟩
      · cases h
    · cases h
  · cases h

theorem vNil_run {x v : V} {cx : Value} {o : Oper} {ox : Operand} {ρ : Operand → Value} (ho : o.op = .nilCheck ox) (hI : Inv wl B0 w0 R σ H w) (h : vNil x H = some v) (hx : RelV R σ x (ρ ox)) (hcx : ρ ox = cx) :
    (execOp ρ o).run P w = .ok (.value cx) w ∧ v = x := by
  subst hcx
  have fin : ∀ p, ρ ox = .pointer (some p) → (execOp ρ o).run P w = .ok (.value (ρ ox)) w := by
    intro p hp
    simp only [execOp, ho, hp, Sem.run_pure]
  unfold vNil at h
  split at h
  · cases h
    generalize hc : ρ ox = c at hx
    cases hx
    exact ⟨by rw [← hc]; exact fin _ hc, rfl⟩
  · rename_i f a b
    split at h
    · cases h
      generalize hc : ρ ox = c at hx
      cases hx
      exact ⟨by simp only [execOp, ho, hc, Sem.run_pure], rfl⟩
    · cases h
  · rename_i id g row off
    obtain ⟨p, s, hp, hs, hh, hg, hl⟩ := ptr_inv hx
    split at h
    · rename_i cs hb
      split at h
      · rename_i hg0
        cases h
        obtain ⟨hgen, _, b, arr, e, hblk, _⟩ := hI.blk id _ s hb hs hh
        obtain ⟨b', _, rfl⟩ := hl (by omega)
        exact ⟨fin _ hp, rfl⟩
      · cases h
    · rename_i hb
      split at h
      · rename_i hg0
        cases h
        obtain ⟨hgen, hesz, _⟩ := hI.blk id _ s hb hs hh
        obtain ⟨b', _, rfl⟩ := hl (by omega)
        exact ⟨fin _ hp, rfl⟩
      · cases h
    · cases h
  · cases h

theorem fieldT_some {t : TypeId} {i : Nat} {f : Field} (h : fieldT P t i = some f) : ∃ fs, P.underlying t = some (.struct fs) ∧ fs[i]? = some f := by
  unfold fieldT at h
  split at h
  · rename_i fs hu; exact ⟨fs, hu, h⟩
  · cases h

theorem vFieldAddr_run {t : TypeId} {i : Nat} {x v : V} {cx : Value} (h : vFieldAddr P t x i = some v) (hx : RelV R σ x cx) :
    ∃ cv, (Instr.fieldAt t cx i).run P w = .ok cv w ∧ RelV R σ v cv := by
  unfold vFieldAddr at h
  split at h
  · rename_i f hf
    obtain ⟨fs, hu, hfi⟩ := fieldT_some hf
    split at h
    · cases h
    · rename_i hsz
      obtain ⟨ti, hti, _⟩ := szOf_info hsz
      have hplace : ∀ a : Addr, (fieldPlace a f).run P w = .ok (a.add f.offset) w := by
        intro a
        simp only [fieldPlace, Sem.run_bind, run_size hti, Result.andThen_ok, if_neg hsz, Sem.run_pure]
      have hrun : ∀ a : Addr, (Instr.fieldAt t (.pointer (some a)) i).run P w = .ok (.pointer (some (a.add f.offset))) w := by
        intro a
        simp only [Instr.fieldAt, Sem.run_bind, run_underlying hu, Result.andThen_ok, hfi, Instr.sureAddr, Sem.run_pure, hplace]
      split at h
      · rename_i cs
        cases h
        cases hx with
        | rp _ b off vals hp ho hv hR =>
          refine ⟨_, hrun _, ?_⟩
          rw [add_plain']
          refine .rp _ b _ (fun j => vals (f.offset + j)) (pureL_drop _ hp) (onesL_drop _ ho) (fun j y hy => ?_) (fun j y hy => ?_)
          · rw [List.getElem?_drop] at hy; exact hv _ _ hy
          · rw [List.getElem?_drop] at hy; rw [Nat.add_assoc]; exact hR _ _ hy
      · rename_i id g row off
        cases h
        obtain ⟨p, s, rfl, hs, hh, hg, hl⟩ := ptr_inv hx
        refine ⟨_, hrun _, .ptr id g row _ _ s hs hh hg (fun e => ?_)⟩
        obtain ⟨b, hb, rfl⟩ := hl e
        exact ⟨b, hb, by rw [add_plain', Nat.add_assoc]⟩
      · cases h
  · cases h

/-- A part of an aggregate. -/
theorem part_run {t : TypeId} {cs : List V} {vs : Array Value} {off : Nat} {v : V} (h : ldCells P t (cs.drop off) = some v) (ho : onesL cs = true) (hr : RelA R σ cs vs) :
    ∃ cv, (part t vs off).run P w = .ok cv w ∧ RelV R σ v cv := by
  unfold ldCells at h
  split at h
  · rename_i ha
    obtain ⟨hag, i, hi⟩ := aggT_some (P := P) (w := w) ha
    split at h
    · rename_i hl
      cases h
      rw [List.length_drop] at hl
      refine ⟨.agg (vs.extract off (off + szOf P t)), ?_, .agg _ _ ?_ (onesL_take _ (onesL_drop _ ho)) (fun j x hx => ?_)⟩
      · simp only [part, Sem.run_bind, hag, Result.andThen_ok, if_true, run_size hi, Sem.run_pure]
      · have := hr.1
        simp; omega
      · have hj : j < szOf P t := by
          have := (List.getElem?_eq_some_iff.1 hx).1
          simp at this; omega
        rw [List.getElem?_take, if_pos hj, List.getElem?_drop] at hx
        obtain ⟨u, hu, hrel⟩ := hr.get hx
        have : (vs.extract off (off + szOf P t)).getD j undef = u := by
          have h3 : j < min (off + szOf P t) vs.size - off := by
            have := (Array.getElem?_eq_some_iff.1 hu).1
            omega
          rw [Array.getD_eq_getD_getElem?, Array.getElem?_extract, if_pos h3, hu]; rfl
        rw [this]; exact hrel
    · cases h
  · rename_i ha
    obtain ⟨hag, i, hi⟩ := aggT_some (P := P) (w := w) ha
    have hx : cs[off]? = some v := by
      rw [← h]
      cases hd : cs.drop off with
      | nil => rw [List.drop_eq_nil_iff] at hd; simp [hd]
      | cons y l => have := congrArg (fun l => l[0]?) hd; simp [List.getElem?_drop] at this; simp [this]
    obtain ⟨u, hu, hrel⟩ := hr.get hx
    refine ⟨u, ?_, hrel⟩
    simp only [part, Sem.run_bind, hag, Result.andThen_ok, Bool.false_eq_true, if_false, hu, Sem.run_pure]
  · cases h

theorem agg_inv {cs : List V} {cv : Value} (h : RelV R σ (.agg cs) cv) : ∃ vs, cv = .agg vs ∧ onesL cs = true ∧ RelA R σ cs vs := by
  cases h with
  | agg _ vs hl ho hh => exact ⟨vs, rfl, ho, hl, hh⟩

theorem vField_run {t : TypeId} {i : Nat} {x v : V} {cx : Value} (h : vField P t x i = some v) (hx : RelV R σ x cx) :
    ∃ cv, (Instr.field t cx i).run P w = .ok cv w ∧ RelV R σ v cv := by
  unfold vField at h
  split at h
  · rename_i f cs hf
    obtain ⟨fs, hu, hfi⟩ := fieldT_some hf
    obtain ⟨vs, rfl, ho, hr⟩ := agg_inv hx
    obtain ⟨cv, h1, h2⟩ := part_run (w := w) h ho hr
    exact ⟨cv, by simp only [Instr.field, Sem.run_bind, run_underlying hu, Result.andThen_ok, hfi, asAgg, Sem.run_pure, h1], h2⟩
  · cases h

theorem vIndex_run {t : TypeId} {x i v : V} {cx ci : Value} (h : vIndex P t x i = some v) (hx : RelV R σ x cx) (hi : RelV R σ i ci) :
    ∃ cv, (Instr.index t cx ci).run P w = .ok cv w ∧ RelV R σ v cv := by
  unfold vIndex at h
  split at h
  · rename_i k n cs
    cases hi
    obtain ⟨vs, rfl, ho, hr⟩ := agg_inv hx
    split at h
    · rename_i len e hu
      split at h
      · rename_i hn
        have hinfo : ∃ ti, P.info? e = some ti := by
          unfold ldCells at h
          split at h
          · rename_i ha; exact (aggT_some (P := P) (w := w) ha).2
          · rename_i ha; exact (aggT_some (P := P) (w := w) ha).2
          · cases h
        obtain ⟨ti, hti⟩ := hinfo
        obtain ⟨cv, h1, h2⟩ := part_run (w := w) h ho hr
        refine ⟨cv, ?_, h2⟩
        simp only [Instr.index, asIntOf, Sem.run_bind, Sem.run_pure, Result.andThen_ok, run_underlying hu, Sem.run_ite, if_pos hn, run_size hti, h1]
      · cases h
    · cases h
  · cases h

theorem vIndexAddr_run (hI : Inv wl B0 w0 R σ H w) {t : TypeId} {x i v : V} {cx ci : Value} (h : vIndexAddr P t x i H = some v) (hx : RelV R σ x cx) (hi : RelV R σ i ci) :
    ∃ cv, (Instr.indexAt t cx ci).run P w = .ok cv w ∧ RelV R σ v cv := by
  unfold vIndexAddr at h
  split at h
  · rename_i k n
    cases hi
    split at h
    · rename_i hn
      split at h
      · rename_i e hu
        have hrun : ∀ (a : Addr) (l c : Nat), n.toNat < l → szOf P e ≠ 0 → (Instr.indexAt t (.slice (some a) l c) (.int k n)).run P w = .ok (.pointer (some (a.add (n.toNat * szOf P e)))) w := by
          intro a l c hl hsz
          obtain ⟨ti, hti, _⟩ := szOf_info hsz
          have hb : 0 ≤ n ∧ n < (l : Int) := ⟨hn, by omega⟩
          simp only [Instr.indexAt, asIntOf, Sem.run_bind, Sem.run_pure, Result.andThen_ok, run_underlying hu, Sem.run_ite, if_pos hb, run_size hti]
        split at h
        · rename_i rows
          simp only [Option.bind_eq_some_iff] at h
          obtain ⟨r, hr, h⟩ := h
          split at h
          · rename_i hsz
            obtain ⟨hlen, hsz⟩ := hsz
            cases h
            have hlt := (List.getElem?_eq_some_iff.1 hr).1
            cases hx with
            | roNil A c => simp at hr
            | ro _ b off c esz vals hc hs hp ho hv hR =>
              have hesz : esz = szOf P e := by rw [← hs r (List.mem_of_getElem? hr), hlen]
              subst hesz
              refine ⟨_, hrun _ _ _ hlt hsz, ?_⟩
              rw [add_plain']
              refine .rp _ b _ (vals n.toNat) ?_ ?_ (fun j y hy => hv _ j r y hr hy) (fun j y hy => ?_)
              · exact (pureL_iff r).2 (fun y hy => by
                  obtain ⟨j, hj⟩ := List.mem_iff_getElem?.1 hy
                  exact pureR_get hp hr hj)
              · rw [List.all_eq_true] at ho
                exact ho r (List.mem_of_getElem? hr)
              · rw [Nat.add_assoc]; exact hR _ j r y hr hy
          · cases h
        · rename_i id g len
          split at h
          · rename_i s' rs g' live hb
            split at h
            · rename_i hcond
              obtain ⟨rfl, rfl, hsz⟩ := hcond
              split at h
              · rename_i hlt
                cases h
                obtain ⟨A, l, c, s, rfl, hs, hh, hg, hl⟩ := own_inv hx
                obtain ⟨hgen, hesz, _, hrow, hm⟩ := hI.blk id _ s hb hs hh
                obtain ⟨rfl, hnone, hsome⟩ := hl hgen.symm
                cases hblk : s.blk with
                | none => have := (hnone hblk).1; omega
                | some b =>
                  obtain ⟨rfl, hlc, _⟩ := hsome b hblk
                  refine ⟨_, hrun _ _ _ hlt hsz, .ptr id _ _ _ _ s hs hh hg (fun e => ⟨b, hblk, ?_⟩)⟩
                  rw [add_plain', hesz, Nat.zero_add, Nat.add_zero]
              · cases h
            · cases h
          · cases h
        · cases h
      · rename_i len e hu
        split at h
        · rename_i hcond
          obtain ⟨hlt, hsz⟩ := hcond
          obtain ⟨ti, hti, _⟩ := szOf_info hsz
          have hb : 0 ≤ n ∧ n < (len : Int) := ⟨hn, hlt⟩
          have hrun : ∀ (a : Addr), (Instr.indexAt t (.pointer (some a)) (.int k n)).run P w = .ok (.pointer (some (a.add (n.toNat * szOf P e)))) w := by
            intro a
            simp only [Instr.indexAt, asIntOf, Sem.run_bind, Sem.run_pure, Result.andThen_ok, run_underlying hu, Instr.sureAddr, Sem.run_ite, if_pos hb, run_size hti]
          split at h
          · rename_i id g row off
            cases h
            obtain ⟨p, s, rfl, hs, hh, hg, hl⟩ := ptr_inv hx
            refine ⟨_, hrun _, .ptr id g row _ _ s hs hh hg (fun e => ?_)⟩
            obtain ⟨b, hb, rfl⟩ := hl e
            exact ⟨b, hb, by rw [add_plain', Nat.add_assoc]⟩
          · rename_i cs
            cases h
            cases hx with
            | rp _ b off vals hp ho hv hR =>
              refine ⟨_, hrun _, ?_⟩
              rw [add_plain']
              refine .rp _ b _ (fun j => vals (n.toNat * szOf P e + j)) (pureL_drop _ hp) (onesL_drop _ ho) (fun j y hy => ?_) (fun j y hy => ?_)
              · rw [List.getElem?_drop] at hy; exact hv _ _ hy
              · rw [List.getElem?_drop] at hy; rw [Nat.add_assoc]; exact hR _ _ hy
          · cases h
        · cases h
      · cases h
    · cases h
  · cases h

theorem elemT_some {t e : TypeId} (h : elemT P t = some e) : P.underlying t = some (.slice e) := by
  unfold elemT at h
  split at h
  · rename_i q hq; cases h; exact hq
  · cases h

theorem vLen_run (hI : Inv wl B0 w0 R σ H w) {t ty e : TypeId} {x v : V} {cx : Value} (he : elemT P t = some e) (h : vLen x H = some v) (hx : RelV R σ x cx) :
    ∃ cv, (Builtin.len_ #[t] ty #[cx]).run P w = .ok cv w ∧ RelV R σ v cv := by
  have hu := elemT_some he
  have hrun : ∀ (A : Option Addr) (n c : Nat), (Builtin.len_ #[t] ty #[.slice A n c]).run P w = .ok (.int .i64 n) w := by
    intro A n c
    simp [Builtin.len_, run_underlying hu, goInt]
  unfold vLen at h
  split at h
  · rename_i rows
    cases h
    cases hx with
    | roNil A c => exact ⟨_, hrun _ _ _, .lit _⟩
    | ro _ b off c esz vals h1 h2 h3 h4 h5 h6 => exact ⟨_, hrun _ _ _, .lit _⟩
  · cases h
    cases hx
    exact ⟨_, hrun _ _ _, .lit _⟩
  · rename_i id g len
    split at h
    · rename_i sz rs g' live hb
      split at h
      · rename_i hg
        subst hg
        cases h
        obtain ⟨A, l, c, s, rfl, hs, hh, hg, hl⟩ := own_inv hx
        obtain ⟨hgen, _⟩ := hI.blk id _ s hb hs hh
        obtain ⟨rfl, _⟩ := hl hgen.symm
        exact ⟨_, hrun _ _ _, .lit _⟩
      · cases h
    · cases h
  · cases h

theorem vExtract_run {x v : V} {cx : Value} {i : Nat} (h : vExtract x i = some v) (hx : RelV R σ x cx) : ∃ cv, (Instr.extract cx i).run P w = .ok cv w ∧ RelV R σ v cv := by
  unfold vExtract at h
  split at h
  · cases hx with
    | tup _ vs hl hh =>
      have hr : RelA R σ _ vs := ⟨hl, hh⟩
      obtain ⟨u, hu, hrel⟩ := hr.get h
      exact ⟨u, by simp only [Instr.extract, hu, Sem.run_pure], hrel⟩
  · cases h

theorem vUn_run {op : UnOp} {x v : V} {cx : Value} (h : vUn op x = some v) (hx : RelV R σ x cx) : ∃ cv, (Op.unary op cx).run P w = .ok cv w ∧ RelV R σ v cv := by
  unfold vUn at h
  split at h
  · cases h; cases hx; exact ⟨_, rfl, .lit _⟩
  · cases h; cases hx; exact ⟨_, rfl, .lit _⟩
  · cases h

theorem vConv_run {src dst : TypeId} {x v : V} {cx : Value} (h : vConv P src dst x = some v) (hx : RelV R σ x cx) : ∃ cv, (convert src dst cx).run P w = .ok cv w ∧ RelV R σ v cv := by
  unfold vConv at h
  split at h
  · split at h
    · rename_i k hk
      split at h
      · rename_i hs
        cases h; cases hx
        obtain ⟨q, hq⟩ := Option.isSome_iff_exists.1 hs
        exact ⟨_, by simp only [convert, Sem.run_bind, run_underlying (kindT_some hq), run_underlying (kindT_some hk), Result.andThen_ok]; rfl, .lit _⟩
      · cases h
    · cases h
  · cases h

theorem vPick_run {c a b v : V} {cc ca cb : Value} (h : vPick c a b = some v) (hc : RelV R σ c cc) (ha : RelV R σ a ca) (hb : RelV R σ b cb) :
    ∃ t, cc = .bool t ∧ RelV R σ v (if t then ca else cb) := by
  unfold vPick at h
  split at h
  · rename_i t
    cases h
    cases hc
    refine ⟨t, rfl, ?_⟩
    cases t
    · exact hb
    · exact ha
  · cases h

theorem vMinMax_run {m : Bool} {ts : Array TypeId} {ty : TypeId} {args : List V} {cargs : Array Value} {v : V} (h : vMinMax m args = some v) (hx : RelA R σ args cargs) :
    ∃ cv, (if m then Builtin.max_ ts ty cargs else Builtin.min_ ts ty cargs).run P w = .ok cv w ∧ RelV R σ v cv := by
  unfold vMinMax at h
  split at h
  · rename_i k a k' b
    split at h
    · rename_i hk
      subst hk
      cases h
      obtain ⟨u0, hu0, r0⟩ := hx.get (i := 0) rfl
      obtain ⟨u1, hu1, r1⟩ := hx.get (i := 1) rfl
      have e0 := r0.lit_inv
      have e1 := r1.lit_inv
      subst e0 e1
      have hc : cargs = #[.int k a, .int k b] := by
        have hl := hx.1
        apply Array.ext_getElem?
        intro i
        match i with
        | 0 => simpa using hu0
        | 1 => simpa using hu1
        | i + 2 => rw [Array.getElem?_eq_none (by rw [hl]; simp)]; simp
      subst hc
      cases m
      · exact ⟨_, run_min_int2 w ts ty k k a b, .lit _⟩
      · exact ⟨_, run_max_int2 w ts ty k k a b, .lit _⟩
    · cases h
  · cases h

end ops
end Go.Ab
