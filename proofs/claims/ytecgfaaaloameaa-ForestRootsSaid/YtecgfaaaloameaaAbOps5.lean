/- Writing memory: stores, appends, literals of slices, maps; slice expressions. -/
import Derived.Test.YtecgfaaaloameaaAbOps4
namespace Go.Ab
open Go.RowKit
section ops
variable {P : Program} {wl B0 : Nat} {w0 : World} {R R' : Ro} {σ σ' : List Sg} {H : Hp} {w w' : World}

theorem setRow_below {k : Nat} {cs : Array Value} (hb : B0 ≤ k) : Below B0 w (w.setRow k cs) :=
  ⟨rfl, rfl, rfl, by simp [World.setRow], fun i hi => setRow_other w k i cs (by omega)⟩

theorem setRow_size (w : World) (k : Nat) (cs : Array Value) : (w.setRow k cs).heap.size = w.heap.size := by simp [World.setRow]

/-- Cells laid into a block. -/
theorem storeCells_run {b off : Nat} {arr : Array Value} {e : TypeId} (hh : w.heap[b]? = some (.cells arr e (0, 0))) : ∀ (l : List Value) (i : Nat) (arr : Array Value) (w : World), w.heap[b]? = some (.cells arr e (0, 0)) →
    off + i + l.length ≤ arr.size → (∀ v ∈ l, v.oneCell' = true) → (storeCells ⟨b, off, none⟩ l i).run P w = .ok () (w.setRow b (splC arr (off + i) l))
  | [], i, arr, w, hg, _, _ => by
    simp only [storeCells, splC]
    rw [setRow_self w b arr e (0, 0) hg]
    rfl
  | v :: rest, i, arr, w, hg, hl, h1 => by
    have hi : off + i < arr.size := by simp at hl; omega
    have hcell : w.cell? ⟨b, off + i, none⟩ = some arr[off + i] := by simp [World.cell?, hg, hi]
    have hfro : w.frozen? ⟨b, off + i, none⟩ = false := by simp [World.frozen?, hg]
    have hst : (store ((⟨b, off, none⟩ : Addr).add i) v).run P w = .ok () (w.setRow b (arr.setIfInBounds (off + i) v)) := by
      rw [add_plain', run_store P w _ v _ (h1 v (by simp)), hcell]
      simp [hfro, setCell_eq_setRow w b (off + i) arr e (0, 0) v hg]
    have ih := storeCells_run (b := b) (off := off) (e := e) hh rest (i + 1) (arr.setIfInBounds (off + i) v) (w.setRow b (arr.setIfInBounds (off + i) v)) (setRow_heap w b arr _ e _ hg) (by simp at hl ⊢; omega) (fun x hx => h1 x (by simp [hx]))
    simp only [storeCells, Sem.run_bind, hst, Result.andThen_ok, ih, setRow_setRow, splC]
    rfl

theorem spl_take : ∀ (xs cs : List V) (off j : Nat), off + xs.length ≤ cs.length → (spl cs off xs)[j]? = if off ≤ j ∧ j < off + xs.length then xs[j - off]? else cs[j]?
  | [], cs, off, j, _ => by
    simp only [spl, List.length_nil, Nat.add_zero]
    rw [if_neg (by omega)]
  | x :: xs, cs, off, j, h => by
    simp only [spl]
    simp only [List.length_cons] at h ⊢
    rw [spl_take xs (cs.set off x) (off + 1) j (by simp; omega)]
    by_cases h1 : off + 1 ≤ j ∧ j < off + 1 + xs.length
    · rw [if_pos h1, if_pos (by omega)]
      have : j - off = (j - (off + 1)) + 1 := by omega
      rw [this, List.getElem?_cons_succ]
    · rw [if_neg h1]
      by_cases h2 : j = off
      · subst h2
        rw [if_pos (by omega), List.getElem?_set_self (by omega)]
        simp
      · rw [List.getElem?_set_ne (by omega), if_neg (by omega)]

theorem splC_get : ∀ (l : List Value) (cs : Array Value) (off j : Nat), off + l.length ≤ cs.size → (splC cs off l)[j]? = if off ≤ j ∧ j < off + l.length then l[j - off]? else cs[j]?
  | [], cs, off, j, _ => by
    simp only [splC, List.length_nil, Nat.add_zero]
    rw [if_neg (by omega)]
  | x :: xs, cs, off, j, h => by
    simp only [splC]
    simp only [List.length_cons] at h ⊢
    rw [splC_get xs (cs.setIfInBounds off x) (off + 1) j (by simp; omega)]
    by_cases h1 : off + 1 ≤ j ∧ j < off + 1 + xs.length
    · rw [if_pos h1, if_pos (by omega)]
      have : j - off = (j - (off + 1)) + 1 := by omega
      rw [this, List.getElem?_cons_succ]
    · rw [if_neg h1]
      by_cases h2 : j = off
      · subst h2
        rw [if_pos (by omega)]
        simp [show j < cs.size by omega]
      · rw [Array.getElem?_setIfInBounds_ne (by omega), if_neg (by omega)]

theorem set_self_eq {α : Type} {l : List α} {i : Nat} {x : α} (h : l[i]? = some x) : l.set i x = l := by
  apply List.ext_getElem?
  intro j
  by_cases hj : j = i
  · subst hj; rw [List.getElem?_set_self (List.getElem?_eq_some_iff.1 h).1, h]
  · rw [List.getElem?_set_ne (by omega)]

theorem rowLt {i j n esz : Nat} (hi : i < n) (hj : j < esz) : i * esz + j < n * esz := by
  calc i * esz + j < i * esz + esz := by omega
    _ = (i + 1) * esz := by rw [Nat.succ_mul]
    _ ≤ n * esz := Nat.mul_le_mul_right _ hi

theorem matL_prefix : ∀ (vs : List V) (H : Hp), ∃ L, (matL vs H).2 = H ++ L
  | [], H => ⟨[], by simp [matL]⟩
  | v :: vs, H => by
    by_cases hn : v = .nil
    · subst hn
      obtain ⟨L, hL⟩ := matL_prefix vs (H ++ [.rows 0 [] 0 true])
      exact ⟨[.rows 0 [] 0 true] ++ L, by simp only [matL]; rw [hL, List.append_assoc]⟩
    · obtain ⟨L, hL⟩ := matL_prefix vs H
      have e : (matL (v :: vs) H).2 = (matL vs H).2 := by
        cases v <;> first | rfl | exact absurd rfl hn
      exact ⟨L, by rw [e, hL]⟩

theorem vStore_run (hI : Inv wl B0 w0 R σ H w) {t : TypeId} {a v : V} {ca cv : Value} {H' : Hp} (h : vStore P wl t a v H = some H') (ha : RelV R σ a ca) (hv : RelV R σ v cv) :
    ∃ w' R' σ', (Instr.storeAt t ca cv).run P w = .ok () w' ∧ Stp (TB B0) wl B0 w0 R σ w R' σ' H' w' ∧ w'.heap.size = w.heap.size := by
  unfold vStore at h
  split at h
  · rename_i id g row off vs hcs
    obtain ⟨hvr, hvo, hv1⟩ := cells_rel hv hcs
    obtain ⟨p, s, rfl, hs, hh, hg, hl⟩ := ptr_inv ha
    have hvl : RelA R σ vs cv.cells.toList.toArray := by simpa using hvr
    have hvlen : cv.cells.toList.length = vs.length := by have := hvr.1; simpa using this
    split at h
    · rename_i hwl
      have hwl : wl ≤ id := Nat.le_of_ble_eq_true hwl
      split at h
      · rename_i cs hb
        split at h
        · rename_i hc
          obtain ⟨rfl, rfl, hsz, hlen, hroom⟩ := hc
          cases h
          obtain ⟨hgen, ho, b, arr, e, hblk, hheap, hrel, hro⟩ := hI.blk id _ s hb hs hh
          obtain ⟨b', hb', rfl⟩ := hl hgen.symm
          rw [hblk] at hb'; cases hb'
          obtain ⟨ti, hti, hsz'⟩ := szOf_info hsz
          have hB : B0 ≤ b := hI.ge id _ s b hwl hb rfl hs hblk
          have hst := storeCells_run (P := P) (off := off) hheap cv.cells.toList 0 arr w hheap (by rw [hrel.1, hvlen]; omega) hv1
          have hrun : (Instr.storeAt t (.pointer (some ⟨b, 0 * s.esz + off, none⟩)) cv).run P w = .ok () (w.setRow b (splC arr off cv.cells.toList)) := by
            have hcsz : ¬ (cv.cells.size ≠ szOf P t) := by have := hvr.1; omega
            simp only [Instr.storeAt, Instr.sureAddr, Sem.run_bind, Sem.run_pure, Result.andThen_ok, storeVar, run_size hti, Sem.run_ite, if_neg hcsz, Nat.zero_mul, Nat.zero_add, Nat.add_zero] at hst ⊢
            exact hst
          obtain ⟨τ, s1, r1, o1, l1⟩ := matL_run hI hvl
          have hb2 : (matL vs H).2[id]? = some (.box cs) := by
            obtain ⟨L, hL⟩ := matL_prefix vs H
            rw [hL, List.getElem?_append_left (List.getElem?_eq_some_iff.1 hb).1]
            exact hb
          have hs2 : (σ ++ τ)[id]? = some s := by rw [List.getElem?_append_left (List.getElem?_eq_some_iff.1 hs).1]; exact hs
          have hset := s1.inv.set (R' := R) (w' := w.setRow b (splC arr off cv.cells.toList)) (b' := .box (spl cs off (matL vs H).1)) (s' := s) hb2 rfl hs2 hh hwl (SgLe.refl s) (fun k hk => .inl hk)
            (setRow_below hB) (by rw [setRow_size]; omega) (fun k _ hk => setRow_other w b k _ (fun e => hk (by rw [e]; exact hblk))) (RoLe.refl R) (fun _ _ h => .inl h)
            (fun k o u hu hk => by rw [hblk] at hk; cases hk; rw [hro o] at hu; cases hu)
            ⟨hgen, spl_ones off ho (o1 hvo), b, _, e, hblk, setRow_heap w b arr _ e _ hheap, by
              rw [set_self_eq hs2]
              exact spl_rel off (hrel.mono (RoLe.refl R) (Ext.append σ τ)) r1, hro⟩
          rw [set_self_eq hs2] at hset
          refine ⟨_, R, σ ++ τ, hrun, (s1.widen (fun k hk => hk.elim)).trans (hset.widen (fun k hk => ?_)) (Nat.le_refl _), setRow_size _ _ _⟩
          rw [hblk] at hk; cases hk; exact hB
        · cases h
      · rename_i esz0 rs0 g0 live0 hb
        simp only [Option.bind_eq_some_iff] at h
        obtain ⟨p, hp, h⟩ := h
        obtain ⟨R1, s1, r1, o1, l1⟩ := fzL_run true hI hp hvl
        split at h
        · rename_i esz rs g' hb2
          split at h
          · rename_i hc
            obtain ⟨rfl, hsz, hlen⟩ := hc
            simp only [Option.bind_eq_some_iff] at h
            obtain ⟨r, hr, h⟩ := h
            split at h
            · rename_i hroom
              cases h
              obtain ⟨hgen, hesz, hz0, hrow, hnone, hsome⟩ := rows_inv s1.inv hb2 hs hh
              obtain ⟨b, hblk, rfl⟩ := hl hgen.symm
              obtain ⟨arr, e, hheap, hcap, hcell, hro⟩ := hsome b hblk
              obtain ⟨ti, hti, hsz'⟩ := szOf_info hsz
              have hB : B0 ≤ b := hI.ge id _ s b hwl hb rfl hs hblk
              have hrl := (hrow r (List.mem_of_getElem? hr)).1
              have hrowlt := (List.getElem?_eq_some_iff.1 hr).1
              have harr : row * esz + r.length ≤ arr.size := by
                by_cases h0 : r.length = 0
                · have : esz = 0 := by omega
                  subst this; simp [h0]
                · have hx : r[r.length - 1]? = some (r[r.length - 1]'(by omega)) := by simp
                  obtain ⟨cv', h1, _⟩ := hcell row (r.length - 1) r _ hr hx
                  have := (Array.getElem?_eq_some_iff.1 h1).1
                  omega
              have hst := storeCells_run (P := P) (off := row * esz + off) hheap cv.cells.toList 0 arr w hheap (by rw [hvlen, ← l1]; omega) hv1
              have hrun : (Instr.storeAt t (.pointer (some ⟨b, row * s.esz + off, none⟩)) cv).run P w = .ok () (w.setRow b (splC arr (row * esz + off) cv.cells.toList)) := by
                have hcsz : ¬ (cv.cells.size ≠ szOf P t) := by have := hvr.1; omega
                simp only [Instr.storeAt, Instr.sureAddr, Sem.run_bind, Sem.run_pure, Result.andThen_ok, storeVar, run_size hti, Sem.run_ite, if_neg hcsz, Nat.add_zero, hesz] at hst ⊢
                exact hst
              have hset := s1.inv.set (R' := R1) (w' := w.setRow b (splC arr (row * esz + off) cv.cells.toList)) (b' := .rows esz (rs.set row (spl r off p.1)) g true) (s' := s) hb2 rfl hs hh hwl (SgLe.refl s) (fun k hk => .inl hk)
                (setRow_below hB) (by rw [setRow_size]; omega) (fun k _ hk => setRow_other w b k _ (fun e => hk (by rw [e]; exact hblk))) (RoLe.refl R1) (fun _ _ h => .inl h)
                (fun k o u hu hk => by
                  rw [hblk] at hk; cases hk
                  have := (hro o (by simp [hu])).1
                  cases this)
                ⟨hgen, hesz, hz0, by
                  intro q hq
                  rcases List.mem_or_eq_of_mem_set hq with hq | rfl
                  · exact hrow q hq
                  · exact ⟨by rw [spl_length]; exact hrl, spl_ones off (hrow r (List.mem_of_getElem? hr)).2 (o1 hvo)⟩, by
                  rw [hblk]
                  refine ⟨_, e, setRow_heap w b arr _ e _ hheap, by rw [splC_size]; exact hcap, fun i j q x hq hx => ?_, fun o ho => ?_⟩
                  · rw [set_self_eq hs]
                    rw [splC_get _ _ _ _ (by rw [hvlen, ← l1]; omega)]
                    rcases set_cases hq with ⟨rfl, rfl, _⟩ | ⟨hne, hq⟩
                    · rw [spl_take _ _ _ _ (by omega)] at hx
                      split at hx
                      · rename_i hcond
                        rw [if_pos (by rw [hvlen, ← l1]; omega), show i * esz + j - (i * esz + off) = j - off by omega]
                        obtain ⟨u, hu, hru⟩ := r1.get hx
                        exact ⟨u, by simpa using hu, hru⟩
                      · rename_i hcond
                        rw [if_neg (by rw [hvlen, ← l1]; omega)]
                        exact hcell i j r x hr hx
                    · have hj : j < esz := by
                        have := (List.getElem?_eq_some_iff.1 hx).1
                        rw [(hrow q (List.mem_of_getElem? hq)).1] at this; exact this
                      have hne2 : ¬ (row * esz + off ≤ i * esz + j ∧ i * esz + j < row * esz + off + cv.cells.toList.length) := by
                        rw [hvlen, ← l1]
                        rintro ⟨h1, h2⟩
                        rcases Nat.lt_or_gt_of_ne hne with hlt | hgt
                        · have := rowLt (n := row) (esz := esz) hlt hj; omega
                        · have h3 : row * esz + esz ≤ i * esz := by
                            calc row * esz + esz = (row + 1) * esz := by rw [Nat.succ_mul]
                              _ ≤ i * esz := Nat.mul_le_mul_right _ hgt
                          omega
                      rw [if_neg hne2]
                      exact hcell i j q x hq hx
                  · have := hro o ho
                    cases this.1⟩
              rw [set_self_eq hs] at hset
              refine ⟨_, R1, σ, hrun, s1.trans (hset.widen (fun k hk => ?_)) (Nat.le_refl _), setRow_size _ _ _⟩
              rw [hblk] at hk; cases hk; exact hB
            · cases h
          · cases h
        · cases h
      · cases h
    · cases h
  · cases h


/-- The elements of a slice, as they lie in memory. -/
theorem rowsOf_run (hI : Inv wl B0 w0 R σ H w) {x : V} {xs : List (List V)} {cx : Value} {size : Nat} (h : rowsOf x H = some xs) (hx : RelV R σ x cx) (hok : okRows size xs = true) (hsz : size ≠ 0) :
    ∃ (A : Option Addr) (c : Nat) (news : List Value), cx = .slice A xs.length c ∧ news.length = xs.length * size ∧ (∀ u ∈ news, u.oneCell' = true) ∧
      (∀ r ∈ xs, r.length = size ∧ onesL r = true) ∧
      (∀ (i j : Nat) (r : List V) (y : V), xs[i]? = some r → r[j]? = some y → ∃ cv, news[i * size + j]? = some cv ∧ RelV R σ y cv) ∧
      (∀ (w' : World), Below w.heap.size w w' → (Builtin.firstCells size xs.length cx).run P w' = .ok news.toArray w') := by
  have hrows : ∀ r ∈ xs, r.length = size := by
    rw [okRows, List.all_eq_true] at hok
    exact fun r hr => by simpa using hok r hr
  have key : ∀ (A : Option Addr) (c : Nat) (b off : Nat) (vals : Nat → Nat → Value), cx = .slice A xs.length c → (xs ≠ [] → A = some ⟨b, off, none⟩) → (∀ r ∈ xs, onesL r = true) →
      (∀ (i j : Nat) (r : List V) (y : V), xs[i]? = some r → r[j]? = some y → w.cell? ⟨b, off + (i * size + j), none⟩ = some (vals i j) ∧ RelV R σ y (vals i j)) →
      ∃ (A : Option Addr) (c : Nat) (news : List Value), cx = .slice A xs.length c ∧ news.length = xs.length * size ∧ (∀ u ∈ news, u.oneCell' = true) ∧
      (∀ r ∈ xs, r.length = size ∧ onesL r = true) ∧
      (∀ (i j : Nat) (r : List V) (y : V), xs[i]? = some r → r[j]? = some y → ∃ cv, news[i * size + j]? = some cv ∧ RelV R σ y cv) ∧
      (∀ (w' : World), Below w.heap.size w w' → (Builtin.firstCells size xs.length cx).run P w' = .ok news.toArray w') := by
    intro A c b off vals hcx hA hones hcell
    let news := (List.range (xs.length * size)).map fun k => vals (k / size) (k % size)
    have hnl : news.length = xs.length * size := by simp [news]
    have hget : ∀ k, k < xs.length * size → ∃ r y, xs[k / size]? = some r ∧ r[k % size]? = some y := by
      intro k hk
      have h1 : k / size < xs.length := by
        rw [Nat.div_lt_iff_lt_mul (by omega)]; exact hk
      have h2 : k % size < size := Nat.mod_lt _ (by omega)
      refine ⟨xs[k / size], xs[k / size][k % size]'(by rw [hrows _ (List.getElem_mem h1)]; exact h2), by simp [h1], by simp⟩
    have hdm : ∀ k, k / size * size + k % size = k := fun k => by rw [Nat.mul_comm]; exact Nat.div_add_mod k size
    refine ⟨A, c, news, hcx, hnl, ?_, fun r hr => ⟨hrows r hr, hones r hr⟩, ?_, ?_⟩
    · intro u hu
      simp only [news, List.mem_map, List.mem_range] at hu
      obtain ⟨k, hk, rfl⟩ := hu
      obtain ⟨r, y, hr, hy⟩ := hget k hk
      exact (hcell _ _ r y hr hy).2.one (onesL_get (hones r (List.mem_of_getElem? hr)) hy)
    · intro i j r y hr hy
      have hi := (List.getElem?_eq_some_iff.1 hr).1
      have hj := (List.getElem?_eq_some_iff.1 hy).1
      rw [hrows r (List.mem_of_getElem? hr)] at hj
      have hlt := rowLt (esz := size) hi hj
      have hd : (i * size + j) / size = i := by
        rw [Nat.add_comm, Nat.add_mul_div_right _ _ (by omega), Nat.div_eq_of_lt hj, Nat.zero_add]
      have hm : (i * size + j) % size = j := by
        rw [Nat.add_comm, Nat.add_mul_mod_self_right, Nat.mod_eq_of_lt hj]
      refine ⟨vals i j, ?_, (hcell i j r y hr hy).2⟩
      simp only [news, List.getElem?_map, List.getElem?_range hlt, Option.map_some, hd, hm]
    · intro w' hw
      rw [hcx]
      by_cases h0 : xs = []
      · subst h0
        cases A with
        | none => simp [Builtin.firstCells, news]
        | some a => simp [Builtin.firstCells, loadCells, loadCellsFrom, news]
      · rw [hA h0]
        refine run_firstCells_some (P := P) w' size xs.length ⟨b, off, none⟩ xs.length c news hnl (fun k v hk => ?_)
        have hklt : k < xs.length * size := by rw [← hnl]; exact (List.getElem?_eq_some_iff.1 hk).1
        obtain ⟨r, y, hr, hy⟩ := hget k hklt
        have hv : v = vals (k / size) (k % size) := by
          simp only [news, List.getElem?_map, List.getElem?_range hklt, Option.map_some, Option.some.injEq] at hk
          exact hk.symm
        have hc := (hcell _ _ r y hr hy).1
        rw [hdm] at hc
        rw [add_plain', hv]
        have hblt : b < w.heap.size := World.block_lt_of_cell? w _ hc
        rw [hw.cell (p := ⟨b, off + k, none⟩) hblt]
        exact hc
  unfold rowsOf at h
  split at h
  · rename_i rows
    cases h
    cases hx with
    | roNil A c => exact key A c 0 0 (fun _ _ => undef) rfl (fun h => absurd rfl h) (by simp) (by simp)
    | ro _ b off c esz vals hc hs hp ho hv hR =>
      refine key _ c b off vals rfl (fun _ => rfl) (by rw [List.all_eq_true] at ho; exact ho) (fun i j r y hr hy => ?_)
      have : esz = size := by rw [← hs r (List.mem_of_getElem? hr), hrows r (List.mem_of_getElem? hr)]
      subst this
      exact ⟨hI.ro _ _ _ (hR i j r y hr hy), hv i j r y hr hy⟩
  · cases h
    cases hx
    exact key none 0 0 0 (fun _ _ => undef) rfl (fun h => absurd rfl h) (by simp) (by simp)
  · rename_i id g len
    split at h
    · rename_i esz rs g' live hb
      split at h
      · rename_i hc
        obtain ⟨rfl, hlen⟩ := hc
        cases h
        obtain ⟨A, l, c, s, rfl, hs, hh, hg, hl⟩ := own_inv hx
        obtain ⟨hgen, hesz, hz0, hrow, hnone, hsome⟩ := rows_inv hI hb hs hh
        obtain ⟨rfl, hn, hsm⟩ := hl hgen.symm
        have htl : (rs.take l).length = l := by rw [List.length_take]; omega
        cases hblk : s.blk with
        | none =>
          have := hnone hblk
          subst this
          refine key A c 0 0 (fun _ _ => undef) (by rw [htl]) (fun h => absurd (by simp) h) (by simp) (by simp)
        | some b =>
          obtain ⟨arr, e, hheap, hcap, hcell, hro⟩ := hsome b hblk
          obtain ⟨rfl, _, _⟩ := hsm b hblk
          refine key _ c b 0 (fun i j => arr.getD (i * size + j) undef) (by rw [htl]) (fun _ => rfl) (fun r hr => (hrow r (List.mem_of_mem_take hr)).2) (fun i j r y hr hy => ?_)
          have : esz = size := by rw [← (hrow r (List.mem_of_mem_take (List.mem_of_getElem? hr))).1, hrows r (List.mem_of_getElem? hr)]
          subst this
          obtain ⟨cv, h1, h2⟩ := hcell i j r y (take_get hr).1 hy
          have e1 : arr.getD (i * esz + j) undef = cv := by simp [h1]
          rw [e1, Nat.zero_add, cell_of_block hheap]
          exact ⟨h1, h2⟩
      · cases h
    · cases h
  · cases h


theorem growT_some {e : TypeId} (h : growT P e = true) : ∃ i z, P.info? e = some i ∧ i.zero = some z ∧ i.size = szOf P e ∧ i.bytes = P.bytesOf e ∧ z.cells.size = szOf P e ∧ szOf P e ≠ 0 ∧ P.bytesOf e ≠ 0 := by
  unfold growT at h
  split at h
  · rename_i z hz
    obtain ⟨i, hi, hiz⟩ := zeroOf_some hz
    simp only [Bool.and_eq_true, beq_iff_eq, bne_iff_ne, ne_eq] at h
    exact ⟨i, z, hi, hiz, by simp [szOf, Program.cellsOf, hi], by simp [Program.bytesOf, hi], h.1.1, h.1.2, h.2⟩
  · cases h

/-- An append that finds no room. -/
theorem append_grow {t u ty e e2 : TypeId} {i : TypeInfo} {z : Value} (ht : P.underlying t = some (.slice e)) (hu : P.underlying u = some (.slice e2)) (hi : P.info? e = some i) (hz : i.zero = some z)
    (base : Option Addr) (sLen sCap : Nat) (A : Option Addr) (n c : Nat) (olds news : List Value)
    (ho : ∀ w' : World, Below w.heap.size w w' → (Builtin.firstCells i.size sLen (.slice base sLen sCap)).run P w' = .ok olds.toArray w')
    (hn : ∀ w' : World, Below w.heap.size w w' → (Builtin.firstCells i.size n (.slice A n c)).run P w' = .ok news.toArray w')
    (hg : sCap < sLen + n) (hb : (sLen + n) * i.bytes ≤ 70368744177664) (hb0 : i.bytes ≠ 0) :
    (Builtin.append_ #[t, u] ty #[.slice base sLen sCap, .slice A n c]).run P w =
      .ok (.slice (some ⟨w.heap.size, 0, none⟩) (sLen + n) (grownCap w (sLen + n) sCap e))
        (w.drew.alloc (.cells (olds.toArray ++ news.toArray ++ Builtin.zeroCells z.cells (grownCap w (sLen + n) sCap e - (sLen + n))) e)) := by
  have hneed : sLen + n ≤ (sLen + n) * i.bytes := Nat.le_mul_of_pos_right _ (by omega)
  have h0 : ¬ (sLen + n ≤ sCap) := by omega
  have h63' : ¬ (9223372036854775807 < ((sLen : Int) + (n : Int))) := by omega
  have hns := nextslicecap_le hg
  have h48' : ¬ (281474976710656 < Builtin.nextslicecap (sLen + n) sCap * i.bytes) := by
    have : Builtin.nextslicecap (sLen + n) sCap * i.bytes ≤ 2 * (sLen + n) * i.bytes := Nat.mul_le_mul_right _ hns
    rw [Nat.mul_assoc] at this
    omega
  have hdb : Below w.heap.size w w.drew := (Below.refl _ w).drew
  have hf := hn w.drew hdb
  have hfo := ho w.drew hdb
  simp [Builtin.append_, run_underlying ht, run_underlying hu, sizeOf, typeInfo, zeroValue, hi, hz, Builtin.lenOf, h0, h63', h48', Question.forced, hf, hfo, newRow, grownCap]
  congr 2
  apply Array.ext'
  simp

theorem grownCap_ge (w : World) (need old : Nat) (e : TypeId) : need ≤ grownCap w need old e := by
  unfold grownCap
  exact Nat.le_add_right _ _

/-- The new block of an append that found no room. -/
theorem grown_rows {rs xs : List (List V)} {olds news : List Value} {zs : Array Value} {size n1 n2 k : Nat} (h1 : olds.length = n1 * size) (h2 : news.length = n2 * size) (hr1 : rs.length = n1) (hr2 : xs.length = n2)
    (hs : ∀ r ∈ rs, r.length = size) (hs2 : ∀ r ∈ xs, r.length = size)
    (ho : ∀ (i j : Nat) (r : List V) (y : V), rs[i]? = some r → r[j]? = some y → ∃ cv, olds[i * size + j]? = some cv ∧ RelV R σ y cv)
    (hn : ∀ (i j : Nat) (r : List V) (y : V), xs[i]? = some r → r[j]? = some y → ∃ cv, news[i * size + j]? = some cv ∧ RelV R σ y cv) :
    ∀ (i j : Nat) (r : List V) (y : V), (rs ++ xs)[i]? = some r → r[j]? = some y → ∃ cv, (olds.toArray ++ news.toArray ++ Builtin.zeroCells zs k)[i * size + j]? = some cv ∧ RelV R σ y cv := by
  intro i j r y hr hy
  have hj := (List.getElem?_eq_some_iff.1 hy).1
  by_cases hi : i < rs.length
  · rw [List.getElem?_append_left hi] at hr
    obtain ⟨cv, a, b⟩ := ho i j r y hr hy
    refine ⟨cv, ?_, b⟩
    have hlt := (List.getElem?_eq_some_iff.1 a).1
    rw [Array.getElem?_append_left (by simp; omega), Array.getElem?_append_left (by simpa using hlt)]
    simpa using a
  · rw [List.getElem?_append_right (by omega)] at hr
    obtain ⟨cv, a, b⟩ := hn (i - rs.length) j r y hr hy
    refine ⟨cv, ?_, b⟩
    have hlt := (List.getElem?_eq_some_iff.1 a).1
    have e : i * size + j = n1 * size + ((i - rs.length) * size + j) := by
      have : i = n1 + (i - rs.length) := by omega
      rw [this, Nat.add_mul]
      have : n1 + (i - rs.length) - rs.length = i - rs.length := by omega
      rw [this]; omega
    rw [Array.getElem?_append_left (by simp; omega), Array.getElem?_append_right (by simp; omega)]
    rw [e, show n1 * size + ((i - rs.length) * size + j) - olds.toArray.size = (i - rs.length) * size + j by simp; omega]
    simpa using a

theorem drew_alloc_below (w : World) (o : Obj) : Below w.heap.size w (w.drew.alloc o) := ((Below.refl _ w).drew).alloc (Nat.le_refl _) o

/-- An append that finds room. -/
theorem append_room {t u ty e e2 e' : TypeId} {i : TypeInfo} (ht : P.underlying t = some (.slice e)) (hu : P.underlying u = some (.slice e2)) (hi : P.info? e = some i)
    {b sLen sCap : Nat} {A : Option Addr} {n c : Nat} {news : List Value} {arr : Array Value} (hh : w.heap[b]? = some (.cells arr e' (0, 0)))
    (hn : (Builtin.firstCells i.size n (.slice A n c)).run P w = .ok news.toArray w) (h1 : ∀ x ∈ news, x.oneCell' = true)
    (hr : sLen + n ≤ sCap) (hf : sLen * i.size + news.length ≤ arr.size) :
    (Builtin.append_ #[t, u] ty #[.slice (some ⟨b, 0, none⟩) sLen sCap, .slice A n c]).run P w = .ok (.slice (some ⟨b, 0, none⟩) (sLen + n) sCap) (w.setRow b (splC arr (sLen * i.size) news)) := by
  have hst := storeCells_run (P := P) (off := sLen * i.size) hh news 0 arr w hh (by simpa using hf) h1
  have ha : (⟨b, 0, none⟩ : Addr).add (sLen * i.size) = ⟨b, sLen * i.size, none⟩ := by rw [add_plain', Nat.zero_add]
  simp only [Nat.add_zero] at hst
  simp [Builtin.append_, run_underlying ht, run_underlying hu, sizeOf, typeInfo, hi, Builtin.lenOf, hr, hn, ha, hst]

theorem vAppend_run (hI : Inv wl B0 w0 R σ H w) {t u ty : TypeId} {s x v : V} {cs cx : Value} {H' : Hp} (h : vAppend P wl t s x H = some (v, H')) (hu : (elemT P u).isSome = true)
    (hs : RelV R σ s cs) (hx : RelV R σ x cx) :
    ∃ cv w' σ', (Builtin.append_ #[t, u] ty #[cs, cx]).run P w = .ok cv w' ∧ Stp (TB B0) wl B0 w0 R σ w R σ' H' w' ∧ RelV R σ' v cv ∧ w.heap.size ≤ w'.heap.size := by
  obtain ⟨e2, he2⟩ := Option.isSome_iff_exists.1 hu
  have hue := elemT_some he2
  unfold vAppend at h
  split at h
  · cases h
  · rename_i e he
    have hte := elemT_some he
    simp only [Option.bind_eq_some_iff] at h
    obtain ⟨xs, hxs, h⟩ := h
    split at h
    · rename_i hc
      rw [Bool.and_eq_true] at hc
      obtain ⟨hok, hgr⟩ := hc
      obtain ⟨i, z, hi, hz, hisz, hib, hzs, hsz, hbz⟩ := growT_some hgr
      obtain ⟨A, c, news, rfl, hnl, hn1, hxr, hnr, hnf⟩ := rowsOf_run (P := P) hI hxs hx hok hsz
      have hxl : ∀ r ∈ xs, r.length = szOf P e := fun r hr => (hxr r hr).1
      split at h
      · -- nil
        split at h
        · rename_i hb
          cases h
          cases hs
          by_cases h0 : xs.length = 0
          · have hx0 : xs = [] := by simpa using h0
            subst hx0
            have hrun : (Builtin.append_ #[t, u] ty #[.slice none 0 0, .slice A 0 c]).run P w = .ok (.slice none 0 0) w := by
              have hf := hnf w (Below.refl _ _)
              simp only [List.length_nil] at hf
              have hf' : (Builtin.firstCells i.size 0 (.slice A 0 c)).run P w = .ok #[] w := by
                rw [hisz]
                have hnn : news = [] := by simpa using hnl
                rw [hnn] at hf
                simpa using hf
              simp [Builtin.append_, run_underlying hte, run_underlying hue, sizeOf, typeInfo, hi, Builtin.lenOf, hf']
            have hp := hI.push_stp (T := TB B0) (w' := w) (b := .rows (szOf P e) [] 0 true) (s := ⟨none, 0, szOf P e, 0, false⟩) (Below.refl _ _) (fun k hk => by cases hk) ⟨rfl, rfl, fun h => absurd rfl h, by simp, rfl⟩
            refine ⟨_, w, _, hrun, hp, ?_, Nat.le_refl _⟩
            exact .own _ _ _ _ _ _ ⟨none, 0, szOf P e, 0, false⟩ (by rw [← hI.len]; simp) rfl (Nat.le_refl _) (fun _ => ⟨rfl, fun _ => ⟨rfl, rfl⟩, fun b hb => by cases hb⟩)
          · have hrun := append_grow (P := P) (w := w) (ty := ty) hte hue hi hz none 0 0 A xs.length c [] news
              (fun w' _ => by simp [Builtin.firstCells]) (fun w' hw => by rw [hisz]; exact hnf w' hw) (by omega) (by rw [hib]; simpa using hb) (by rw [hib]; exact hbz)
            simp only [Nat.zero_add] at hrun
            have hge := grownCap_ge w xs.length 0 e
            let arr := ([] : List Value).toArray ++ news.toArray ++ Builtin.zeroCells z.cells (grownCap w xs.length 0 e - xs.length)
            have hasz : arr.size = grownCap w xs.length 0 e * szOf P e := by
              have e1 : arr.size = news.length + (grownCap w xs.length 0 e - xs.length) * z.cells.size := by simp [arr, size_zeroCells]
              rw [e1, hnl, hzs, ← Nat.add_mul]
              congr 1; omega
            let s' : Sg := ⟨some w.heap.size, 0, szOf P e, arr.size, false⟩
            have hp := hI.push_stp (T := TB B0) (w' := w.drew.alloc (.cells arr e)) (b := .rows (szOf P e) xs 0 true) (s := s') (drew_alloc_below w _)
              (fun k hk => by cases hk; exact ⟨Nat.le_refl _, by simp⟩)
              ⟨rfl, rfl, fun _ => hsz, hxr, arr, e, alloc_new w.drew _, rfl,
                fun i j r y hr hy => by
                  have := grown_rows (R := R) (σ := σ ++ [s']) (rs := []) (xs := xs) (olds := []) (news := news) (zs := z.cells) (size := szOf P e) (n1 := 0) (n2 := xs.length) (k := grownCap w xs.length 0 e - xs.length) (by simp) hnl rfl rfl (by simp) hxl
                    (by simp) (fun i j r y hr hy => let ⟨cv, a, b⟩ := hnr i j r y hr hy; ⟨cv, a, b.mono (RoLe.refl R) (Ext.append σ _)⟩) i j r y (by simpa using hr) hy
                  exact this,
                fun o ho => absurd (hI.ro_new o) ho⟩
            refine ⟨_, _, _, hrun, hp, ?_, by simp⟩
            exact .own _ _ _ _ _ _ s' (by rw [← hI.len]; simp) rfl (Nat.le_refl _) (fun _ => ⟨rfl, (fun hb => by cases hb), fun b hb => by cases hb; exact ⟨rfl, hge, by show _ ≤ arr.size; rw [hasz]; exact Nat.le_refl _⟩⟩)
        · cases h
      · rename_i id g len
        split at h
        · rename_i sz rs g' live hb
          split at h
          · rename_i hcond
            obtain ⟨hwl, rfl, hlen, hlive, hszr, hbnd⟩ := hcond
            have hwl : wl ≤ id := Nat.le_of_ble_eq_true hwl
            cases h
            obtain ⟨B, l, cc, s, rfl, hsg, hh, hg, hl⟩ := own_inv hs
            obtain ⟨hgen, hesz, hz0, hrow, hnone, hsome⟩ := rows_inv hI hb hsg hh
            obtain ⟨hll, hn, hsm⟩ := hl hgen.symm
            subst hll
            have hidlt : id < σ.length := (List.getElem?_eq_some_iff.1 hsg).1
            have htl : (rs.take l).length = l := by rw [List.length_take]; omega
            have hszb : s.blk ≠ none → sz = szOf P e := fun hne => hszr.resolve_right (hz0 hne)
            have hrowsz : ∀ r ∈ rs, r.length = szOf P e := by
              intro r hr
              by_cases hne : s.blk = none
              · rw [hnone hne] at hr; cases hr
              · rw [(hrow r hr).1, hszb hne]
            have hrow' : ∀ r ∈ rs.take l ++ xs, r.length = szOf P e ∧ onesL r = true := by
              intro r hr
              rcases List.mem_append.1 hr with hr | hr
              · exact ⟨hrowsz r (List.mem_of_mem_take hr), (hrow r (List.mem_of_mem_take hr)).2⟩
              · exact hxr r hr
            have hsgle : ∀ (s' : Sg), s'.hole = false → s'.gen = g + 1 → SgLe s s' := fun s' h1 h2 => .inr (.inl ⟨h1, by omega⟩)
            have hext : ∀ (s' : Sg), s'.hole = false → s'.gen = g + 1 → Ext σ (σ.set id s') := by
              intro s' h1 h2 i t ht
              by_cases hi : i = id
              · subst hi
                rw [hsg] at ht; cases ht
                exact ⟨s', List.getElem?_set_self hidlt, hsgle s' h1 h2⟩
              · exact ⟨t, by rw [List.getElem?_set_ne (by omega)]; exact ht, SgLe.refl t⟩
            -- the old elements
            have holds : ∃ olds : List Value, olds.length = l * szOf P e ∧ (∀ w' : World, Below w.heap.size w w' → (Builtin.firstCells i.size l (.slice B l cc)).run P w' = .ok olds.toArray w') ∧
                (∀ (i j : Nat) (r : List V) (y : V), (rs.take l)[i]? = some r → r[j]? = some y → ∃ cv, olds[i * szOf P e + j]? = some cv ∧ RelV R σ y cv) := by
              have hro : rowsOf (.own id g l) H = some (rs.take l) := by
                simp only [rowsOf, hb]
                rw [if_pos ⟨trivial, hlen⟩]
              obtain ⟨A2, c2, olds, e1, h1, _, _, h3, h4⟩ := rowsOf_run (P := P) (size := szOf P e) hI hro hs (by
                rw [okRows, List.all_eq_true]
                exact fun r hr => by simpa using hrowsz r (List.mem_of_mem_take hr)) hsz
              rw [htl] at h1 h4
              exact ⟨olds, h1, fun w' hw => by rw [hisz]; exact h4 w' hw, h3⟩
            obtain ⟨olds, hol, hof, hor⟩ := holds
            by_cases hroom : l + xs.length ≤ cc
            · -- there is room
              cases hblk : s.blk with
              | none =>
                obtain ⟨hl0, hc0⟩ := hn hblk
                have hx0 : xs = [] := by
                  have : xs.length = 0 := by omega
                  simpa using this
                subst hl0 hc0 hx0
                have hrs : rs = [] := hnone hblk
                subst hrs
                have hf := hnf w (Below.refl _ _)
                have hnn : news = [] := by simpa using hnl
                rw [hnn] at hf
                simp only [List.length_nil] at hf
                have hf' : (Builtin.firstCells i.size 0 (.slice A 0 c)).run P w = .ok #[] w := by rw [hisz]; simpa using hf
                have hrun : (Builtin.append_ #[t, u] ty #[.slice B 0 0, .slice A 0 c]).run P w = .ok (.slice B 0 0) w := by
                  cases B <;> simp [Builtin.append_, run_underlying hte, run_underlying hue, sizeOf, typeInfo, hi, Builtin.lenOf, hf', storeCells]
                have hset := hI.set (R' := R) (w' := w) (b' := .rows (szOf P e) [] (g + 1) live) (s' := ⟨none, g + 1, szOf P e, 0, false⟩) hb rfl hsg hh hwl (hsgle _ rfl rfl) (fun k hk => by cases hk) (Below.refl _ _) (Nat.le_refl _)
                  (fun _ _ _ => rfl) (RoLe.refl R) (fun _ _ h => .inl h) (fun k o v hv hk => by rw [hblk] at hk; cases hk) ⟨rfl, rfl, fun h => absurd rfl h, by simp, rfl⟩
                refine ⟨_, w, _, hrun, hset.widen (fun k hk => by rw [hblk] at hk; cases hk), ?_, Nat.le_refl _⟩
                exact .own _ _ _ _ _ _ ⟨none, g + 1, szOf P e, 0, false⟩ (List.getElem?_set_self hidlt) rfl (Nat.le_refl _) (fun _ => ⟨rfl, fun _ => ⟨rfl, rfl⟩, fun b hb => by cases hb⟩)
              | some b =>
                obtain ⟨arr, e', hheap, hcap, hcell, hro⟩ := hsome b hblk
                obtain ⟨rfl, hlc, hce⟩ := hsm b hblk
                have hsz2 : sz = szOf P e := hszb (by rw [hblk]; simp)
                subst hsz2
                have hB : B0 ≤ b := hI.ge id _ s b hwl hb rfl hsg hblk
                have hf := hnf w (Below.refl _ _)
                rw [← hisz] at hf
                have hfit : l * szOf P e + news.length ≤ arr.size := by
                  rw [hnl, ← Nat.add_mul, hcap]
                  exact Nat.le_trans (Nat.mul_le_mul_right _ hroom) (by rw [hesz] at hce; exact hce)
                have hrun := append_room (P := P) (ty := ty) hte hue hi hheap hf hn1 hroom (by rw [hisz]; exact hfit)
                rw [hisz] at hrun
                let s' : Sg := ⟨some b, g + 1, szOf P e, s.cap, false⟩
                have hset := hI.set (R' := R) (w' := w.setRow b (splC arr (l * szOf P e) news)) (b' := .rows (szOf P e) (rs.take l ++ xs) (g + 1) live) (s' := s') hb rfl hsg hh hwl (hsgle _ rfl rfl) (fun k hk => .inl (by rw [hblk]; exact hk))
                  (setRow_below hB) (by rw [setRow_size]; omega) (fun k _ hk => setRow_other w b k _ (fun e => hk (by rw [e]; exact hblk))) (RoLe.refl R) (fun _ _ h => .inl h)
                  (fun k o v hv hk => by
                    rw [hblk] at hk; cases hk
                    obtain ⟨h1, h2⟩ := hro o (by simp [hv])
                    subst h1
                    have hl2 : l = rs.length := by rcases hlive with h | h; cases h; exact h
                    have h3 := hI.ro b o v hv
                    rw [cell_of_block hheap] at h3
                    rw [cell_of_block (setRow_heap w b arr _ e' _ hheap), splC_get _ _ _ _ hfit, if_neg (by rw [hl2]; omega)]
                    exact h3)
                  ⟨rfl, rfl, fun _ => hsz, hrow', _, e', setRow_heap w b arr _ e' _ hheap, by rw [splC_size]; exact hcap, fun i j r y hr hy => by
                    have hj : j < szOf P e := by
                      have := (List.getElem?_eq_some_iff.1 hy).1
                      rw [(hrow' r (List.mem_of_getElem? hr)).1] at this; exact this
                    by_cases hi : i < l
                    · rw [List.getElem?_append_left (by omega)] at hr
                      obtain ⟨cv, h1, h2⟩ := hcell i j r y (take_get hr).1 hy
                      have := rowLt (esz := szOf P e) hi hj
                      exact ⟨cv, by rw [splC_get _ _ _ _ hfit, if_neg (by omega)]; exact h1, h2.mono (RoLe.refl R) (hext s' rfl rfl)⟩
                    · have hilt := (List.getElem?_eq_some_iff.1 hr).1
                      rw [List.length_append, htl] at hilt
                      rw [List.getElem?_append_right (by omega), htl] at hr
                      obtain ⟨cv, h1, h2⟩ := hnr (i - l) j r y hr hy
                      have e1 : i * szOf P e + j = l * szOf P e + ((i - l) * szOf P e + j) := by
                        have : i = l + (i - l) := by omega
                        rw [this, Nat.add_mul]
                        have : l + (i - l) - l = i - l := by omega
                        rw [this]; omega
                      have hlt := (List.getElem?_eq_some_iff.1 h1).1
                      refine ⟨cv, ?_, h2.mono (RoLe.refl R) (hext s' rfl rfl)⟩
                      rw [splC_get _ _ _ _ hfit, if_pos (by omega), e1, show l * szOf P e + ((i - l) * szOf P e + j) - l * szOf P e = (i - l) * szOf P e + j by omega]
                      exact h1, fun o ho => by
                    obtain ⟨h1, h2⟩ := hro o ho
                    refine ⟨h1, ?_⟩
                    subst h1
                    have hl2 : l = rs.length := by rcases hlive with h | h; cases h; exact h
                    rw [List.length_append, htl, hl2, Nat.add_mul]; omega⟩
                refine ⟨_, _, _, hrun, hset.widen (fun k hk => by rw [hblk] at hk; cases hk; exact hB), ?_, by rw [setRow_size]; omega⟩
                exact .own _ _ _ _ _ _ s' (List.getElem?_set_self hidlt) rfl (Nat.le_refl _) (fun _ => ⟨rfl, (fun hb => by cases hb), fun b' hb' => by cases hb'; exact ⟨rfl, hroom, by rw [hesz] at hce; exact hce⟩⟩)
            · -- a new block
              have hrun := append_grow (P := P) (w := w) (ty := ty) hte hue hi hz B l cc A xs.length c olds news hof (fun w' hw => by rw [hisz]; exact hnf w' hw) (by omega) (by rw [hib]; exact hbnd) (by rw [hib]; exact hbz)
              have hge := grownCap_ge w (l + xs.length) cc e
              let arr := olds.toArray ++ news.toArray ++ Builtin.zeroCells z.cells (grownCap w (l + xs.length) cc e - (l + xs.length))
              have hasz : arr.size = grownCap w (l + xs.length) cc e * szOf P e := by
                have e1 : arr.size = olds.length + news.length + (grownCap w (l + xs.length) cc e - (l + xs.length)) * z.cells.size := by simp [arr, size_zeroCells, Nat.add_assoc]
                rw [e1, hol, hnl, hzs, ← Nat.add_mul, ← Nat.add_mul]
                congr 1; omega
              let s' : Sg := ⟨some w.heap.size, g + 1, szOf P e, arr.size, false⟩
              have hdb := drew_alloc_below w (.cells arr e)
              have hset := hI.set (R' := R) (w' := w.drew.alloc (.cells arr e)) (b' := .rows (szOf P e) (rs.take l ++ xs) (g + 1) live) (s' := s') hb rfl hsg hh hwl (hsgle _ rfl rfl)
                (fun k hk => by cases hk; exact .inr ⟨Nat.le_refl _, by simp⟩)
                (hdb.mono hI.base) hdb.size (fun k hk _ => hdb.block k hk) (RoLe.refl R) (fun _ _ h => .inl h)
                (fun k o v hv hk => by
                  have h1 := hI.ro k o v hv
                  have hlt := hI.ro_lt (b := k) (o := o) (by simp [hv])
                  rw [hdb.cell (p := ⟨k, o, none⟩) hlt]; exact h1)
                ⟨rfl, rfl, fun _ => hsz, hrow', arr, e, alloc_new w.drew _, rfl, fun i j r y hr hy => by
                  exact grown_rows (R := R) (σ := σ.set id s') (rs := rs.take l) (xs := xs) (olds := olds) (news := news) (zs := z.cells) (size := szOf P e) (n1 := l) (n2 := xs.length) hol hnl htl rfl
                    (fun r hr => hrowsz r (List.mem_of_mem_take hr)) hxl
                    (fun i j r y hr hy => let ⟨cv, a, b⟩ := hor i j r y hr hy; ⟨cv, a, b.mono (RoLe.refl R) (hext s' rfl rfl)⟩)
                    (fun i j r y hr hy => let ⟨cv, a, b⟩ := hnr i j r y hr hy; ⟨cv, a, b.mono (RoLe.refl R) (hext s' rfl rfl)⟩) i j r y hr hy,
                  fun o ho => absurd (hI.ro_new o) ho⟩
              refine ⟨_, _, _, hrun, hset.widen (fun k hk => hI.ge id _ s k hwl hb rfl hsg hk), ?_, hdb.size⟩
              exact .own _ _ _ _ _ _ s' (List.getElem?_set_self hidlt) rfl (Nat.le_refl _) (fun _ => ⟨rfl, (fun hb => by cases hb), fun b hb => by cases hb; exact ⟨rfl, hge, by show _ ≤ arr.size; rw [hasz]; exact Nat.le_refl _⟩⟩)
          · cases h
        · cases h
      · cases h
    · cases h

end ops
end Go.Ab
