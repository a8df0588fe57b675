/- Slice expressions. -/
import Derived.Test.YtecgfaaaloameaaAbOps6
import Derived.Laws.Slices
namespace Go.Ab
open Go.RowKit
section ops
variable {P : Program} {wl B0 : Nat} {w0 : World} {R R' : Ro} {σ σ' : List Sg} {H : Hp} {w w' : World}

/-- A value that may be left out. -/
inductive RelO (R : Ro) (σ : List Sg) : Option V → Option Value → Prop where
  | none : RelO R σ none none
  | some (v : V) (cv : Value) (h : RelV R σ v cv) : RelO R σ (some v) (some cv)

theorem bnd_run {x : Option V} {cx : Option Value} {d n : Nat} (hx : RelO R σ x cx) (h : bnd x d = some n) :
    (x = none ∧ cx = none ∧ n = d) ∨ ∃ k i, cx = some (.int k i) ∧ 0 ≤ i ∧ n = i.toNat ∧ x.isSome = true := by
  cases hx with
  | none => cases h; exact .inl ⟨rfl, rfl, rfl⟩
  | some v cv hv =>
    right
    unfold bnd at h
    split at h
    · simp_all
    · rename_i k i he
      cases he
      split at h
      · cases h
        have e := hv.lit_inv
        exact ⟨_, _, by rw [e], by assumption, rfl, rfl⟩
      · cases h
    · cases h

theorem bounds_run {lo hi mx : Option V} {clo chi cmx : Option Value} {L C l h m : Nat} (hlo : RelO R σ lo clo) (hhi : RelO R σ hi chi) (hmx : RelO R σ mx cmx)
    (b1 : bnd hi L = some h) (b2 : bnd lo 0 = some l) (b3 : bnd mx h = some m) (h1 : l ≤ h) (h2 : h ≤ m) (h3 : m ≤ C) (h4 : mx.isSome = true → hi.isSome = true) :
    ∃ m', (Instr.sliceBounds true L C clo chi cmx).run P w = .ok (l, h, m') w ∧ m ≤ m' ∧ m' ≤ C := by
  rcases bnd_run hmx b3 with ⟨rfl, rfl, e3⟩ | ⟨km, im, rfl, g3, e3, s3⟩
  · refine ⟨C, ?_, h3, Nat.le_refl _⟩
    rcases bnd_run hhi b1 with ⟨rfl, rfl, e1⟩ | ⟨kh, ih, rfl, g1, e1, s1⟩
    · rcases bnd_run hlo b2 with ⟨rfl, rfl, e2⟩ | ⟨kl, il, rfl, g2, e2, s2⟩
      · subst e1 e2; simp [Instr.sliceBounds]
      · subst e1 e2; simp [Instr.sliceBounds, run_sliceBound w kl il h _ g2 (by omega)]
    · rcases bnd_run hlo b2 with ⟨rfl, rfl, e2⟩ | ⟨kl, il, rfl, g2, e2, s2⟩
      · subst e1 e2; simp [Instr.sliceBounds, run_sliceBound w kh ih C _ g1 (by omega)]
      · subst e1 e2; simp [Instr.sliceBounds, run_sliceBound w kh ih C _ g1 (by omega), run_sliceBound w kl il ih.toNat _ g2 (by omega)]
  · refine ⟨m, ?_, Nat.le_refl _, h3⟩
    rcases bnd_run hhi b1 with ⟨rfl, rfl, e1⟩ | ⟨kh, ih, rfl, g1, e1, s1⟩
    · exact absurd (h4 s3) (by simp)
    · rcases bnd_run hlo b2 with ⟨rfl, rfl, e2⟩ | ⟨kl, il, rfl, g2, e2, s2⟩
      · subst e1 e2 e3; simp [Instr.sliceBounds, run_sliceBound w km im C _ g3 (by omega), run_sliceBound w kh ih im.toNat _ g1 (by omega)]
      · subst e1 e2 e3; simp [Instr.sliceBounds, run_sliceBound w km im C _ g3 (by omega), run_sliceBound w kh ih im.toNat _ g1 (by omega), run_sliceBound w kl il ih.toNat _ g2 (by omega)]

theorem sliceAt_run {t e : TypeId} {a : Option Addr} {L C l h m : Nat} {clo chi cmx : Option Value} (ht : P.underlying t = some (.slice e)) (hs : szOf P e ≠ 0)
    (hb : (Instr.sliceBounds true L C clo chi cmx).run P w = .ok (l, h, m) w) :
    (Instr.sliceAt t (.slice a L C) clo chi cmx).run P w = .ok (sliced a l h m (szOf P e)) w := by
  obtain ⟨i, hi, hz⟩ := szOf_info hs
  simp only [Instr.sliceAt, Instr.slice, Sem.run_bind, run_underlying ht, Result.andThen_ok, hb, run_size hi, Sem.run_pure, sliced]

theorem drop_get {α : Type} {l : List α} {n i : Nat} {x : α} (h : (l.drop n)[i]? = some x) : l[n + i]? = some x := by rwa [List.getElem?_drop] at h

/-- Part of rows that nobody writes. -/
theorem ro_part {rows : List (List V)} {A : Option Addr} {L C l h m size : Nat} (hr : RelV R σ (.ro rows) (.slice A L C)) (hlh : l ≤ h) (hhm : h ≤ m) (hmC : m ≤ C) (hL : h ≤ rows.length)
    (hok : rows.all (fun r => r.length == size) = true) : RelV R σ (.ro ((rows.take h).drop l)) (sliced A l h m size) := by
  by_cases hlh' : h = l
  · subst hlh'
    have : (rows.take h).drop h = [] := by simp
    rw [this]
    unfold sliced
    rw [Nat.sub_self]
    exact .roNil _ _
  cases hr with
  | roNil => simp at hL; omega
  | ro rows b off c esz vals hc hs hp ho hv hR =>
    have hml : m ≠ l := by omega
    unfold sliced
    rw [if_neg hml]
    show RelV R σ _ (.slice (some (Addr.add ⟨b, off, none⟩ (l * size))) (h - l) (m - l))
    rw [add_plain']
    have hlen : ((rows.take h).drop l).length = h - l := by simp; omega
    have hget : ∀ (i : Nat) (r : List V), ((rows.take h).drop l)[i]? = some r → rows[l + i]? = some r := fun i r hi => (take_get (drop_get hi)).1
    have hmem : ∀ r ∈ (rows.take h).drop l, r ∈ rows := fun r hr => List.mem_of_mem_take (List.mem_of_mem_drop hr)
    have hes : size = esz := by
      rw [List.all_eq_true] at hok
      cases hrw : rows with
      | nil => rw [hrw] at hL; simp at hL; omega
      | cons r rs =>
        have h1 := hs r (by rw [hrw]; simp)
        have h2 := hok r (by rw [hrw]; simp)
        simp only [beq_iff_eq] at h2
        omega
    subst hes
    have := RelV.ro (R := R) (σ := σ) ((rows.take h).drop l) b (off + l * size) (m - l) size (fun i j => vals (l + i) j) (by rw [hlen]; omega)
      (fun r hr => hs r (hmem r hr))
      (by unfold pureR at *; rw [List.all_eq_true] at *; exact fun r hr => hp r (hmem r hr))
      (by rw [List.all_eq_true] at *; exact fun r hr => ho r (hmem r hr))
      (fun i j r x h1 h2 => hv (l + i) j r x (hget i r h1) h2)
      (fun i j r x h1 h2 => by
        have := hR (l + i) j r x (hget i r h1) h2
        rw [Nat.add_mul] at this
        rw [← this]
        congr 1
        omega)
    rw [hlen] at this
    exact this

theorem ro_inv {rows : List (List V)} {cv : Value} (h : RelV R σ (.ro rows) cv) : ∃ A c, cv = .slice A rows.length c ∧ rows.length ≤ c := by
  cases h with
  | roNil A c => exact ⟨A, c, rfl, Nat.zero_le _⟩
  | ro rows b off c esz vals hc => exact ⟨_, c, rfl, hc⟩

theorem vSlice_run (hI : Inv wl B0 w0 R σ H w) {calm : Bool} {t : TypeId} {x v : V} {lo hi mx : Option V} {cx : Value} {clo chi cmx : Option Value} {H' : Hp}
    (h : vSlice P wl calm t x lo hi mx H = some (v, H')) (hx : RelV R σ x cx) (hlo : RelO R σ lo clo) (hhi : RelO R σ hi chi) (hmx : RelO R σ mx cmx) :
    ∃ cv R', (Instr.sliceAt t cx clo chi cmx).run P w = .ok cv w ∧ Stp (TB B0) wl B0 w0 R σ w R' σ H' w ∧ RelV R' σ v cv := by
  unfold vSlice at h
  split at h
  · cases h
  · rename_i e he
    have hte := elemT_some he
    split at h
    · rename_i rows
      simp only [Option.bind_eq_some_iff] at h
      obtain ⟨hh, b1, l, b2, m, b3, h⟩ := h
      split at h
      · rename_i hcond
        obtain ⟨c1, c2, c3, c4, c5, c6⟩ := hcond
        cases h
        obtain ⟨A, c, rfl, hc⟩ := ro_inv hx
        obtain ⟨m', hb, hm1, hm2⟩ := bounds_run (P := P) (w := w) (C := c) hlo hhi hmx b1 b2 b3 c2 c3 (by omega) c5
        exact ⟨_, R, sliceAt_run hte c1 hb, Stp.refl hI, ro_part hx c2 (by omega) hm2 (by omega) c6⟩
      · cases h
    · rename_i id g len
      split at h
      · -- to a bound
        simp only [Option.bind_eq_some_iff] at h
        obtain ⟨hh, b1, h⟩ := h
        split at h
        · rename_i s rs g' live hb
          split at h
          · rename_i hcond
            obtain ⟨c1, c2, rfl⟩ := hcond
            cases h
            obtain ⟨A, l, c, s', rfl, hs, hho, hg, hl⟩ := own_inv hx
            obtain ⟨hgen, hesz, hz0, hrow, hnone, hsome⟩ := rows_inv hI hb hs hho
            obtain ⟨rfl, hn, hsm⟩ := hl hgen.symm
            have hlc : l ≤ c := by
              cases hblk : s'.blk with
              | none => have := hn hblk; omega
              | some b => exact (hsm b hblk).2.1
            obtain ⟨m', hb', hm1, hm2⟩ := bounds_run (P := P) (w := w) (C := c) (l := 0) (m := hh) hlo hhi hmx b1 rfl rfl (Nat.zero_le _) (Nat.le_refl _) (by omega) (fun h => by cases h)
            have hm' : m' = c := by
              have hrun := hb'
              cases hmx
              cases hlo
              rcases bnd_run hhi b1 with ⟨rfl, rfl, e1⟩ | ⟨kh, ih, rfl, g1, e1, s1⟩
              · simp [Instr.sliceBounds] at hrun; exact hrun.2.symm
              · simp [Instr.sliceBounds, run_sliceBound w kh ih c _ g1 (by omega)] at hrun; exact hrun.2.symm
            subst hm'
            refine ⟨_, R, sliceAt_run hte c1 hb', Stp.refl hI, ?_⟩
            unfold sliced
            refine .own _ _ _ _ _ _ s' hs hho hg (fun e => ⟨by omega, fun hblk => ?_, fun b hblk => ?_⟩)
            · have := hn hblk; omega
            · obtain ⟨a1, a2, a3⟩ := hsm b hblk
              refine ⟨?_, by omega, by simpa using a3⟩
              subst a1
              simp [add_plain']
          · cases h
        · cases h
      · -- from a bound on: nobody writes it any more
        rename_i lo
        simp only [Option.bind_eq_some_iff] at h
        obtain ⟨hh, b1, l, b2, h⟩ := h
        split at h
        · rename_i s rs g' live hb
          split at h
          · rename_i hcond
            obtain ⟨c1, c2, c3, c4, c5, c6, rfl, c8, c9⟩ := hcond
            cases h
            have hfz : fzC wl (.own id g len) H = some (.ro (rs.take len), H.set id (.rows s rs g false)) := by
              simp [fzC, hb, c6, c9, c3]
            obtain ⟨R', hst, hro⟩ := fzC_run hI hfz hx
            obtain ⟨A, c, rfl, hc⟩ := ro_inv hro
            have htl : (rs.take len).length = len := by simp; omega
            rw [htl] at hro hc ⊢
            obtain ⟨m', hb', hm1, hm2⟩ := bounds_run (P := P) (w := w) (C := c) (m := hh) hlo hhi hmx b1 b2 rfl c4 (Nat.le_refl _) (by omega) (fun h => by cases h)
            refine ⟨_, R', sliceAt_run hte c1 hb', hst, ?_⟩
            obtain ⟨s', hs, hho⟩ : ∃ s', σ[id]? = some s' ∧ s'.hole = false := by
              obtain ⟨_, _, _, s', _, hs, hh, _⟩ := own_inv hx
              exact ⟨s', hs, hh⟩
            obtain ⟨hgen, hesz, hz0, hrow, hnone, hsome⟩ := rows_inv hI hb hs hho
            have := ro_part hro c4 (by omega) hm2 (by omega) (size := szOf P e) (by
              rw [List.all_eq_true]
              intro r hr
              have := (hrow r (List.mem_of_mem_take hr)).1
              simp [this, c8])
            rwa [List.take_take, Nat.min_eq_left c5] at this
          · cases h
        · cases h
      · cases h
    · cases h

end ops
end Go.Ab
