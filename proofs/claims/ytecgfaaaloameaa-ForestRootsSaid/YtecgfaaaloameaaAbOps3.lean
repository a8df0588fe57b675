/- Making and writing memory. -/
import Derived.Test.YtecgfaaaloameaaAbHeap
namespace Go.Ab
open Go.RowKit
section ops
variable {P : Program} {wl B0 : Nat} {w0 : World} {R R' : Ro} {σ σ' : List Sg} {H : Hp} {w w' : World}

/-- What lies from B0 on may be touched. -/
abbrev TB (B0 : Nat) : Nat → Prop := fun k => B0 ≤ k

theorem Stp.widen {T T' : Nat → Prop} (h : Stp T wl B0 w0 R σ w R' σ' H w') (ht : ∀ k, T k → T' k) : Stp T' wl B0 w0 R σ w R' σ' H w' :=
  ⟨h.inv, h.ext, h.le, fun b o hb => by
    rcases h.new b o hb with h1 | h1 | h1
    · exact .inl h1
    · exact .inr (.inl (ht b h1))
    · exact .inr (.inr h1), fun b hb hT => h.fr b hb (fun h1 => hT (ht b h1)), h.df, h.hl⟩

/-- The rows of an owned slice, in the world. -/
theorem rows_inv (hI : Inv wl B0 w0 R σ H w) {id esz g : Nat} {rs : List (List V)} {live : Bool} {s : Sg} (hb : H[id]? = some (.rows esz rs g live)) (hs : σ[id]? = some s) (hh : s.hole = false) :
    s.gen = g ∧ s.esz = esz ∧ (s.blk ≠ none → esz ≠ 0) ∧ (∀ r ∈ rs, r.length = esz ∧ onesL r = true) ∧ (s.blk = none → rs = []) ∧
    (∀ b, s.blk = some b → ∃ (arr : Array Value) (e : TypeId), w.heap[b]? = some (.cells arr e (0, 0)) ∧ arr.size = s.cap ∧
      (∀ (i j : Nat) (r : List V) (x : V), rs[i]? = some r → r[j]? = some x → ∃ cv, arr[i * esz + j]? = some cv ∧ RelV R σ x cv) ∧ (∀ (o : Nat), R b o ≠ none → live = false ∧ o < rs.length * esz)) := by
  obtain ⟨h1, h2, h0, h3, h4⟩ := hI.blk id _ s hb hs hh
  refine ⟨h1, h2, h0, h3, fun e => ?_, fun b e => ?_⟩
  · rw [e] at h4; exact h4
  · rw [e] at h4; exact h4

theorem take_get {α : Type} {l : List α} {n i : Nat} {x : α} (h : (l.take n)[i]? = some x) : l[i]? = some x ∧ i < n := by
  rw [List.getElem?_take] at h
  split at h
  · exact ⟨h, by assumption⟩
  · cases h

/-- What one owns is handed over. -/
theorem fzC_run (hI : Inv wl B0 w0 R σ H w) {v v' : V} {H' : Hp} {cv : Value} (h : fzC wl v H = some (v', H')) (hv : RelV R σ v cv) :
    ∃ R', Stp (TB B0) wl B0 w0 R σ w R' σ H' w ∧ RelV R' σ v' cv := by
  unfold fzC at h
  split at h
  · rename_i id g len
    split at h
    · rename_i esz rs g' live hb
      split at h
      · rename_i hg
        obtain ⟨rfl, hlen⟩ := hg
        split at h
        · rename_i hp
          rw [Bool.and_eq_true] at hp
          obtain ⟨hp, hwl⟩ := hp
          have hwl : wl ≤ id := Nat.le_of_ble_eq_true hwl
          cases h
          obtain ⟨A, l, c, s, rfl, hs, hh, hg, hl⟩ := own_inv hv
          obtain ⟨hgen, hesz, hz0, hrow, hnone, hsome⟩ := rows_inv hI hb hs hh
          obtain ⟨rfl, hn, hsm⟩ := hl hgen.symm
          cases hblk : s.blk with
          | none =>
            have := hnone hblk; subst this
            have h0 := hn hblk
            have hset : σ.set id s = σ := by
              apply List.ext_getElem?
              intro i
              by_cases hi : i = id
              · subst hi; rw [List.getElem?_set_self (List.getElem?_eq_some_iff.1 hs).1, hs]
              · rw [List.getElem?_set_ne (by omega)]
            have hst := hI.set (R' := R) (w' := w) (b' := .rows esz [] g false) (s' := s) hb rfl hs hh hwl (SgLe.refl s) (fun k hk => .inl hk) (Below.refl _ _) (Nat.le_refl _) (fun _ _ _ => rfl) (RoLe.refl R) (fun _ _ h => .inl h)
              (fun k o v hv hk => by rw [hblk] at hk; cases hk)
              ⟨hgen, hesz, hz0, by simp, by rw [hblk]⟩
            rw [hset] at hst
            refine ⟨R, hst.widen (fun k hk => by rw [hblk] at hk; cases hk), ?_⟩
            rw [List.take_nil, h0.1]
            exact .roNil _ _
          | some b =>
            obtain ⟨arr, e, hheap, hcap, hcell, hro⟩ := hsome b hblk
            obtain ⟨rfl, hlc, hce⟩ := hsm b hblk
            let R' : Ro := fun k o => if k = b then (if o < rs.length * esz then arr[o]? else none) else R k o
            have hRle : RoLe R R' := by
              intro k o u hu
              by_cases hk : k = b
              · subst hk
                have h1 := hro o (by simp [hu])
                have h2 := hI.ro k o u hu
                rw [cell_of_block hheap] at h2
                show (if k = k then _ else _) = _
                rw [if_pos rfl, if_pos h1.2, h2]
              · show (if k = b then _ else _) = _
                rw [if_neg hk]; exact hu
            have hset : σ.set id s = σ := by
              apply List.ext_getElem?
              intro i
              by_cases hi : i = id
              · subst hi; rw [List.getElem?_set_self (List.getElem?_eq_some_iff.1 hs).1, hs]
              · rw [List.getElem?_set_ne (by omega)]
            have hst := hI.set (R' := R') (w' := w) (b' := .rows esz rs g false) (s' := s) hb rfl hs hh hwl (SgLe.refl s) (fun k hk => .inl hk) (Below.refl _ _) (Nat.le_refl _) (fun _ _ _ => rfl) hRle
              (fun k o ho => by
                by_cases hk : k = b
                · subst hk; exact .inr hblk
                · refine .inl ?_
                  have : R' k o = R k o := by show (if k = b then _ else _) = _; rw [if_neg hk]
                  rwa [this] at ho)
              (fun k o v hv hk => by
                rw [hblk] at hk; cases hk
                have : R' b o = if o < rs.length * esz then arr[o]? else none := by show (if b = b then _ else _) = _; rw [if_pos rfl]
                rw [this] at hv
                split at hv
                · rw [cell_of_block hheap]; exact hv
                · cases hv)
              ⟨hgen, hesz, hz0, hrow, by
                rw [hblk]
                refine ⟨arr, e, hheap, hcap, fun i j r x hr hx => ?_, fun o ho => ⟨rfl, ?_⟩⟩
                · obtain ⟨cv, h1, h2⟩ := hcell i j r x hr hx
                  exact ⟨cv, h1, by rw [hset]; exact h2.mono hRle (Ext.refl σ)⟩
                · have : R' b o = if o < rs.length * esz then arr[o]? else none := by show (if b = b then _ else _) = _; rw [if_pos rfl]
                  rw [this] at ho
                  split at ho
                  · assumption
                  · exact absurd rfl ho⟩
            rw [hset] at hst
            refine ⟨R', hst.widen (fun k hk => hI.ge id _ s k hwl hb rfl hs hk), ?_⟩
            by_cases h0 : l = 0
            · subst h0; rw [List.take_zero]; exact .roNil _ _
            · have htl : (rs.take l).length = l := by rw [List.length_take]; omega
              have := RelV.ro (R := R') (σ := σ) (rs.take l) b 0 c esz (fun i j => arr.getD (i * esz + j) undef) (by rw [htl]; omega)
                (fun r hr => (hrow r (List.mem_of_mem_take hr)).1)
                (by
                  unfold pureR at *
                  rw [List.all_eq_true] at *
                  exact fun r hr => hp r (List.mem_of_mem_take hr))
                (by rw [List.all_eq_true]; exact fun r hr => (hrow r (List.mem_of_mem_take hr)).2)
                (fun i j r x hr hx => by
                  obtain ⟨cv, h1, h2⟩ := hcell i j r x (take_get hr).1 hx
                  have : arr.getD (i * esz + j) undef = cv := by simp [h1]
                  rw [this]; exact h2.mono hRle (Ext.refl σ))
                (fun i j r x hr hx => by
                  obtain ⟨hr, hi⟩ := take_get hr
                  obtain ⟨cv, h1, h2⟩ := hcell i j r x hr hx
                  have hlt : i * esz + j < rs.length * esz := by
                    have hi2 := (List.getElem?_eq_some_iff.1 hr).1
                    have hj := (List.getElem?_eq_some_iff.1 hx).1
                    rw [(hrow r (List.mem_of_getElem? hr)).1] at hj
                    calc i * esz + j < i * esz + esz := by omega
                      _ = (i + 1) * esz := by rw [Nat.succ_mul]
                      _ ≤ rs.length * esz := Nat.mul_le_mul_right _ hi2
                  show (if b = b then _ else _) = _
                  rw [if_pos rfl, Nat.zero_add, if_pos hlt, h1]
                  simp [h1])
              rw [htl] at this
              exact this
        · cases h
      · cases h
    · cases h
  · cases h
    exact ⟨R, Stp.refl hI, hv⟩

theorem RelV.cons {v : V} {vs : List V} {cv : Value} {cvs : List Value} (h : RelV R σ v cv) (hs : RelA R σ vs cvs.toArray) : RelA R σ (v :: vs) (cv :: cvs).toArray := by
  refine ⟨by have := hs.1; simp at this ⊢; omega, fun i c hc => ?_⟩
  cases i with
  | zero => simp at hc; subst hc; simpa using h
  | succ i => have := hs.2 i c (by simpa using hc); simpa using this

theorem RelA.uncons {v : V} {vs : List V} {cvs : Array Value} (h : RelA R σ (v :: vs) cvs) : ∃ cv l, cvs = (cv :: l).toArray ∧ RelV R σ v cv ∧ RelA R σ vs l.toArray := by
  obtain ⟨l, rfl⟩ : ∃ l : List Value, cvs = l.toArray := ⟨cvs.toList, by simp⟩
  cases l with
  | nil => have := h.1; simp at this
  | cons cv l =>
    refine ⟨cv, l, rfl, by simpa using h.2 0 v rfl, ⟨by have := h.1; simp at this ⊢; omega, fun i c hc => ?_⟩⟩
    have := h.2 (i + 1) c (by simpa using hc)
    simpa using this

theorem RelA.nil (R : Ro) (σ : List Sg) : RelA R σ [] #[] := ⟨rfl, fun i c hc => by simp at hc⟩

theorem RelA.nil_inv {cvs : Array Value} (h : RelA R σ [] cvs) : cvs = #[] := by
  have := h.1
  simpa using this

theorem fzC_one {v v' : V} {H' : Hp} (h : fzC wl v H = some (v', H')) (ho : v.one = true) : v'.one = true := by
  unfold fzC at h
  split at h
  · split at h
    · split at h
      · split at h
        · cases h; rfl
        · cases h
      · cases h
    · cases h
  · cases h; exact ho

theorem fzC_len {v v' : V} {H' : Hp} (h : fzC wl v H = some (v', H')) : H'.length = H.length := by
  unfold fzC at h
  split at h
  · split at h
    · split at h
      · split at h
        · cases h; simp
        · cases h
      · cases h
    · cases h
  · cases h; rfl

theorem fzL_run (nl : Bool) : ∀ {vs vs' : List V} {H H' : Hp} {R : Ro} {cvs : Array Value}, Inv wl B0 w0 R σ H w → fzL wl nl vs H = some (vs', H') → RelA R σ vs cvs →
    ∃ R', Stp (TB B0) wl B0 w0 R σ w R' σ H' w ∧ RelA R' σ vs' cvs ∧ (onesL vs = true → onesL vs' = true) ∧ vs'.length = vs.length
  | [], vs', H, H', R, cvs, hI, h, hr => by
    cases h
    exact ⟨R, Stp.refl hI, hr, fun h => h, rfl⟩
  | v :: vs, vs', H, H', R, cvs, hI, h, hr => by
    simp only [fzL, Option.bind_eq_some_iff] at h
    obtain ⟨p, hp, q, hq, e⟩ := h
    cases e
    obtain ⟨cv, l, rfl, h1, h2⟩ := hr.uncons
    have first : ∃ R', Stp (TB B0) wl B0 w0 R σ w R' σ p.2 w ∧ RelV R' σ p.1 cv ∧ (v.one = true → p.1.one = true) := by
      split at hp
      · split at hp
        · cases hp; cases h1; exact ⟨R, Stp.refl hI, .roNil _ _, fun _ => rfl⟩
        · cases hp; exact ⟨R, Stp.refl hI, h1, fun h => h⟩
      · obtain ⟨R', a, b⟩ := fzC_run hI hp h1
        exact ⟨R', a, b, fzC_one hp⟩
    obtain ⟨R1, s1, r1, o1⟩ := first
    obtain ⟨R2, s2, r2, o2, l2⟩ := fzL_run nl s1.inv hq (h2.mono s1.le (Ext.refl σ))
    refine ⟨R2, s1.trans s2 (Nat.le_refl _), (r1.mono s2.le (Ext.refl σ)).cons r2, fun ho => ?_, by simp [l2]⟩
    simp only [onesL, List.all_cons, Bool.and_eq_true] at ho ⊢
    exact ⟨o1 ho.1, o2 ho.2⟩

theorem fzA_run {v v' : V} {H' : Hp} {cv : Value} (hI : Inv wl B0 w0 R σ H w) (h : fzA wl v H = some (v', H')) (hv : RelV R σ v cv) :
    ∃ R', Stp (TB B0) wl B0 w0 R σ w R' σ H' w ∧ RelV R' σ v' cv := by
  unfold fzA at h
  split at h
  · rename_i cs
    simp only [Option.bind_eq_some_iff] at h
    obtain ⟨p, hp, e⟩ := h
    cases e
    obtain ⟨vs, rfl, ho, hr⟩ := agg_inv hv
    obtain ⟨R', s, r, o, l⟩ := fzL_run true hI hp hr
    exact ⟨R', s, .agg _ _ r.1 (o ho) r.2⟩
  · exact fzC_run hI h hv

theorem fzAs_run : ∀ {vs vs' : List V} {H H' : Hp} {R : Ro} {cvs : Array Value}, Inv wl B0 w0 R σ H w → fzAs wl vs H = some (vs', H') → RelA R σ vs cvs →
    ∃ R', Stp (TB B0) wl B0 w0 R σ w R' σ H' w ∧ RelA R' σ vs' cvs
  | [], vs', H, H', R, cvs, hI, h, hr => by
    cases h
    exact ⟨R, Stp.refl hI, hr⟩
  | v :: vs, vs', H, H', R, cvs, hI, h, hr => by
    simp only [fzAs, Option.bind_eq_some_iff] at h
    obtain ⟨p, hp, q, hq, e⟩ := h
    cases e
    obtain ⟨cv, l, rfl, h1, h2⟩ := hr.uncons
    obtain ⟨R1, s1, r1⟩ := fzA_run hI hp h1
    obtain ⟨R2, s2, r2⟩ := fzAs_run s1.inv hq (h2.mono s1.le (Ext.refl σ))
    exact ⟨R2, s1.trans s2 (Nat.le_refl _), (r1.mono s2.le (Ext.refl σ)).cons r2⟩

theorem fzR1_run {v v' : V} {H' : Hp} {cv : Value} (hI : Inv wl B0 w0 R σ H w) (h : fzR1 wl v H = some (v', H')) (hv : RelV R σ v cv) :
    ∃ R', Stp (TB B0) wl B0 w0 R σ w R' σ H' w ∧ RelV R' σ v' cv := by
  unfold fzR1 at h
  split at h
  · cases h; cases hv; exact ⟨R, Stp.refl hI, .roNil _ _⟩
  · exact fzA_run hI h hv

theorem fzR1s_run : ∀ {vs vs' : List V} {H H' : Hp} {R : Ro} {cvs : Array Value}, Inv wl B0 w0 R σ H w → fzR1s wl vs H = some (vs', H') → RelA R σ vs cvs →
    ∃ R', Stp (TB B0) wl B0 w0 R σ w R' σ H' w ∧ RelA R' σ vs' cvs
  | [], vs', H, H', R, cvs, hI, h, hr => by
    cases h
    exact ⟨R, Stp.refl hI, hr⟩
  | v :: vs, vs', H, H', R, cvs, hI, h, hr => by
    simp only [fzR1s, Option.bind_eq_some_iff] at h
    obtain ⟨p, hp, q, hq, e⟩ := h
    cases e
    obtain ⟨cv, l, rfl, h1, h2⟩ := hr.uncons
    obtain ⟨R1, s1, r1⟩ := fzR1_run hI hp h1
    obtain ⟨R2, s2, r2⟩ := fzR1s_run s1.inv hq (h2.mono s1.le (Ext.refl σ))
    exact ⟨R2, s1.trans s2 (Nat.le_refl _), (r1.mono s2.le (Ext.refl σ)).cons r2⟩

theorem tup_inv {cs : List V} {cv : Value} (h : RelV R σ (.tup cs) cv) : ∃ vs, cv = .tuple vs ∧ RelA R σ cs vs := by
  cases h with
  | tup _ vs hl hh => exact ⟨vs, rfl, hl, hh⟩

theorem fzR_run {v v' : V} {H' : Hp} {cv : Value} (hI : Inv wl B0 w0 R σ H w) (h : fzR wl v H = some (v', H')) (hv : RelV R σ v cv) :
    ∃ R', Stp (TB B0) wl B0 w0 R σ w R' σ H' w ∧ RelV R' σ v' cv := by
  unfold fzR at h
  split at h
  · rename_i cs
    simp only [Option.bind_eq_some_iff] at h
    obtain ⟨p, hp, e⟩ := h
    cases e
    obtain ⟨vs, rfl, hr⟩ := tup_inv hv
    obtain ⟨R', s, r⟩ := fzR1s_run hI hp hr
    exact ⟨R', s, .tup _ _ r.1 r.2⟩
  · exact fzR1_run hI h hv

/-- Nil slices get a block of their own. -/
theorem matL_run : ∀ {vs : List V} {H : Hp} {σ : List Sg} {cvs : Array Value}, Inv wl B0 w0 R σ H w → RelA R σ vs cvs →
    ∃ τ, Stp (fun _ => False) wl B0 w0 R σ w R (σ ++ τ) (matL vs H).2 w ∧ RelA R (σ ++ τ) (matL vs H).1 cvs ∧ (onesL vs = true → onesL (matL vs H).1 = true) ∧ (matL vs H).1.length = vs.length
  | [], H, σ, cvs, hI, hr => ⟨[], by simpa [matL] using Stp.refl hI, by simpa [matL] using hr, fun h => h, rfl⟩
  | v :: vs, H, σ, cvs, hI, hr => by
    obtain ⟨cv, l, rfl, h1, h2⟩ := hr.uncons
    by_cases hn : v = .nil
    · subst hn
      cases h1
      have hp := hI.push_stp (T := fun _ => False) (w' := w) (b := .rows 0 [] 0 true) (s := ⟨none, 0, 0, 0, false⟩) (Below.refl _ _) (fun k hk => by cases hk) ⟨rfl, rfl, fun h => absurd rfl h, by simp, rfl⟩
      obtain ⟨τ, s2, r2, o2, l2⟩ := matL_run hp.inv (h2.mono (RoLe.refl R) (Ext.append σ _))
      refine ⟨⟨none, 0, 0, 0, false⟩ :: τ, ?_, ?_, fun ho => ?_, ?_⟩
      · have := hp.trans s2 (Nat.le_refl _)
        simpa [matL] using this
      · have hq : RelV R (σ ++ [⟨none, 0, 0, 0, false⟩] ++ τ) (.own H.length 0 0) (.slice none 0 0) :=
          .own _ _ _ _ _ _ ⟨none, 0, 0, 0, false⟩ (by rw [List.append_assoc, ← hI.len]; simp) rfl (Nat.le_refl _) (fun _ => ⟨rfl, fun _ => ⟨rfl, rfl⟩, fun b hb => by cases hb⟩)
        have := hq.cons r2
        simpa [matL] using this
      · simp only [onesL, List.all_cons, Bool.and_eq_true] at ho
        have := o2 ho.2
        simp only [matL, onesL, List.all_cons, Bool.and_eq_true]
        exact ⟨rfl, this⟩
      · simp [matL, l2]
    · obtain ⟨τ, s2, r2, o2, l2⟩ := matL_run hI h2
      have e : matL (v :: vs) H = (v :: (matL vs H).1, (matL vs H).2) := by
        cases v <;> first | rfl | exact absurd rfl hn
      rw [e]
      refine ⟨τ, s2, (h1.mono (RoLe.refl R) (Ext.append σ τ)).cons r2, fun ho => ?_, by simp [l2]⟩
      simp only [onesL, List.all_cons, Bool.and_eq_true] at ho ⊢
      exact ⟨ho.1, o2 ho.2⟩

theorem Below.one_alloc (w : World) (o : Obj) : Below w.heap.size w (w.alloc o) := (Below.refl _ w).alloc (Nat.le_refl _) o

theorem alloc_new (w : World) (o : Obj) : (w.alloc o).heap[w.heap.size]? = some o := World.alloc_heap_new w o

theorem Inv.ro_new (hI : Inv wl B0 w0 R σ H w) (o : Nat) : R w.heap.size o = none := by
  cases h : R w.heap.size o with
  | none => rfl
  | some v => have := hI.ro_lt (b := w.heap.size) (o := o) (by simp [h]); omega

/-- A new variable with these cells. -/
theorem newBox_run (hI : Inv wl B0 w0 R σ H w) {vs : List V} {cells : Array Value} (e : TypeId) (hr : RelA R σ vs cells) (ho : onesL vs = true) :
    ∃ τ, Stp (fun _ => False) wl B0 w0 R σ w R (σ ++ τ) ((matL vs H).2 ++ [.box (matL vs H).1]) (w.alloc (.cells cells e)) ∧
      RelV R (σ ++ τ) (.ptr (matL vs H).2.length 0 0 0) (.pointer (some ⟨w.heap.size, 0, none⟩)) := by
  obtain ⟨τ, s1, r1, o1, l1⟩ := matL_run hI hr
  have hb := Below.one_alloc w (.cells cells e)
  let s : Sg := ⟨some w.heap.size, 0, 0, 0, false⟩
  have hp := s1.inv.push_stp (T := fun _ => False) (w' := w.alloc (.cells cells e)) (b := .box (matL vs H).1) (s := s) hb
    (fun k hk => by cases hk; exact ⟨Nat.le_refl _, by simp⟩)
    ⟨rfl, o1 ho, w.heap.size, cells, e, rfl, alloc_new w _, r1.mono (RoLe.refl R) (Ext.append _ _), fun o => hI.ro_new o⟩
  refine ⟨τ ++ [s], ?_, ?_⟩
  · rw [← List.append_assoc]
    exact s1.trans hp (Nat.le_refl _)
  · refine .ptr _ _ _ _ _ s ?_ rfl (Nat.le_refl _) (fun _ => ⟨w.heap.size, rfl, by simp⟩)
    rw [← List.append_assoc, ← s1.inv.len]
    simp

theorem zeroCs_rel (z : Value) (h : onesL (zeroCs z) = true) : RelA R σ (zeroCs z) z.cells := by
  refine ⟨by simp [zeroCs], fun i c hc => ?_⟩
  unfold zeroCs at hc
  rw [List.getElem?_map] at hc
  cases hx : z.cells.toList[i]? with
  | none => rw [hx] at hc; cases hc
  | some x =>
    rw [hx] at hc; cases hc
    have e : z.cells.getD i undef = x := by simp at hx; simp [hx]
    rw [e]
    refine (constC_rel x ?_).1
    have := onesL_get h (i := i) (x := constC x) (by simp only [zeroCs, List.getElem?_map, hx]; rfl)
    unfold constC at this
    split at this
    · rfl
    · exact this

theorem zeroOf_some {t : TypeId} {z : Value} (h : zeroOf P t = some z) : ∃ i, P.info? t = some i ∧ i.zero = some z := by
  unfold zeroOf at h
  simpa [Option.bind_eq_some_iff] using h

theorem run_zero {t : TypeId} {z : Value} (h : zeroOf P t = some z) : (zeroValue t).run P w = .ok z w := by
  obtain ⟨i, hi, hz⟩ := zeroOf_some h
  simp [zeroValue, typeInfo, hi, hz]

end ops
end Go.Ab
