/- How what is known of memory is carried on: a new block; a block that is written; a block that nobody writes any more. -/
import Derived.Test.YtecgfaaaloameaaAbOps2
namespace Go.Ab
open Go.RowKit
section heap
variable {P : Program} {wl B0 : Nat} {w0 : World} {R R' : Ro} {σ σ' : List Sg} {H : Hp} {w w' : World}

theorem RelB.mono {s : Sg} {b : B} (h : RelB R σ w s b) (hR : RoLe R R') (hσ : Ext σ σ') (hw : ∀ k, s.blk = some k → w'.heap[k]? = w.heap[k]?)
    (hn : ∀ k o, s.blk = some k → R' k o ≠ none → R k o ≠ none) : RelB R' σ' w' s b := by
  cases b with
  | rows esz rs g live =>
    obtain ⟨h1, h2, h0, h3, h4⟩ := h
    refine ⟨h1, h2, h0, h3, ?_⟩
    cases hb : s.blk with
    | none => rw [hb] at h4; exact h4
    | some k =>
      rw [hb] at h4
      obtain ⟨arr, e, h5, h6, h7, h8⟩ := h4
      exact ⟨arr, e, (hw k hb).trans h5, h6, fun i j r x hr hx => let ⟨cv, a1, a2⟩ := h7 i j r x hr hx; ⟨cv, a1, a2.mono hR hσ⟩, fun o ho => h8 o (hn k o hb ho)⟩
  | box cs =>
    obtain ⟨h1, h2, k, arr, e, h3, h4, h5, h6⟩ := h
    refine ⟨h1, h2, k, arr, e, h3, (hw k h3).trans h4, h5.mono hR hσ, fun o => ?_⟩
    cases hr : R' k o with
    | none => rfl
    | some v => exact absurd (h6 o) (hn k o h3 (by simp [hr]))
  | map es =>
    obtain ⟨h1, k, ents, clock, h3, h4, h5, h6⟩ := h
    exact ⟨h1, k, ents, clock, h3, (hw k h3).trans h4, h5, fun i e he => let ⟨m, a1, a2, a3⟩ := h6 i e he; ⟨m, a1, a2, a3.mono hR hσ⟩⟩
  | dead => trivial
  | loop l =>
    obtain ⟨h1, k, r, h3, h4, h5, h6, h8, h9, h10, h11⟩ := h
    exact ⟨h1, k, r, h3, (hw k h3).trans h4, h5, h6, h8, h9, h10, h11.mono hR hσ⟩

theorem Inv.ro_lt (hI : Inv wl B0 w0 R σ H w) {b o : Nat} (h : R b o ≠ none) : b < w.heap.size := by
  cases hr : R b o with
  | none => exact absurd hr h
  | some v =>
    have := hI.ro b o v hr
    cases hb : w.heap[b]? with
    | none => simp [World.cell?, hb] at this
    | some x => exact (Array.getElem?_eq_some_iff.1 hb).1

/-- The world goes on, and nothing that lay there is touched. -/
theorem Inv.world (hI : Inv wl B0 w0 R σ H w) (hb : Below w.heap.size w w') : Inv wl B0 w0 R σ H w' where
  below := hI.below.trans (hb.mono hI.base)
  base := Nat.le_trans hI.base hb.size
  len := hI.len
  blk id b s h1 h2 hh := by
    by_cases hd : b.isDead = true
    · cases b <;> first | trivial | cases hd
    · have hd : b.isDead = false := by simpa using hd
      exact (hI.blk id b s h1 h2 hh).mono (RoLe.refl R) (Ext.refl σ) (fun k hk => hb.block k (hI.lt id b s k h1 hd h2 hk)) (fun _ _ _ h => h)
  inj := hI.inj
  ge := hI.ge
  lt id x s b h1 h2 h3 h4 := Nat.lt_of_lt_of_le (hI.lt id x s b h1 h2 h3 h4) hb.size
  ro b o v hv := by
    have h1 := hI.ro b o v hv
    have hlt := hI.ro_lt (b := b) (o := o) (by simp [hv])
    rw [hb.cell (p := ⟨b, o, none⟩) hlt]; exact h1

theorem Inv.stp (hI : Inv wl B0 w0 R σ H w) {T : Nat → Prop} (hb : Below w.heap.size w w') : Stp T wl B0 w0 R σ w R σ H w' :=
  ⟨hI.world hb, Ext.refl σ, RoLe.refl R, fun _ _ h => .inl h, fun b hlt _ => hb.block b hlt, fun b _ hd => hb.block b (Array.getElem?_eq_some_iff.1 hd).1, fun _ _ h _ => h⟩

theorem append_one {α : Type} {l : List α} {a x : α} {i : Nat} (h : (l ++ [a])[i]? = some x) : (i < l.length ∧ l[i]? = some x) ∨ (i = l.length ∧ x = a) := by
  by_cases hi : i < l.length
  · rw [List.getElem?_append_left hi] at h; exact .inl ⟨hi, h⟩
  · have h2 := (List.getElem?_eq_some_iff.1 h).1
    simp at h2
    have : i = l.length := by omega
    subst this
    simp at h
    exact .inr ⟨rfl, h.symm⟩

/-- A new abstract block. Its own block of the world, if it has one, is new. -/
theorem Inv.push (hI : Inv wl B0 w0 R σ H w) {b : B} {s : Sg} (hb : Below w.heap.size w w')
    (hs : ∀ k, s.blk = some k → w.heap.size ≤ k ∧ k < w'.heap.size) (hr : RelB R (σ ++ [s]) w' s b) : Inv wl B0 w0 R (σ ++ [s]) (H ++ [b]) w' := by
  have hW := hI.world hb
  have old : ∀ (id : Nat) (x : B) (y : Sg), (H ++ [b])[id]? = some x → (σ ++ [s])[id]? = some y → (H[id]? = some x ∧ σ[id]? = some y) ∨ (id = H.length ∧ x = b ∧ y = s) := by
    intro id x y h1 h2
    rcases append_one h1 with ⟨hlt, h1⟩ | ⟨e, h1⟩
    · rcases append_one h2 with ⟨_, h2⟩ | ⟨e2, h2⟩
      · exact .inl ⟨h1, h2⟩
      · rw [hI.len] at e2; omega
    · rcases append_one h2 with ⟨hlt, h2⟩ | ⟨e2, h2⟩
      · rw [hI.len] at hlt; omega
      · exact .inr ⟨e, h1, h2⟩
  have oldlt : ∀ (id : Nat) (x : B) (y : Sg) (k : Nat), H[id]? = some x → x.isDead = false → σ[id]? = some y → y.blk = some k → k < w.heap.size := hI.lt
  refine ⟨hW.below, hW.base, by simp [hI.len], ?_, ?_, ?_, ?_, hW.ro⟩
  · intro id x y h1 h2 hh
    rcases old id x y h1 h2 with ⟨a, c⟩ | ⟨rfl, rfl, rfl⟩
    · exact (hW.blk id x y a c hh).mono (RoLe.refl R) (Ext.append σ [s]) (fun _ _ => rfl) (fun _ _ _ h => h)
    · exact hr
  · intro i j bi bj si sj k h1 h2 d1 d2 h3 h4 e1 e2
    rcases old i bi si h1 h3 with ⟨a, c⟩ | ⟨rfl, rfl, rfl⟩
    · rcases old j bj sj h2 h4 with ⟨a', c'⟩ | ⟨rfl, rfl, rfl⟩
      · exact hI.inj i j bi bj si sj k a a' d1 d2 c c' e1 e2
      · have := oldlt i bi si k a d1 c e1; have := (hs k e2).1; omega
    · rcases old j bj sj h2 h4 with ⟨a', c'⟩ | ⟨rfl, rfl, rfl⟩
      · have := oldlt j bj sj k a' d2 c' e2; have := (hs k e1).1; omega
      · rfl
  · intro id x y k hle h1 d h2 e
    rcases old id x y h1 h2 with ⟨a, c⟩ | ⟨rfl, rfl, rfl⟩
    · exact hI.ge id x y k hle a d c e
    · have := (hs k e).1; have := hI.base; omega
  · intro id x y k h1 d h2 e
    rcases old id x y h1 h2 with ⟨a, c⟩ | ⟨rfl, rfl, rfl⟩
    · exact hW.lt id x y k a d c e
    · exact (hs k e).2

theorem Inv.push_stp (hI : Inv wl B0 w0 R σ H w) {T : Nat → Prop} {b : B} {s : Sg} (hb : Below w.heap.size w w')
    (hs : ∀ k, s.blk = some k → w.heap.size ≤ k ∧ k < w'.heap.size) (hr : RelB R (σ ++ [s]) w' s b) : Stp T wl B0 w0 R σ w R (σ ++ [s]) (H ++ [b]) w' :=
  ⟨hI.push hb hs hr, Ext.append σ [s], RoLe.refl R, fun _ _ h => .inl h, fun b hlt _ => hb.block b hlt, fun b _ hd => hb.block b (Array.getElem?_eq_some_iff.1 hd).1, fun id s hs _ => by rw [List.getElem?_append_left (List.getElem?_eq_some_iff.1 hs).1]; exact hs⟩

/-- No block that is known of holds deferred calls. -/
theorem Inv.notDfr (hI : Inv wl B0 w0 R σ H w) {id : Nat} {b : B} {s : Sg} (hH : H[id]? = some b) (hd : b.isDead = false) (hσ : σ[id]? = some s) (hh : s.hole = false) {k : Nat} {ds : Option (List Deferred)}
    (hk : w.heap[k]? = some (.deferred ds)) : s.blk ≠ some k := by
  intro e
  have h := hI.blk id b s hH hσ hh
  cases b with
  | rows esz rs g live =>
    obtain ⟨_, _, _, _, h4⟩ := h
    rw [e] at h4
    obtain ⟨arr, e', h5, _⟩ := h4
    rw [hk] at h5; cases h5
  | box cs =>
    obtain ⟨_, _, k', arr, e', h3, h4, _⟩ := h
    rw [e] at h3; cases h3
    rw [hk] at h4; cases h4
  | map es =>
    obtain ⟨_, k', ents, clock, h3, h4, _⟩ := h
    rw [e] at h3; cases h3
    rw [hk] at h4; cases h4
  | dead => cases hd
  | loop l =>
    obtain ⟨_, k', r, h3, h4, _⟩ := h
    rw [e] at h3; cases h3
    rw [hk] at h4; cases h4

theorem set_cases {α : Type} {l : List α} {n i : Nat} {a x : α} (h : (l.set n a)[i]? = some x) : (i = n ∧ x = a ∧ n < l.length) ∨ (i ≠ n ∧ l[i]? = some x) := by
  by_cases hi : i = n
  · subst hi
    rw [List.getElem?_set_self'] at h
    cases hl : l[i]? with
    | none => rw [hl] at h; cases h
    | some y => rw [hl] at h; cases h; exact .inl ⟨rfl, rfl, (List.getElem?_eq_some_iff.1 hl).1⟩
  · rw [List.getElem?_set_ne (by omega)] at h
    exact .inr ⟨hi, h⟩

/-- A block is another one now: what stands in the world at its place, what is known of where it lies, and what of it nobody writes. -/
theorem Inv.set (hI : Inv wl B0 w0 R σ H w) {id : Nat} {b b' : B} {s s' : Sg} (hH : H[id]? = some b) (hd : b.isDead = false) (hσ : σ[id]? = some s) (hh : s.hole = false) (hle : wl ≤ id)
    (hsg : SgLe s s') (hbl : ∀ k, s'.blk = some k → s.blk = some k ∨ (w.heap.size ≤ k ∧ k < w'.heap.size))
    (hb : Below B0 w w') (hsz : w.heap.size ≤ w'.heap.size) (hw : ∀ k, k < w.heap.size → s.blk ≠ some k → w'.heap[k]? = w.heap[k]?)
    (hR : RoLe R R') (hn : ∀ k o, R' k o ≠ none → R k o ≠ none ∨ s.blk = some k)
    (hro : ∀ k o v, R' k o = some v → s.blk = some k → w'.cell? ⟨k, o, none⟩ = some v)
    (hr : RelB R' (σ.set id s') w' s' b') : Stp (fun k => s.blk = some k) wl B0 w0 R σ w R' (σ.set id s') (H.set id b') w' := by
  have hlt : id < σ.length := (List.getElem?_eq_some_iff.1 hσ).1
  have hext : Ext σ (σ.set id s') := by
    intro i t ht
    by_cases hi : i = id
    · subst hi
      rw [hσ] at ht; cases ht
      exact ⟨s', by rw [List.getElem?_set_self hlt], hsg⟩
    · exact ⟨t, by rw [List.getElem?_set_ne (by omega)]; exact ht, SgLe.refl t⟩
  have hother : ∀ (i : Nat) (x : B) (y : Sg) (k : Nat), i ≠ id → H[i]? = some x → x.isDead = false → σ[i]? = some y → y.blk = some k → s.blk ≠ some k := by
    intro i x y k hi h1 d h2 e e2
    exact hi (hI.inj i id x b y s k h1 hH d hd h2 hσ e e2)
  refine ⟨⟨hI.below.trans hb, Nat.le_trans hI.base hsz, by simp [hI.len], ?_, ?_, ?_, ?_, ?_⟩, hext, hR, ?_, ?_, ?_, ?_⟩
  · intro i x y h1 h2 hhy
    rcases set_cases h1 with ⟨rfl, rfl, _⟩ | ⟨hi, h1⟩
    · rcases set_cases h2 with ⟨_, rfl, _⟩ | ⟨hi, _⟩
      · exact hr
      · exact absurd rfl hi
    · rcases set_cases h2 with ⟨e, _⟩ | ⟨_, h2⟩
      · exact absurd e hi
      · by_cases hdx : x.isDead = true
        · cases x <;> first | trivial | cases hdx
        · have hdx : x.isDead = false := by simpa using hdx
          exact (hI.blk i x y h1 h2 hhy).mono hR hext
            (fun k hk => hw k (hI.lt i x y k h1 hdx h2 hk) (hother i x y k hi h1 hdx h2 hk))
            (fun k o hk ho => (hn k o ho).elim (fun h => h) (fun h => absurd h (hother i x y k hi h1 hdx h2 hk)))
  · intro i j bi bj si sj k h1 h2 d1 d2 h3 h4 e1 e2
    rcases set_cases h1 with ⟨rfl, rfl, _⟩ | ⟨hi, h1⟩
    · rcases set_cases h2 with ⟨rfl, _, _⟩ | ⟨hj, h2⟩
      · rfl
      · rcases set_cases h3 with ⟨_, rfl, _⟩ | ⟨hi, _⟩
        · rcases set_cases h4 with ⟨e, _⟩ | ⟨_, h4⟩
          · exact absurd e hj
          · rcases hbl k e1 with hk | hk
            · exact absurd hk (hother j bj sj k hj h2 d2 h4 e2)
            · have := hI.lt j bj sj k h2 d2 h4 e2; omega
        · exact absurd rfl hi
    · rcases set_cases h3 with ⟨e, _⟩ | ⟨_, h3⟩
      · exact absurd e hi
      · rcases set_cases h2 with ⟨e0, e3, _⟩ | ⟨hj, h2⟩
        · rcases set_cases h4 with ⟨_, e4, _⟩ | ⟨hj, _⟩
          · rw [e4] at e2
            rcases hbl k e2 with hk | hk
            · exact absurd hk (hother i bi si k hi h1 d1 h3 e1)
            · have := hI.lt i bi si k h1 d1 h3 e1; omega
          · exact absurd e0 hj
        · rcases set_cases h4 with ⟨e, _⟩ | ⟨_, h4⟩
          · exact absurd e hj
          · exact hI.inj i j bi bj si sj k h1 h2 d1 d2 h3 h4 e1 e2
  · intro i x y k hle' h1 d h2 e
    rcases set_cases h1 with ⟨rfl, rfl, _⟩ | ⟨hi, h1⟩
    · rcases set_cases h2 with ⟨_, rfl, _⟩ | ⟨hi, _⟩
      · rcases hbl k e with hk | hk
        · exact hI.ge i b s k hle hH hd hσ hk
        · have := hI.base; omega
      · exact absurd rfl hi
    · rcases set_cases h2 with ⟨e, _⟩ | ⟨_, h2⟩
      · exact absurd e hi
      · exact hI.ge i x y k hle' h1 d h2 e
  · intro i x y k h1 d h2 e
    rcases set_cases h1 with ⟨rfl, rfl, _⟩ | ⟨hi, h1⟩
    · rcases set_cases h2 with ⟨_, rfl, _⟩ | ⟨hi, _⟩
      · rcases hbl k e with hk | hk
        · exact Nat.lt_of_lt_of_le (hI.lt i b s k hH hd hσ hk) hsz
        · exact hk.2
      · exact absurd rfl hi
    · rcases set_cases h2 with ⟨e, _⟩ | ⟨_, h2⟩
      · exact absurd e hi
      · exact Nat.lt_of_lt_of_le (hI.lt i x y k h1 d h2 e) hsz
  · intro k o v hv
    by_cases hk : s.blk = some k
    · exact hro k o v hv hk
    · rcases hn k o (by simp [hv]) with h | h
      · cases hr0 : R k o with
        | none => exact absurd hr0 h
        | some u =>
          have hu := hR k o u hr0
          rw [hv] at hu; cases hu
          have hc := hI.ro k o v hr0
          have hl := hI.ro_lt (b := k) (o := o) h
          have hkk := hw k hl hk
          simp only [World.cell?] at hc ⊢
          rw [hkk]; exact hc
      · exact absurd h hk
  · intro k o ho
    rcases hn k o ho with h | h
    · exact .inl h
    · exact .inr (.inl h)
  · intro k hk hT
    exact hw k hk hT
  · intro k ds hk
    exact hw k (Array.getElem?_eq_some_iff.1 hk).1 (hI.notDfr hH hd hσ hh hk)
  · intro i t ht hht
    have hi : i ≠ id := fun e => by subst e; rw [hσ] at ht; cases ht; rw [hh] at hht; cases hht
    rw [List.getElem?_set_ne (by omega)]; exact ht

end heap
end Go.Ab
