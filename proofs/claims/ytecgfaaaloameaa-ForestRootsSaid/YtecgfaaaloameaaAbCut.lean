/- A heap cut off; a heap laid behind another one. -/
import Derived.Test.YtecgfaaaloameaaAbOps8
namespace Go.Ab
open Go.RowKit
section cut
variable {P : Program} {wl B0 : Nat} {w0 : World} {R R' : Ro} {σ σ' : List Sg} {H : Hp} {w w' : World}

theorem map_get {α β : Type} {f : α → β} {l : List α} {i : Nat} {y : β} (h : (l.map f)[i]? = some y) : ∃ x, l[i]? = some x ∧ y = f x := by
  rw [List.getElem?_map] at h
  cases hx : l[i]? with
  | none => rw [hx] at h; cases h
  | some x => rw [hx] at h; cases h; exact ⟨x, rfl, rfl⟩

theorem RelA.kill (n : Nat) {cs : List V} {vs : Array Value} (h : RelA R σ cs vs) : RelA R (σ.take n) (killL n cs) vs := by
  refine ⟨by rw [h.1, killL_eq, List.length_map], fun i c hc => ?_⟩
  rw [killL_eq] at hc
  obtain ⟨x, hx, rfl⟩ := map_get hc
  exact (h.2 i x hx).kill n

theorem RelA.shift (τ : List Sg) {cs : List V} {vs : Array Value} (h : RelA R σ cs vs) : RelA R (τ ++ σ) (shiftL τ.length cs) vs := by
  refine ⟨by rw [h.1, shiftL_eq, List.length_map], fun i c hc => ?_⟩
  rw [shiftL_eq] at hc
  obtain ⟨x, hx, rfl⟩ := map_get hc
  exact (h.2 i x hx).shift τ

theorem shift_pure (k : Nat) : ∀ {v : V}, v.pure = true → v.shift k = v := by
  have key : ∀ (n : Nat) (v : V), SizeOf.sizeOf v ≤ n → v.pure = true → v.shift k = v := by
    intro n
    induction n with
    | zero => intro v hv; cases v <;> simp at hv
    | succ n ih =>
      have list : ∀ (l : List V), SizeOf.sizeOf l ≤ n → pureL l = true → shiftL k l = l := by
        intro l
        induction l with
        | nil => intros; rfl
        | cons a l ihl =>
          intro hl hp
          simp only [pureL, Bool.and_eq_true] at hp
          simp only [List.cons.sizeOf_spec] at hl
          simp only [shiftL, ih a (by omega) hp.1, ihl (by omega) hp.2]
      intro v hv hp
      cases v with
      | agg cs => simp only [V.shift, V.agg.injEq]; simp only [V.agg.sizeOf_spec] at hv; exact list cs (by omega) (by simpa [V.pure] using hp)
      | tup cs => simp only [V.shift, V.tup.injEq]; simp only [V.tup.sizeOf_spec] at hv; exact list cs (by omega) (by simpa [V.pure] using hp)
      | fn f a b =>
        simp only [V.pure, Bool.and_eq_true] at hp
        simp only [V.fn.sizeOf_spec] at hv
        simp only [V.shift, V.fn.injEq, true_and]
        exact ⟨list a (by omega) hp.1, list b (by omega) hp.2⟩
      | yld => cases hp
      | ptr => cases hp
      | own => cases hp
      | map => cases hp
      | _ => rfl
  intro v h
  exact key _ v (Nat.le_refl _) h

/-- Rows, each cell turned: what is known of them. -/
theorem rows_turn {f : List V → List V} {g : V → V} (hf : ∀ l, f l = l.map g) {rs : List (List V)} {i j : Nat} {r : List V} {x : V}
    (h1 : (if pureR rs then rs else rs.map f)[i]? = some r) (h2 : r[j]? = some x) : ∃ r' x', rs[i]? = some r' ∧ r'[j]? = some x' ∧ ((pureR rs = true ∧ x = x') ∨ x = g x') := by
  split at h1
  · rename_i hp
    exact ⟨r, x, h1, h2, .inl ⟨hp, rfl⟩⟩
  · obtain ⟨r', hr', rfl⟩ := map_get h1
    rw [hf] at h2
    obtain ⟨x', hx', rfl⟩ := map_get h2
    exact ⟨r', x', hr', hx', .inr rfl⟩

theorem rows_turn_mem {f : List V → List V} {g : V → V} (hf : ∀ l, f l = l.map g) (hg : ∀ v, v.one = true → (g v).one = true) {rs : List (List V)} {esz : Nat} (h : ∀ r ∈ rs, r.length = esz ∧ onesL r = true) :
    ∀ r ∈ (if pureR rs then rs else rs.map f), r.length = esz ∧ onesL r = true := by
  split
  · exact h
  · intro r hr
    obtain ⟨r', hr', rfl⟩ := List.mem_map.1 hr
    obtain ⟨h1, h2⟩ := h r' hr'
    rw [hf]
    refine ⟨by simpa using h1, ?_⟩
    simp only [onesL, List.all_eq_true, List.mem_map] at *
    rintro x ⟨y, hy, rfl⟩
    exact hg y (h2 y hy)

theorem rows_turn_len {f : List V → List V} {rs : List (List V)} : (if pureR rs then rs else rs.map f).length = rs.length := by
  split <;> simp

theorem killL_eq' (n : Nat) : ∀ l, killL n l = l.map (V.kill n) := killL_eq n

theorem RelB.kill (n : Nat) {s : Sg} {b : B} (h : RelB R σ w s b) : RelB R (σ.take n) w s (b.kill n) := by
  cases b with
  | rows esz rs g live =>
    obtain ⟨h1, h2, h0, h3, h4⟩ := h
    refine ⟨h1, h2, h0, rows_turn_mem (killL_eq n) (kill_one n) h3, ?_⟩
    cases hb : s.blk with
    | none => rw [hb] at h4; simp only at h4; subst h4; rfl
    | some k =>
      rw [hb] at h4
      obtain ⟨arr, e, h5, h6, h7, h8⟩ := h4
      refine ⟨arr, e, h5, h6, fun i j r x hr hx => ?_, fun o ho => ⟨(h8 o ho).1, ?_⟩⟩
      · obtain ⟨r', x', a1, a2, a3⟩ := rows_turn (killL_eq n) hr hx
        obtain ⟨cv, b1, b2⟩ := h7 i j r' x' a1 a2
        refine ⟨cv, b1, ?_⟩
        rcases a3 with ⟨a3, rfl⟩ | rfl
        · exact b2.free _ (pureR_get a3 a1 a2)
        · exact b2.kill n
      · rw [show (killR n rs).length = rs.length from rows_turn_len]
        exact (h8 o ho).2
  | box cs =>
    obtain ⟨h1, h2, k, arr, e, h3, h4, h5, h6⟩ := h
    exact ⟨h1, onesL_kill n cs h2, k, arr, e, h3, h4, h5.kill n, h6⟩
  | map es =>
    obtain ⟨h1, k, ents, clock, h3, h4, h5, h6⟩ := h
    refine ⟨h1, k, ents, clock, h3, h4, by simpa using h5, fun i e he => ?_⟩
    obtain ⟨e', he', rfl⟩ := map_get he
    obtain ⟨m, a1, a2, a3⟩ := h6 i e' he'
    exact ⟨m, a1, a2, a3.kill n⟩
  | dead => trivial
  | loop l =>
    obtain ⟨h1, k, r, h3, h4, h5, h6, h8, h9, h10, h11⟩ := h
    exact ⟨h1, k, r, h3, h4, h5, h6, h8, h9, h10, h11.kill n⟩

theorem RelB.shift (τ : List Sg) {s : Sg} {b : B} (h : RelB R σ w s b) : RelB R (τ ++ σ) w s (b.shift τ.length) := by
  cases b with
  | rows esz rs g live =>
    obtain ⟨h1, h2, h0, h3, h4⟩ := h
    refine ⟨h1, h2, h0, rows_turn_mem (shiftL_eq _) (shift_one _) h3, ?_⟩
    cases hb : s.blk with
    | none => rw [hb] at h4; simp only at h4; subst h4; rfl
    | some k =>
      rw [hb] at h4
      obtain ⟨arr, e, h5, h6, h7, h8⟩ := h4
      refine ⟨arr, e, h5, h6, fun i j r x hr hx => ?_, fun o ho => ⟨(h8 o ho).1, ?_⟩⟩
      · obtain ⟨r', x', a1, a2, a3⟩ := rows_turn (shiftL_eq _) hr hx
        obtain ⟨cv, b1, b2⟩ := h7 i j r' x' a1 a2
        refine ⟨cv, b1, ?_⟩
        rcases a3 with ⟨a3, rfl⟩ | rfl
        · exact b2.free _ (pureR_get a3 a1 a2)
        · exact b2.shift τ
      · rw [show (shiftR τ.length rs).length = rs.length from rows_turn_len]
        exact (h8 o ho).2
  | box cs =>
    obtain ⟨h1, h2, k, arr, e, h3, h4, h5, h6⟩ := h
    exact ⟨h1, onesL_shift _ cs h2, k, arr, e, h3, h4, h5.shift τ, h6⟩
  | map es =>
    obtain ⟨h1, k, ents, clock, h3, h4, h5, h6⟩ := h
    refine ⟨h1, k, ents, clock, h3, h4, by simpa using h5, fun i e he => ?_⟩
    obtain ⟨e', he', rfl⟩ := map_get he
    obtain ⟨m, a1, a2, a3⟩ := h6 i e' he'
    exact ⟨m, a1, a2, a3.shift τ⟩
  | dead => trivial
  | loop l =>
    obtain ⟨h1, k, r, h3, h4, h5, h6, h8, h9, h10, h11⟩ := h
    exact ⟨h1, k, r, h3, h4, h5, h6, h8, h9, h10, h11.shift τ⟩

theorem kill_dead (n : Nat) (b : B) : (b.kill n).isDead = b.isDead := by cases b <;> rfl
theorem shift_dead (n : Nat) (b : B) : (b.shift n).isDead = b.isDead := by cases b <;> rfl

theorem cutH_get {n : Nat} {H : Hp} {id : Nat} {b : B} (h : (cutH n H)[id]? = some b) : ∃ x, H[id]? = some x ∧ id < n ∧ b = x.kill n := by
  obtain ⟨x, h1, rfl⟩ := map_get h
  obtain ⟨h2, h3⟩ := take_get h1
  exact ⟨x, h2, h3, rfl⟩

theorem Inv.cut (n : Nat) (hI : Inv wl B0 w0 R σ H w) : Inv wl B0 w0 R (σ.take n) (cutH n H) w where
  below := hI.below
  base := hI.base
  len := by simp [cutH, hI.len]
  blk id b s h1 h2 hh := by
    obtain ⟨x, a1, a2, rfl⟩ := cutH_get h1
    exact (hI.blk id x s a1 (take_get h2).1 hh).kill n
  inj i j bi bj si sj k h1 h2 d1 d2 h3 h4 e1 e2 := by
    obtain ⟨x, a1, a2, rfl⟩ := cutH_get h1
    obtain ⟨y, b1, b2, rfl⟩ := cutH_get h2
    rw [kill_dead] at d1 d2
    exact hI.inj i j x y si sj k a1 b1 d1 d2 (take_get h3).1 (take_get h4).1 e1 e2
  ge id x s b h h1 d h2 e := by
    obtain ⟨y, a1, a2, rfl⟩ := cutH_get h1
    rw [kill_dead] at d
    exact hI.ge id y s b h a1 d (take_get h2).1 e
  lt id x s b h1 d h2 e := by
    obtain ⟨y, a1, a2, rfl⟩ := cutH_get h1
    rw [kill_dead] at d
    exact hI.lt id y s b a1 d (take_get h2).1 e
  ro := hI.ro

/-- What nobody writes any more is known of more cells, of blocks that do not lie here. -/
theorem Inv.roMono (hI : Inv wl B0 w0 R σ H w) (hR : RoLe R R') (hn : ∀ b o, R' b o ≠ none → R b o ≠ none ∨ ∀ (id : Nat) (x : B) (s : Sg), H[id]? = some x → x.isDead = false → σ[id]? = some s → s.blk ≠ some b)
    (hro : ∀ (b o : Nat) (v : Value), R' b o = some v → w.cell? ⟨b, o, none⟩ = some v) : Inv wl B0 w0 R' σ H w where
  below := hI.below
  base := hI.base
  len := hI.len
  blk id b s h1 h2 hh := by
    by_cases hd : b.isDead = true
    · cases b <;> first | trivial | cases hd
    · have hd : b.isDead = false := by simpa using hd
      exact (hI.blk id b s h1 h2 hh).mono hR (Ext.refl σ) (fun _ _ => rfl) (fun k o hk ho => (hn k o ho).elim (fun h => h) (fun h => absurd hk (h id b s h1 hd h2)))
  inj := hI.inj
  ge := hI.ge
  lt := hI.lt
  ro := hro

/-- One heap behind another one: their blocks lie apart. -/
theorem Inv.join {B1 : Nat} {w1 : World} {τ : List Sg} {K : Hp} (hI : Inv wl B0 w0 R σ H w) (hK : Inv 0 B1 w1 R τ K w) (hB : B0 ≤ B1)
    (hlt : ∀ (id : Nat) (x : B) (s : Sg) (b : Nat), H[id]? = some x → x.isDead = false → σ[id]? = some s → s.blk = some b → b < B1) :
    Inv wl B0 w0 R (σ ++ τ) (H ++ K.map (B.shift H.length)) w := by
  have hl := hI.len
  have cases' : ∀ (id : Nat) (x : B) (s : Sg), (H ++ K.map (B.shift H.length))[id]? = some x → (σ ++ τ)[id]? = some s →
      (H[id]? = some x ∧ σ[id]? = some s) ∨ (∃ k y, id = H.length + k ∧ K[k]? = some y ∧ x = y.shift H.length ∧ τ[k]? = some s) := by
    intro id x s h1 h2
    by_cases hid : id < H.length
    · rw [List.getElem?_append_left hid] at h1
      rw [List.getElem?_append_left (by omega)] at h2
      exact .inl ⟨h1, h2⟩
    · rw [List.getElem?_append_right (by omega)] at h1 h2
      obtain ⟨y, hy, rfl⟩ := map_get h1
      refine .inr ⟨id - H.length, y, by omega, hy, rfl, ?_⟩
      rwa [hl] at h2
  refine ⟨hI.below, hI.base, by simp [hl, hK.len], ?_, ?_, ?_, ?_, hI.ro⟩
  · intro id x s h1 h2 hh
    rcases cases' id x s h1 h2 with ⟨a, b⟩ | ⟨k, y, rfl, a, rfl, b⟩
    · exact (hI.blk id x s a b hh).mono (RoLe.refl R) (Ext.append σ τ) (fun _ _ => rfl) (fun _ _ _ h => h)
    · have := (hK.blk k y s a b hh).shift σ
      rwa [hl] at this
  · intro i j bi bj si sj b h1 h2 d1 d2 h3 h4 e1 e2
    rcases cases' i bi si h1 h3 with ⟨a, c⟩ | ⟨k, y, rfl, a, rfl, c⟩
    · rcases cases' j bj sj h2 h4 with ⟨a', c'⟩ | ⟨k', y', rfl, a', rfl, c'⟩
      · exact hI.inj i j bi bj si sj b a a' d1 d2 c c' e1 e2
      · rw [shift_dead] at d2
        have := hlt i bi si b a d1 c e1
        have := hK.ge k' y' sj b (Nat.zero_le _) a' d2 c' e2
        omega
    · rw [shift_dead] at d1
      rcases cases' j bj sj h2 h4 with ⟨a', c'⟩ | ⟨k', y', rfl, a', rfl, c'⟩
      · have := hlt j bj sj b a' d2 c' e2
        have := hK.ge k y si b (Nat.zero_le _) a d1 c e1
        omega
      · rw [shift_dead] at d2
        have := hK.inj k k' y y' si sj b a a' d1 d2 c c' e1 e2
        omega
  · intro id x s b h h1 d h2 e
    rcases cases' id x s h1 h2 with ⟨a, c⟩ | ⟨k, y, rfl, a, rfl, c⟩
    · exact hI.ge id x s b h a d c e
    · rw [shift_dead] at d
      have := hK.ge k y s b (Nat.zero_le _) a d c e
      omega
  · intro id x s b h1 d h2 e
    rcases cases' id x s h1 h2 with ⟨a, c⟩ | ⟨k, y, rfl, a, rfl, c⟩
    · exact hI.lt id x s b a d c e
    · rw [shift_dead] at d
      exact hK.lt k y s b a d c e

/-- An empty heap, of which nothing of the world is. -/
theorem Inv.start (hI : Inv wl B0 w0 R σ H w) : Inv 0 w.heap.size w R [] [] w where
  below := Below.refl _ w
  base := Nat.le_refl _
  len := rfl
  blk id b s h1 := by simp at h1
  inj i j bi bj si sj b h1 := by simp at h1
  ge id x s b h h1 := by simp at h1
  lt id x s b h1 := by simp at h1
  ro := hI.ro

/-- A heap that may only be read. -/
theorem Inv.look (hI : Inv wl B0 w0 R σ H w) : Inv H.length w.heap.size w R σ H w where
  below := Below.refl _ w
  base := Nat.le_refl _
  len := hI.len
  blk := hI.blk
  inj := hI.inj
  ge id x s b h h1 := by
    have := (List.getElem?_eq_some_iff.1 h1).1
    omega
  lt := hI.lt
  ro := hI.ro

/-- A block is given up. -/
theorem Inv.drop (hI : Inv wl B0 w0 R σ H w) (id : Nat) : Inv wl B0 w0 R σ (H.set id .dead) w := by
  have old : ∀ (i : Nat) (x : B), (H.set id .dead)[i]? = some x → x = .dead ∨ H[i]? = some x := by
    intro i x h
    rcases set_cases h with ⟨_, rfl, _⟩ | ⟨_, h⟩
    · exact .inl rfl
    · exact .inr h
  refine ⟨hI.below, hI.base, by simp [hI.len], ?_, ?_, ?_, ?_, hI.ro⟩
  · intro i x s h1 h2 hh
    rcases old i x h1 with rfl | h1
    · trivial
    · exact hI.blk i x s h1 h2 hh
  · intro i j bi bj si sj b h1 h2 d1 d2 h3 h4 e1 e2
    rcases old i bi h1 with rfl | h1
    · cases d1
    · rcases old j bj h2 with rfl | h2
      · cases d2
      · exact hI.inj i j bi bj si sj b h1 h2 d1 d2 h3 h4 e1 e2
  · intro i x s b h h1 d h2 e
    rcases old i x h1 with rfl | h1
    · cases d
    · exact hI.ge i x s b h h1 d h2 e
  · intro i x s b h1 d h2 e
    rcases old i x h1 with rfl | h1
    · cases d
    · exact hI.lt i x s b h1 d h2 e

/-- A block that was another heap's is taken over. -/
theorem Inv.adopt (hI : Inv wl B0 w0 R σ H w) {b : B} {s : Sg}
    (hs : ∀ k, s.blk = some k → B0 ≤ k ∧ k < w.heap.size ∧ ∀ (id : Nat) (x : B) (y : Sg), H[id]? = some x → x.isDead = false → σ[id]? = some y → y.blk ≠ some k)
    (hr : s.hole = false → RelB R (σ ++ [s]) w s b) : Inv wl B0 w0 R (σ ++ [s]) (H ++ [b]) w := by
  have old : ∀ (id : Nat) (x : B) (y : Sg), (H ++ [b])[id]? = some x → (σ ++ [s])[id]? = some y → (H[id]? = some x ∧ σ[id]? = some y) ∨ (id = H.length ∧ x = b ∧ y = s) := by
    intro id x y h1 h2
    rcases append_one h1 with ⟨hlt, h1⟩ | ⟨e, h1⟩
    · rcases append_one h2 with ⟨_, h2⟩ | ⟨e2, h2⟩
      · exact .inl ⟨h1, h2⟩
      · rw [hI.len] at e2; omega
    · rcases append_one h2 with ⟨hlt, h2⟩ | ⟨e2, h2⟩
      · rw [hI.len] at hlt; omega
      · exact .inr ⟨e, h1, h2⟩
  refine ⟨hI.below, hI.base, by simp [hI.len], ?_, ?_, ?_, ?_, hI.ro⟩
  · intro id x y h1 h2 hh
    rcases old id x y h1 h2 with ⟨a, c⟩ | ⟨rfl, rfl, rfl⟩
    · exact (hI.blk id x y a c hh).mono (RoLe.refl R) (Ext.append σ [s]) (fun _ _ => rfl) (fun _ _ _ h => h)
    · exact hr hh
  · intro i j bi bj si sj k h1 h2 d1 d2 h3 h4 e1 e2
    rcases old i bi si h1 h3 with ⟨a, c⟩ | ⟨rfl, rfl, rfl⟩
    · rcases old j bj sj h2 h4 with ⟨a', c'⟩ | ⟨rfl, rfl, rfl⟩
      · exact hI.inj i j bi bj si sj k a a' d1 d2 c c' e1 e2
      · exact absurd e1 ((hs k e2).2.2 i bi si a d1 c)
    · rcases old j bj sj h2 h4 with ⟨a', c'⟩ | ⟨rfl, rfl, rfl⟩
      · exact absurd e2 ((hs k e1).2.2 j bj sj a' d2 c')
      · rfl
  · intro id x y k hle h1 d h2 e
    rcases old id x y h1 h2 with ⟨a, c⟩ | ⟨rfl, rfl, rfl⟩
    · exact hI.ge id x y k hle a d c e
    · exact (hs k e).1
  · intro id x y k h1 d h2 e
    rcases old id x y h1 h2 with ⟨a, c⟩ | ⟨rfl, rfl, rfl⟩
    · exact hI.lt id x y k a d c e
    · exact (hs k e).2.1

end cut
end Go.Ab
