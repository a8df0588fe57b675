/- What an abstract value, an abstract heap and an abstract state say of the model's: the relations, and how they are carried on. -/
import Derived.Test.YtecgfaaaloameaaAbCore
import Derived.Below
namespace Go.Ab
open Go.RowKit

/-- Where an abstract block lies. -/
structure Sg where
  blk : Option Nat
  gen : Nat
  esz : Nat
  cap : Nat
  hole : Bool := false

/-- Cells that nobody writes any more. -/
abbrev Ro := Nat → Nat → Option Value

inductive RelV (R : Ro) (σ : List Sg) : V → Value → Prop where
  | lit (v : Value) : RelV R σ (.lit v) v
  | nil : RelV R σ .nil (.slice none 0 0)
  | any (v : Value) (h : v.oneCell' = true) : RelV R σ .any v
  | junk (v : Value) : RelV R σ .junk v
  | agg (cs : List V) (vs : Array Value) (hl : vs.size = cs.length) (ho : onesL cs = true)
      (h : ∀ i c, cs[i]? = some c → RelV R σ c (vs.getD i undef)) : RelV R σ (.agg cs) (.agg vs)
  | tup (cs : List V) (vs : Array Value) (hl : vs.size = cs.length)
      (h : ∀ i c, cs[i]? = some c → RelV R σ c (vs.getD i undef)) : RelV R σ (.tup cs) (.tuple vs)
  | fn (f : Fn) (a b : List V) (va vb : Array Value) (ha : va.size = a.length) (hb : vb.size = b.length)
      (h1 : ∀ i c, a[i]? = some c → RelV R σ c (va.getD i undef)) (h2 : ∀ i c, b[i]? = some c → RelV R σ c (vb.getD i undef)) :
      RelV R σ (.fn f a b) (.func f va vb)
  | roNil (A : Option Addr) (c : Nat) : RelV R σ (.ro []) (.slice A 0 c)
  | ro (rows : List (List V)) (b off c esz : Nat) (vals : Nat → Nat → Value) (hc : rows.length ≤ c)
      (hs : ∀ r ∈ rows, r.length = esz) (hp : pureR rows = true) (ho : rows.all onesL = true)
      (hv : ∀ i j r x, rows[i]? = some r → r[j]? = some x → RelV R σ x (vals i j))
      (hR : ∀ i j r x, rows[i]? = some r → r[j]? = some x → R b (off + (i * esz + j)) = some (vals i j)) :
      RelV R σ (.ro rows) (.slice (some ⟨b, off, none⟩) rows.length c)
  | rp (cs : List V) (b off : Nat) (vals : Nat → Value) (hp : pureL cs = true) (ho : onesL cs = true)
      (hv : ∀ j x, cs[j]? = some x → RelV R σ x (vals j)) (hR : ∀ j x, cs[j]? = some x → R b (off + j) = some (vals j)) :
      RelV R σ (.rp cs) (.pointer (some ⟨b, off, none⟩))
  | ptr (id g row off : Nat) (p : Addr) (s : Sg) (hs : σ[id]? = some s) (hh : s.hole = false) (hg : g ≤ s.gen)
      (h : g = s.gen → ∃ b, s.blk = some b ∧ p = ⟨b, row * s.esz + off, none⟩) : RelV R σ (.ptr id g row off) (.pointer (some p))
  | own (id g len : Nat) (A : Option Addr) (l c : Nat) (s : Sg) (hs : σ[id]? = some s) (hh : s.hole = false) (hg : g ≤ s.gen)
      (h : g = s.gen → l = len ∧ (s.blk = none → len = 0 ∧ c = 0) ∧ (∀ b, s.blk = some b → A = some ⟨b, 0, none⟩ ∧ len ≤ c ∧ c * s.esz ≤ s.cap)) :
      RelV R σ (.own id g len) (.slice A l c)
  | map (id : Nat) (r : Option Nat) (s : Sg) (hs : σ[id]? = some s) (hh : s.hole = false) (h : s.gen = 0 → s.blk = r ∧ r.isSome = true) : RelV R σ (.map id) (.map r)
  | yld (id b : Nat) (s : Sg) (hs : σ[id]? = some s) (hh : s.hole = false) (h : s.gen = 0 → s.blk = some b) : RelV R σ (.yld id) (.func (.yield b) #[] #[])

/-- Slots, cells, arguments: one by one. -/
def RelA (R : Ro) (σ : List Sg) (cs : List V) (vs : Array Value) : Prop :=
  vs.size = cs.length ∧ ∀ i c, cs[i]? = some c → RelV R σ c (vs.getD i undef)

def SgLe (s s' : Sg) : Prop := s.hole = true ∨ (s'.hole = false ∧ s.gen < s'.gen) ∨ s' = s
/-- The blocks lie where they lay, but those that have grown. -/
def Ext (σ σ' : List Sg) : Prop := ∀ (id : Nat) (s : Sg), σ[id]? = some s → ∃ s', σ'[id]? = some s' ∧ SgLe s s'
def RoLe (R R' : Ro) : Prop := ∀ b o v, R b o = some v → R' b o = some v
/-- .. and what is new of what nobody writes lies from B on. -/
structure RoExt (B : Nat) (R R' : Ro) : Prop where
  le : RoLe R R'
  new : ∀ b o, R' b o ≠ none → R b o ≠ none ∨ B ≤ b

theorem SgLe.refl (s : Sg) : SgLe s s := .inr (.inr rfl)
theorem SgLe.trans {a b c : Sg} (h : SgLe a b) (k : SgLe b c) : SgLe a c := by
  rcases h with h | ⟨h1, h2⟩ | rfl
  · exact .inl h
  · rcases k with k | ⟨k1, k2⟩ | rfl
    · rw [h1] at k; cases k
    · exact .inr (.inl ⟨k1, by omega⟩)
    · exact .inr (.inl ⟨h1, h2⟩)
  · exact k
theorem SgLe.gen {a b : Sg} (h : SgLe a b) (ha : a.hole = false) : a.gen ≤ b.gen := by
  rcases h with h | ⟨_, h⟩ | rfl
  · rw [ha] at h; cases h
  · omega
  · exact Nat.le_refl _
theorem SgLe.hole {a b : Sg} (h : SgLe a b) (ha : a.hole = false) : b.hole = false := by
  rcases h with h | ⟨h, _⟩ | rfl
  · rw [ha] at h; cases h
  · exact h
  · exact ha
theorem SgLe.same {a b : Sg} (h : SgLe a b) (ha : a.hole = false) (e : b.gen ≤ a.gen) : b = a := by
  rcases h with h | ⟨_, h⟩ | rfl
  · rw [ha] at h; cases h
  · omega
  · rfl
theorem Ext.refl (σ : List Sg) : Ext σ σ := fun _ s h => ⟨s, h, SgLe.refl s⟩
theorem Ext.trans {a b c : List Sg} (h : Ext a b) (k : Ext b c) : Ext a c := fun id s hs =>
  let ⟨s', h1, l1⟩ := h id s hs
  let ⟨s'', h2, l2⟩ := k id s' h1
  ⟨s'', h2, l1.trans l2⟩
theorem Ext.append (σ τ : List Sg) : Ext σ (σ ++ τ) := fun id s h => ⟨s, by
  rw [List.getElem?_append_left (List.getElem?_eq_some_iff.1 h).1]; exact h, SgLe.refl s⟩
theorem RoLe.refl (R : Ro) : RoLe R R := fun _ _ _ h => h
theorem RoLe.trans {a b c : Ro} (h : RoLe a b) (k : RoLe b c) : RoLe a c := fun b o v hv => k b o v (h b o v hv)
theorem RoExt.refl (B : Nat) (R : Ro) : RoExt B R R := ⟨RoLe.refl R, fun _ _ h => .inl h⟩
theorem RoExt.trans {B : Nat} {a b c : Ro} (h : RoExt B a b) (k : RoExt B b c) : RoExt B a c :=
  ⟨h.le.trans k.le, fun x o hx => (k.new x o hx).elim (fun h1 => h.new x o h1) .inr⟩
theorem RoExt.mono {B B' : Nat} {a b : Ro} (h : RoExt B a b) (hB : B' ≤ B) : RoExt B' a b :=
  ⟨h.le, fun x o hx => (h.new x o hx).imp id (fun h => Nat.le_trans hB h)⟩

theorem RelV.mono {R R' : Ro} {σ σ' : List Sg} (hR : RoLe R R') (hσ : Ext σ σ') {v : V} {cv : Value} (h : RelV R σ v cv) : RelV R' σ' v cv := by
  induction h with
  | lit v => exact .lit v
  | nil => exact .nil
  | any v h => exact .any v h
  | junk v => exact .junk v
  | agg cs vs hl ho h ih => exact .agg cs vs hl ho ih
  | tup cs vs hl h ih => exact .tup cs vs hl ih
  | fn f a b va vb ha hb h1 h2 i1 i2 => exact .fn f a b va vb ha hb i1 i2
  | roNil A c => exact .roNil A c
  | ro rows b off c esz vals hc hs hp ho hv hR' ih => exact .ro rows b off c esz vals hc hs hp ho ih (fun i j r x h1 h2 => hR _ _ _ (hR' i j r x h1 h2))
  | rp cs b off vals hp ho hv hR' ih => exact .rp cs b off vals hp ho ih (fun j x h1 => hR _ _ _ (hR' j x h1))
  | ptr id g row off p s hs hh hg h =>
    obtain ⟨s', hs', hle⟩ := hσ id s hs
    exact .ptr id g row off p s' hs' (hle.hole hh) (Nat.le_trans hg (hle.gen hh)) (fun e => by
      have := hle.same hh (by omega)
      subst this; exact h e)
  | own id g len A l c s hs hh hg h =>
    obtain ⟨s', hs', hle⟩ := hσ id s hs
    exact .own id g len A l c s' hs' (hle.hole hh) (Nat.le_trans hg (hle.gen hh)) (fun e => by
      have := hle.same hh (by omega)
      subst this; exact h e)
  | map id r s hs hh h =>
    obtain ⟨s', hs', hle⟩ := hσ id s hs
    exact .map id r s' hs' (hle.hole hh) (fun e => by
      have := hle.same hh (by omega)
      subst this; exact h e)
  | yld id b s hs hh h =>
    obtain ⟨s', hs', hle⟩ := hσ id s hs
    exact .yld id b s' hs' (hle.hole hh) (fun e => by
      have := hle.same hh (by omega)
      subst this; exact h e)

theorem RelA.mono {R R' : Ro} {σ σ' : List Sg} (hR : RoLe R R') (hσ : Ext σ σ') {cs : List V} {vs : Array Value} (h : RelA R σ cs vs) : RelA R' σ' cs vs :=
  ⟨h.1, fun i c hc => (h.2 i c hc).mono hR hσ⟩

theorem pureL_iff (l : List V) : pureL l = true ↔ ∀ x ∈ l, x.pure = true := by
  induction l with
  | nil => simp [pureL]
  | cons a l ih => simp [pureL, ih]

theorem pureR_get {rows : List (List V)} (h : pureR rows = true) {i j : Nat} {r : List V} {x : V} (hr : rows[i]? = some r) (hx : r[j]? = some x) : x.pure = true := by
  unfold pureR at h
  rw [List.all_eq_true] at h
  have := h r (List.mem_of_getElem? hr)
  rw [pureL_iff] at this
  exact this x (List.mem_of_getElem? hx)

theorem pureL_get {l : List V} (h : pureL l = true) {i : Nat} {x : V} (hx : l[i]? = some x) : x.pure = true :=
  (pureL_iff l).1 h x (List.mem_of_getElem? hx)

/-- What names no block means the same wherever the blocks lie. -/
theorem RelV.free {R : Ro} {σ : List Sg} (σ' : List Sg) {v : V} {cv : Value} (h : RelV R σ v cv) : v.pure = true → RelV R σ' v cv := by
  induction h with
  | lit v => exact fun _ => .lit v
  | nil => exact fun _ => .nil
  | any v h => exact fun _ => .any v h
  | junk v => exact fun _ => .junk v
  | agg cs vs hl ho h ih => exact fun hp => .agg cs vs hl ho (fun i c hc => ih i c hc (pureL_get (by simpa [V.pure] using hp) hc))
  | tup cs vs hl h ih => exact fun hp => .tup cs vs hl (fun i c hc => ih i c hc (pureL_get (by simpa [V.pure] using hp) hc))
  | fn f a b va vb ha hb h1 h2 i1 i2 =>
    intro hp
    simp only [V.pure, Bool.and_eq_true] at hp
    exact .fn f a b va vb ha hb (fun i c hc => i1 i c hc (pureL_get hp.1 hc)) (fun i c hc => i2 i c hc (pureL_get hp.2 hc))
  | roNil A c => exact fun _ => .roNil A c
  | ro rows b off c esz vals hc hs hp ho hv hR' ih => exact fun _ => .ro rows b off c esz vals hc hs hp ho (fun i j r x h1 h2 => ih i j r x h1 h2 (pureR_get hp h1 h2)) hR'
  | rp cs b off vals hp ho hv hR' ih => exact fun _ => .rp cs b off vals hp ho (fun j x h1 => ih j x h1 (pureL_get hp h1)) hR'
  | ptr => simp [V.pure]
  | own => simp [V.pure]
  | map => simp [V.pure]
  | yld => simp [V.pure]

theorem RelA.free {R : Ro} {σ : List Sg} (σ' : List Sg) {cs : List V} {vs : Array Value} (h : RelA R σ cs vs) (hp : pureL cs = true) : RelA R σ' cs vs :=
  ⟨h.1, fun i c hc => (h.2 i c hc).free σ' (pureL_get hp hc)⟩

theorem killL_eq (n : Nat) (l : List V) : killL n l = l.map (V.kill n) := by
  induction l with
  | nil => rfl
  | cons a l ih => simp [killL, ih]
theorem shiftL_eq (k : Nat) (l : List V) : shiftL k l = l.map (V.shift k) := by
  induction l with
  | nil => rfl
  | cons a l ih => simp [shiftL, ih]

theorem kill_one (n : Nat) (v : V) (h : v.one = true) : (v.kill n).one = true := by
  cases v <;> first | exact h | rfl | (simp only [V.kill]; split <;> rfl) | cases h

theorem onesL_kill (n : Nat) (l : List V) (h : onesL l = true) : onesL (killL n l) = true := by
  simp only [onesL, killL_eq, List.all_eq_true, List.mem_map] at *
  rintro x ⟨y, hy, rfl⟩
  exact kill_one n y (h y hy)

theorem shift_one (n : Nat) (v : V) (h : v.one = true) : (v.shift n).one = true := by
  cases v <;> first | exact h | rfl | cases h

theorem onesL_shift (n : Nat) (l : List V) (h : onesL l = true) : onesL (shiftL n l) = true := by
  simp only [onesL, shiftL_eq, List.all_eq_true, List.mem_map] at *
  rintro x ⟨y, hy, rfl⟩
  exact shift_one n y (h y hy)

/-- What is known of a value of one cell: it is one. -/
theorem RelV.one {R : Ro} {σ : List Sg} {v : V} {cv : Value} (h : RelV R σ v cv) (ho : v.one = true) : cv.oneCell' = true := by
  cases h <;> first | exact ho | rfl | assumption | cases ho

theorem take_getElem? {α : Type} (l : List α) (n i : Nat) (h : i < n) : (l.take n)[i]? = l[i]? := by
  rw [List.getElem?_take, if_pos h]

theorem RelV.kill {R : Ro} {σ : List Sg} (n : Nat) {v : V} {cv : Value} (h : RelV R σ v cv) : RelV R (σ.take n) (v.kill n) cv := by
  induction h with
  | lit v => exact .lit v
  | nil => exact .nil
  | any v h => exact .any v h
  | junk v => exact .junk v
  | agg cs vs hl ho h ih =>
    refine .agg _ vs (by rw [hl, killL_eq, List.length_map]) (onesL_kill n cs ho) (fun i c hc => ?_)
    rw [killL_eq, List.getElem?_map] at hc
    cases hx : cs[i]? with
    | none => rw [hx] at hc; cases hc
    | some x => rw [hx] at hc; cases hc; exact ih i x hx
  | tup cs vs hl h ih =>
    refine .tup _ vs (by rw [hl, killL_eq, List.length_map]) (fun i c hc => ?_)
    rw [killL_eq, List.getElem?_map] at hc
    cases hx : cs[i]? with
    | none => rw [hx] at hc; cases hc
    | some x => rw [hx] at hc; cases hc; exact ih i x hx
  | fn f a b va vb ha hb h1 h2 i1 i2 =>
    refine .fn f _ _ va vb (by rw [ha, killL_eq, List.length_map]) (by rw [hb, killL_eq, List.length_map]) (fun i c hc => ?_) (fun i c hc => ?_)
    · rw [killL_eq, List.getElem?_map] at hc
      cases hx : a[i]? with
      | none => rw [hx] at hc; cases hc
      | some x => rw [hx] at hc; cases hc; exact i1 i x hx
    · rw [killL_eq, List.getElem?_map] at hc
      cases hx : b[i]? with
      | none => rw [hx] at hc; cases hc
      | some x => rw [hx] at hc; cases hc; exact i2 i x hx
  | roNil A c => exact .roNil A c
  | ro rows b off c esz vals hc hs hp ho hv hR' ih => exact .ro rows b off c esz vals hc hs hp ho (fun i j r x h1 h2 => (hv i j r x h1 h2).free _ (pureR_get hp h1 h2)) hR'
  | rp cs b off vals hp ho hv hR' ih => exact .rp cs b off vals hp ho (fun j x h1 => (hv j x h1).free _ (pureL_get hp h1)) hR'
  | ptr id g row off p s hs hh hg h =>
    simp only [V.kill]
    split
    · exact .ptr id g row off p s (by rw [take_getElem? _ _ _ (by assumption)]; exact hs) hh hg h
    · exact .any _ rfl
  | own id g len A l c s hs hh hg h =>
    simp only [V.kill]
    split
    · exact .own id g len A l c s (by rw [take_getElem? _ _ _ (by assumption)]; exact hs) hh hg h
    · exact .any _ rfl
  | map id r s hs hh h =>
    simp only [V.kill]
    split
    · exact .map id r s (by rw [take_getElem? _ _ _ (by assumption)]; exact hs) hh h
    · exact .any _ rfl
  | yld id b s hs hh h =>
    simp only [V.kill]
    split
    · exact .yld id b s (by rw [take_getElem? _ _ _ (by assumption)]; exact hs) hh h
    · exact .any _ rfl

theorem append_getElem? {α : Type} (l m : List α) (i : Nat) : (l ++ m)[l.length + i]? = m[i]? := by
  rw [List.getElem?_append_right (by omega)]; congr 1; omega

theorem RelV.shift {R : Ro} {σ : List Sg} (τ : List Sg) {v : V} {cv : Value} (h : RelV R σ v cv) : RelV R (τ ++ σ) (v.shift τ.length) cv := by
  induction h with
  | lit v => exact .lit v
  | nil => exact .nil
  | any v h => exact .any v h
  | junk v => exact .junk v
  | agg cs vs hl ho h ih =>
    refine .agg _ vs (by rw [hl, shiftL_eq, List.length_map]) (onesL_shift _ cs ho) (fun i c hc => ?_)
    rw [shiftL_eq, List.getElem?_map] at hc
    cases hx : cs[i]? with
    | none => rw [hx] at hc; cases hc
    | some x => rw [hx] at hc; cases hc; exact ih i x hx
  | tup cs vs hl h ih =>
    refine .tup _ vs (by rw [hl, shiftL_eq, List.length_map]) (fun i c hc => ?_)
    rw [shiftL_eq, List.getElem?_map] at hc
    cases hx : cs[i]? with
    | none => rw [hx] at hc; cases hc
    | some x => rw [hx] at hc; cases hc; exact ih i x hx
  | fn f a b va vb ha hb h1 h2 i1 i2 =>
    refine .fn f _ _ va vb (by rw [ha, shiftL_eq, List.length_map]) (by rw [hb, shiftL_eq, List.length_map]) (fun i c hc => ?_) (fun i c hc => ?_)
    · rw [shiftL_eq, List.getElem?_map] at hc
      cases hx : a[i]? with
      | none => rw [hx] at hc; cases hc
      | some x => rw [hx] at hc; cases hc; exact i1 i x hx
    · rw [shiftL_eq, List.getElem?_map] at hc
      cases hx : b[i]? with
      | none => rw [hx] at hc; cases hc
      | some x => rw [hx] at hc; cases hc; exact i2 i x hx
  | roNil A c => exact .roNil A c
  | ro rows b off c esz vals hc hs hp ho hv hR' ih => exact .ro rows b off c esz vals hc hs hp ho (fun i j r x h1 h2 => (hv i j r x h1 h2).free _ (pureR_get hp h1 h2)) hR'
  | rp cs b off vals hp ho hv hR' ih => exact .rp cs b off vals hp ho (fun j x h1 => (hv j x h1).free _ (pureL_get hp h1)) hR'
  | ptr id g row off p s hs hh hg h => exact .ptr _ g row off p s (by rw [append_getElem?]; exact hs) hh hg h
  | own id g len A l c s hs hh hg h => exact .own _ g len A l c s (by rw [append_getElem?]; exact hs) hh hg h
  | map id r s hs hh h => exact .map _ r s (by rw [append_getElem?]; exact hs) hh h
  | yld id b s hs hh h => exact .yld _ b s (by rw [append_getElem?]; exact hs) hh h

/-! ### The heap -/

/-- An abstract block and a block of the world. -/
def RelB (R : Ro) (σ : List Sg) (w : World) (s : Sg) : B → Prop
  | .rows esz rs g live => s.gen = g ∧ s.esz = esz ∧ (s.blk ≠ none → esz ≠ 0) ∧ (∀ r ∈ rs, r.length = esz ∧ onesL r = true) ∧
      match s.blk with
      | none => rs = []
      | some b => ∃ (arr : Array Value) (e : TypeId), w.heap[b]? = some (.cells arr e (0, 0)) ∧ arr.size = s.cap ∧
          (∀ (i j : Nat) (r : List V) (x : V), rs[i]? = some r → r[j]? = some x → ∃ cv, arr[i * esz + j]? = some cv ∧ RelV R σ x cv) ∧
          (∀ (o : Nat), R b o ≠ none → live = false ∧ o < rs.length * esz)
  | .box cs => s.gen = 0 ∧ onesL cs = true ∧ ∃ (b : Nat) (arr : Array Value) (e : TypeId), s.blk = some b ∧ w.heap[b]? = some (.cells arr e (0, 0)) ∧ RelA R σ cs arr ∧ ∀ (o : Nat), R b o = none
  | .map es => s.gen = 0 ∧ ∃ (b : Nat) (ents : Array MapEntry) (clock : Nat), s.blk = some b ∧ w.heap[b]? = some (.map ents clock) ∧ ents.size = es.length ∧
      (∀ (i : Nat) (e : Value × V), es[i]? = some e → ∃ m, ents[i]? = some m ∧ m.key = e.1 ∧ RelV R σ e.2 m.val)
  | .dead => True
  | .loop l => s.gen = 0 ∧ ∃ (b : Nat) (r : Loop), s.blk = some b ∧ w.heap[b]? = some (.loop r) ∧ r.state = l.st ∧ r.pending = l.pending ∧
      r.params.toList = l.params ∧ r.assign = l.assign ∧ r.body = l.body ∧ RelA R σ l.tmps r.tmps

def B.isDead : B → Bool
  | .dead => true
  | _ => false

/-- The state of memory. 'w0': as it was when the work began; 'B0': what lies ahead of it is as it was. -/
structure Inv (wl B0 : Nat) (w0 : World) (R : Ro) (σ : List Sg) (H : Hp) (w : World) : Prop where
  below : Below B0 w0 w
  base : B0 ≤ w.heap.size
  len : σ.length = H.length
  blk : ∀ (id : Nat) (b : B) (s : Sg), H[id]? = some b → σ[id]? = some s → s.hole = false → RelB R σ w s b
  inj : ∀ (i j : Nat) (bi bj : B) (si sj : Sg) (b : Nat), H[i]? = some bi → H[j]? = some bj → bi.isDead = false → bj.isDead = false →
    σ[i]? = some si → σ[j]? = some sj → si.blk = some b → sj.blk = some b → i = j
  ge : ∀ (id : Nat) (x : B) (s : Sg) (b : Nat), wl ≤ id → H[id]? = some x → x.isDead = false → σ[id]? = some s → s.blk = some b → B0 ≤ b
  lt : ∀ (id : Nat) (x : B) (s : Sg) (b : Nat), H[id]? = some x → x.isDead = false → σ[id]? = some s → s.blk = some b → b < w.heap.size
  ro : ∀ (b o : Nat) (v : Value), R b o = some v → w.cell? ⟨b, o, none⟩ = some v

end Go.Ab
