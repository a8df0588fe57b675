/- What an operation looks at, and what it leaves as it is. -/
import Derived.Test.YtecgfaaaloameaaAbFunc
namespace Go.Ab
section loc
variable {P : Program} {wl : Nat} {H H' : Hp}

/-- A block, whether it may be written or not. -/
def B.seen : B → B
  | .rows e rs g _ => .rows e rs g true
  | b => b
def seenAt (H : Hp) (id : Nat) : Option B := (H[id]?).map B.seen

/-- The heap is as it was, but at one place. -/
structure Keeps (H H' : Hp) (W : Option Nat) : Prop where
  len : H.length ≤ H'.length
  same : ∀ id, id < H.length → W ≠ some id → seenAt H' id = seenAt H id

theorem Keeps.refl (H : Hp) (W : Option Nat) : Keeps H H W := ⟨Nat.le_refl _, fun _ _ _ => rfl⟩
theorem Keeps.trans {H1 : Hp} {W : Option Nat} (h : Keeps H H1 W) (k : Keeps H1 H' W) : Keeps H H' W :=
  ⟨Nat.le_trans h.len k.len, fun id hi hw => (k.same id (Nat.lt_of_lt_of_le hi h.len) hw).trans (h.same id hi hw)⟩
theorem Keeps.push (H K : Hp) (W : Option Nat) : Keeps H (H ++ K) W :=
  ⟨by simp, fun id hi _ => by unfold seenAt; rw [List.getElem?_append_left hi]⟩
theorem Keeps.set (H : Hp) (id : Nat) (b : B) : Keeps H (H.set id b) (some id) :=
  ⟨by simp, fun k _ hk => by unfold seenAt; rw [List.getElem?_set_ne (fun e => hk (by rw [e]))]⟩
theorem Keeps.live {id : Nat} {e g : Nat} {rs : List (List V)} {l l' : Bool} (h : H[id]? = some (.rows e rs g l)) (W : Option Nat) : Keeps H (H.set id (.rows e rs g l')) W :=
  ⟨by simp, fun k hk _ => by
    unfold seenAt
    by_cases hki : k = id
    · subst hki; rw [List.getElem?_set_self hk, h]; rfl
    · rw [List.getElem?_set_ne (fun e => hki e.symm)]⟩
theorem Keeps.weaken {W : Option Nat} (h : Keeps H H' none) : Keeps H H' W := ⟨h.len, fun id hi _ => h.same id hi (by simp)⟩

theorem fzC_keeps {v v' : V} (h : fzC wl v H = some (v', H')) : Keeps H H' none := by
  unfold fzC at h
  split at h
  · split at h
    · rename_i hb
      split at h
      · split at h
        · cases h; exact Keeps.live hb none
        · cases h
      · cases h
    · cases h
  · cases h; exact Keeps.refl _ _

theorem fzL_keeps {nl : Bool} : ∀ {vs vs' : List V} {H H' : Hp}, fzL wl nl vs H = some (vs', H') → Keeps H H' none
  | [], vs', H, H', h => by cases h; exact Keeps.refl _ _
  | v :: vs, vs', H, H', h => by
    simp only [fzL, Option.bind_eq_some_iff] at h
    obtain ⟨p, hp, q, hq, h⟩ := h
    cases h
    have h1 : Keeps H p.2 none := by
      split at hp
      · split at hp <;> (cases hp; exact Keeps.refl _ _)
      · exact fzC_keeps hp
    exact h1.trans (fzL_keeps hq)

theorem fzA_keeps {v v' : V} (h : fzA wl v H = some (v', H')) : Keeps H H' none := by
  unfold fzA at h
  split at h
  · simp only [Option.bind_eq_some_iff] at h
    obtain ⟨p, hp, h⟩ := h
    cases h
    exact fzL_keeps hp
  · exact fzC_keeps h

theorem fzAs_keeps : ∀ {vs vs' : List V} {H H' : Hp}, fzAs wl vs H = some (vs', H') → Keeps H H' none
  | [], vs', H, H', h => by cases h; exact Keeps.refl _ _
  | v :: vs, vs', H, H', h => by
    simp only [fzAs, Option.bind_eq_some_iff] at h
    obtain ⟨p, hp, q, hq, h⟩ := h
    cases h
    exact (fzA_keeps hp).trans (fzAs_keeps hq)

theorem matL_keeps (vs : List V) (H : Hp) (W : Option Nat) : Keeps H (matL vs H).2 W := by
  obtain ⟨L, hL⟩ := matL_prefix vs H
  rw [hL]; exact Keeps.push H L W

theorem fillR_keeps {size : Nat} : ∀ {parts : List (Nat × V)} {rs rs' : List (List V)} {H H' : Hp}, fillR wl size parts rs H = some (rs', H') → Keeps H H' none
  | [], rs, rs', H, H', h => by cases h; exact Keeps.refl _ _
  | (i, v) :: parts, rs, rs', H, H', h => by
    unfold fillR at h
    split at h
    · simp only [Option.bind_eq_some_iff] at h
      obtain ⟨p, hp, h⟩ := h
      split at h
      · exact (fzL_keeps hp).trans (fillR_keeps h)
      · cases h
    · cases h

theorem vStore_keeps {t : TypeId} {a v : V} (h : vStore P wl t a v H = some H') : Keeps H H' (idOf a) := by
  unfold vStore at h
  split at h
  · rename_i id g row off vs _
    split at h
    · split at h
      · split at h
        · cases h
          exact (matL_keeps vs H _).trans (Keeps.set _ _ _)
        · cases h
      · simp only [Option.bind_eq_some_iff] at h
        obtain ⟨p, hp, h⟩ := h
        split at h
        · split at h
          · simp only [Option.bind_eq_some_iff] at h
            obtain ⟨r, hr, h⟩ := h
            split at h
            · cases h
              exact (fzL_keeps hp).weaken.trans (Keeps.set _ _ _)
            · cases h
          · cases h
        · cases h
      · cases h
    · cases h
  · cases h

theorem vInsert_keeps {t : TypeId} {m k v : V} (h : vInsert P wl t m k v H = some H') : Keeps H H' (idOf m) := by
  unfold vInsert at h
  split at h
  · split at h
    · split at h
      · split at h
        · split at h
          · cases h; exact Keeps.set _ _ _
          · cases h
        · cases h
      · cases h
    · cases h
  · cases h

theorem vAppend_keeps {t : TypeId} {s x v : V} (h : vAppend P wl t s x H = some (v, H')) : Keeps H H' (idOf s) := by
  unfold vAppend at h
  split at h
  · cases h
  · simp only [Option.bind_eq_some_iff] at h
    obtain ⟨xs, hx, h⟩ := h
    split at h
    · split at h
      · split at h
        · cases h; exact Keeps.push _ _ _
        · cases h
      · split at h
        · split at h
          · cases h; exact Keeps.set _ _ _
          · cases h
        · cases h
      · cases h
    · cases h

theorem vMakeSlice_keeps {t : TypeId} {l c v : V} (h : vMakeSlice P t l c H = some (v, H')) : Keeps H H' none := by
  unfold vMakeSlice at h
  split at h
  · cases h
  · split at h
    · split at h
      · split at h
        · split at h
          · cases h; exact Keeps.push _ _ _
          · cases h
        · cases h
      · cases h
    · cases h

theorem vBuildSlice_keeps {t : TypeId} {len : Nat} {parts : List (Nat × V)} {v : V} (h : vBuildSlice P wl t len parts H = some (v, H')) : Keeps H H' none := by
  unfold vBuildSlice at h
  split at h
  · cases h
  · split at h
    · split at h
      · simp only [Option.bind_eq_some_iff] at h
        obtain ⟨p, hp, h⟩ := h
        cases h
        exact (fillR_keeps hp).trans (Keeps.push _ _ _)
      · cases h
    · cases h

theorem vSlice_keeps {calm : Bool} {t : TypeId} {x v : V} {lo hi mx : Option V} (h : vSlice P wl calm t x lo hi mx H = some (v, H')) : Keeps H H' none := by
  unfold vSlice at h
  split at h
  · cases h
  · split at h
    · simp only [Option.bind_eq_some_iff] at h
      obtain ⟨_, _, _, _, _, _, h⟩ := h
      split at h
      · cases h; exact Keeps.refl _ _
      · cases h
    · split at h
      · simp only [Option.bind_eq_some_iff] at h
        obtain ⟨_, _, h⟩ := h
        split at h
        · split at h
          · cases h; exact Keeps.refl _ _
          · cases h
        · cases h
      · simp only [Option.bind_eq_some_iff] at h
        obtain ⟨_, _, _, _, h⟩ := h
        split at h
        · rename_i hb
          split at h
          · cases h; exact Keeps.live hb none
          · cases h
        · cases h
      · cases h
    · cases h

theorem callCalm_keeps {cx : Cx} {ord : Bool} {g : FuncId} {args : List V} {v : V} (h : callCalm cx ord g args H = some (v, H')) : Keeps H H' none := by
  have pure_ : ∀ {args : List V} {v : V} {H H' : Hp}, callPure cx g args H = some (v, H') → Keeps H H' none := by
    intro args v H H' h
    unfold callPure at h
    simp only [Option.bind_eq_some_iff] at h
    obtain ⟨p, _, q, _, h⟩ := h
    cases h
    exact Keeps.push _ _ _
  unfold callCalm at h
  split at h
  · split at h
    · exact pure_ h
    · split at h
      · cases h
      · simp only [Option.bind_eq_some_iff] at h
        obtain ⟨a, ha, h⟩ := h
        split at h
        · simp only [Option.bind_eq_some_iff] at h
          obtain ⟨q, hq, h⟩ := h
          cases h
          cases hs : q.1.scal with
          | true => exact Keeps.refl _ _
          | false => exact (fzAs_keeps ha).trans (pure_ (v := q.1) hq)
        · simp only [Option.bind_eq_some_iff] at h
          obtain ⟨p, _, h⟩ := h
          split at h
          · cases h; exact Keeps.refl _ _
          · cases h
  · split at h
    · simp only [Option.bind_eq_some_iff] at h
      obtain ⟨p, _, q, _, h⟩ := h
      split at h
      · cases h; exact Keeps.refl _ _
      · cases h
    · cases h

theorem noShorter_len {p q : V × Hp} (h : noShorter H p = some q) : H.length ≤ q.2.length := by
  unfold noShorter at h
  split at h
  · rename_i hl
    cases h
    exact Nat.le_of_ble_eq_true hl
  · cases h

/-- What an operation leaves as it is. -/
theorem opV_keeps {cx : Cx} {calm ord : Bool} {op : Op} {env : List V} {v : V} (h : opV cx calm ord op env H = some (v, H')) :
    H.length ≤ H'.length ∧ ((isCallV op = true → calm = true) → Keeps H H' (idAt env (writeOf op))) := by
  have fin : ∀ {W : Option Nat}, W = idAt env (writeOf op) → Keeps H H' W → H.length ≤ H'.length ∧ ((isCallV op = true → calm = true) → Keeps H H' (idAt env (writeOf op))) := by
    rintro _ rfl h; exact ⟨h.len, fun _ => h⟩
  have q : Keeps H H' none → H.length ≤ H'.length ∧ ((isCallV op = true → calm = true) → Keeps H H' (idAt env (writeOf op))) := fun h => ⟨h.len, fun _ => h.weaken⟩
  unfold opV at h
  split at h
  case h_1 => simp only [Option.map_eq_some_iff] at h; obtain ⟨_, _, e⟩ := h; cases e; exact q (Keeps.refl _ _)
  case h_2 =>
    simp only [Option.map_eq_some_iff] at h
    obtain ⟨_, _, e⟩ := h
    split at e
    · cases e; exact q (Keeps.push _ _ _)
    · cases e; exact q (Keeps.refl _ _)
  case h_3 => simp only [Option.bind_eq_some_iff, Option.map_eq_some_iff] at h; obtain ⟨_, _, _, _, _, _, _, _, e⟩ := h; cases e; exact q (Keeps.refl _ _)
  case h_4 =>
    simp only [Option.bind_eq_some_iff] at h
    obtain ⟨z, _, h⟩ := h
    split at h
    · cases h; exact q ((matL_keeps _ _ _).trans (Keeps.push _ _ _))
    · cases h
  case h_5 =>
    simp only [Option.bind_eq_some_iff] at h
    obtain ⟨_, _, _, _, h⟩ := h
    cases h; exact q ((matL_keeps _ _ _).trans (Keeps.push _ _ _))
  case h_6 => simp only [Option.bind_eq_some_iff, Option.map_eq_some_iff] at h; obtain ⟨_, _, _, _, e⟩ := h; cases e; exact q (Keeps.refl _ _)
  case h_7 =>
    simp only [Option.bind_eq_some_iff] at h
    obtain ⟨_, _, h⟩ := h
    split at h
    · cases h
    · exact q (vBuildSlice_keeps h)
  case h_8 =>
    simp only [Option.bind_eq_some_iff, Option.map_eq_some_iff] at h
    obtain ⟨m, hm, _, _, _, _, H1, hH, e⟩ := h
    cases e
    refine fin ?_ (vInsert_keeps hH)
    simp only [writeOf, idAt, hm]
  case h_9 => simp only [Option.bind_eq_some_iff, Option.map_eq_some_iff] at h; obtain ⟨_, _, _, _, e⟩ := h; cases e; exact q (Keeps.refl _ _)
  case h_10 =>
    simp only [Option.bind_eq_some_iff, Option.map_eq_some_iff] at h
    obtain ⟨a, ha, _, _, H1, hH, e⟩ := h
    cases e
    refine fin ?_ (vStore_keeps hH)
    simp only [writeOf, idAt, ha]
  case h_11 => simp only [Option.bind_eq_some_iff, Option.map_eq_some_iff] at h; obtain ⟨_, _, _, _, e⟩ := h; cases e; exact q (Keeps.refl _ _)
  case h_12 => simp only [Option.bind_eq_some_iff, Option.map_eq_some_iff] at h; obtain ⟨_, _, _, _, _, _, e⟩ := h; cases e; exact q (Keeps.refl _ _)
  case h_13 => simp only [Option.bind_eq_some_iff, Option.map_eq_some_iff] at h; obtain ⟨_, _, _, _, e⟩ := h; cases e; exact q (Keeps.refl _ _)
  case h_14 => simp only [Option.bind_eq_some_iff, Option.map_eq_some_iff] at h; obtain ⟨_, _, _, _, e⟩ := h; cases e; exact q (Keeps.refl _ _)
  case h_15 => simp only [Option.bind_eq_some_iff, Option.map_eq_some_iff] at h; obtain ⟨_, _, _, _, e⟩ := h; cases e; exact q (Keeps.refl _ _)
  case h_16 =>
    split at h
    · cases h; exact q (Keeps.push _ _ _)
    · cases h
  case h_17 =>
    simp only [Option.bind_eq_some_iff] at h
    obtain ⟨_, _, _, _, h⟩ := h
    exact q (vMakeSlice_keeps h)
  case h_18 =>
    simp only [Option.bind_eq_some_iff] at h
    obtain ⟨_, _, _, _, _, _, _, _, h⟩ := h
    exact q (vSlice_keeps h)
  case h_19 => simp only [Option.bind_eq_some_iff, Option.map_eq_some_iff] at h; obtain ⟨_, _, _, _, e⟩ := h; cases e; exact q (Keeps.refl _ _)
  case h_20 => simp only [Option.bind_eq_some_iff, Option.map_eq_some_iff] at h; obtain ⟨_, _, _, _, e⟩ := h; cases e; exact q (Keeps.refl _ _)
  case h_21 => simp only [Option.bind_eq_some_iff, Option.map_eq_some_iff] at h; obtain ⟨_, _, _, _, _, _, e⟩ := h; cases e; exact q (Keeps.refl _ _)
  case h_22 => simp only [Option.bind_eq_some_iff, Option.map_eq_some_iff] at h; obtain ⟨_, _, _, _, _, _, e⟩ := h; cases e; exact q (Keeps.refl _ _)
  case h_23 => simp only [Option.bind_eq_some_iff, Option.map_eq_some_iff] at h; obtain ⟨_, _, _, _, _, _, e⟩ := h; cases e; exact q (Keeps.refl _ _)
  case h_24 => simp only [Option.bind_eq_some_iff, Option.map_eq_some_iff] at h; obtain ⟨_, _, _, _, e⟩ := h; cases e; exact q (Keeps.refl _ _)
  case h_25 c =>
    split at h
    · rename_i b hb
      simp only [Option.bind_eq_some_iff] at h
      obtain ⟨as, has, h⟩ := h
      unfold bltV at h
      split at h
      · split at h
        · split at h
          · simp only [Option.map_eq_some_iff] at h
            obtain ⟨_, _, e⟩ := h
            cases e; exact q (Keeps.refl _ _)
          · cases h
        · cases h
      · split at h
        · split at h
          · rename_i s x _ _
            refine fin ?_ (vAppend_keeps h)
            cases hl : c.args.toList with
            | nil => rw [hl] at has; cases has
            | cons y ys =>
              rw [hl] at has
              simp only [evOs, Option.bind_eq_some_iff] at has
              obtain ⟨v0, hv0, l, _, e⟩ := has
              cases e
              have : c.args[0]? = some y := by
                have : c.args.toList[0]? = some y := by rw [hl]; rfl
                simpa using this
              simp only [writeOf, hb, this, idAt, hv0]
          · cases h
        · cases h
      · simp only [Option.map_eq_some_iff] at h
        obtain ⟨_, _, e⟩ := h
        cases e; exact q (Keeps.refl _ _)
      · simp only [Option.map_eq_some_iff] at h
        obtain ⟨_, _, e⟩ := h
        cases e; exact q (Keeps.refl _ _)
      · cases h
    · rename_i f hf
      simp only [Option.bind_eq_some_iff] at h
      obtain ⟨fv, _, as, _, h⟩ := h
      unfold callV at h
      split at h
      · split at h
        · exact q (callCalm_keeps h)
        · rename_i hcalm
          simp only [Option.bind_eq_some_iff] at h
          obtain ⟨p, _, h⟩ := h
          exact ⟨noShorter_len h, fun hc => absurd (hc (by simp [isCallV, hf])) (by simpa using hcalm)⟩
      · split at h
        · cases h
        · rename_i hcalm
          simp only [Option.bind_eq_some_iff] at h
          obtain ⟨_, _, p, _, h⟩ := h
          exact ⟨noShorter_len h, fun hc => absurd (hc (by simp [isCallV, hf])) (by simpa using hcalm)⟩
      · cases h
    · cases h
  case h_26 => cases h

end loc
end Go.Ab
