/- Operations that look at little: what they yield elsewhere. -/
import Derived.Test.YtecgfaaaloameaaAbLocal
namespace Go.Ab
section loc
variable {P : Program} {wl : Nat} {H H' H2 : Hp}

/-- Two environments that agree on what is asked. -/
def AgreeO (env env' : List V) (x : Operand) : Prop := ∀ t, x = .tmp t → env[t]? = env'[t]?

theorem evO_congr {env env' : List V} {x : Operand} (h : AgreeO env env' x) : evO env x = evO env' x := by
  cases x <;> first | rfl | exact h _ rfl

theorem evOs_congr {env env' : List V} : ∀ {xs : List Operand}, (∀ x ∈ xs, AgreeO env env' x) → evOs env xs = evOs env' xs
  | [], _ => rfl
  | x :: xs, h => by
    simp only [evOs, evO_congr (h x (by simp)), evOs_congr (xs := xs) (fun y hy => h y (by simp [hy]))]

theorem mapO_congr {env env' : List V} : ∀ {xs : List (Nat × Operand)}, (∀ x ∈ xs, AgreeO env env' x.2) → mapO (evO env) xs = mapO (evO env') xs
  | [], _ => rfl
  | (i, x) :: xs, h => by
    simp only [mapO, evO_congr (h (i, x) (by simp)), mapO_congr (xs := xs) (fun y hy => h y (by simp [hy]))]

theorem evOO_congr {env env' : List V} {x : Option Operand} (h : ∀ y, x = some y → AgreeO env env' y) : evOO env x = evOO env' x := by
  cases x with
  | none => rfl
  | some x => simp only [evOO, evO_congr (h x rfl)]

theorem opV_congr {cx : Cx} {calm ord : Bool} {op : Op} {env env' : List V} (h : ∀ x ∈ op.operands, AgreeO env env' x) : opV cx calm ord op env H = opV cx calm ord op env' H := by
  cases op
  case build t ps => simp only [opV, mapO_congr (env := env) (env' := env') (xs := ps.toList) (fun x hx => h x.2 (by simp only [Op.operands]; simp; exact ⟨x.1, by simpa using hx⟩))]
  case buildSlice t n ps => simp only [opV, mapO_congr (env := env) (env' := env') (xs := ps.toList) (fun x hx => h x.2 (by simp only [Op.operands]; simp; exact ⟨x.1, by simpa using hx⟩))]
  case makeFunc f x y =>
    simp only [opV, evOs_congr (env := env) (env' := env') (xs := x.toList) (fun z hz => h z (by simp only [Op.operands]; simp at hz; simp [hz])),
      evOs_congr (env := env) (env' := env') (xs := y.toList) (fun z hz => h z (by simp only [Op.operands]; simp at hz; simp [hz]))]
  case slice t x lo hi mx =>
    simp only [opV, evO_congr (h x (by simp [Op.operands])), evOO_congr (x := lo) (fun y hy => h y (by simp [Op.operands, hy])), evOO_congr (x := hi) (fun y hy => h y (by simp [Op.operands, hy])),
      evOO_congr (x := mx) (fun y hy => h y (by simp [Op.operands, hy]))]
  case call c =>
    have hargs : evOs env c.args.toList = evOs env' c.args.toList := evOs_congr (fun z hz => h z (by simp only [Op.operands, Call.operands]; simp at hz; simp [hz]))
    simp only [opV, hargs]
    cases hc : c.callee with
    | value f => simp only [evO_congr (h f (by simp [Op.operands, Call.operands, hc]))]
    | invoke r m => rfl
    | builtin b => rfl
  case pick c x y => simp only [opV, evO_congr (h c (by simp [Op.operands])), evO_congr (h x (by simp [Op.operands])), evO_congr (h y (by simp [Op.operands]))]
  case insert t m k v => simp only [opV, evO_congr (h m (by simp [Op.operands])), evO_congr (h k (by simp [Op.operands])), evO_congr (h v (by simp [Op.operands]))]
  case store t x y => simp only [opV, evO_congr (h x (by simp [Op.operands])), evO_congr (h y (by simp [Op.operands]))]
  case binOp op t x y u => simp only [opV, evO_congr (h x (by simp [Op.operands])), evO_congr (h y (by simp [Op.operands]))]
  case makeSlice t x y => simp only [opV, evO_congr (h x (by simp [Op.operands])), evO_congr (h y (by simp [Op.operands]))]
  case indexAddr t x y => simp only [opV, evO_congr (h x (by simp [Op.operands])), evO_congr (h y (by simp [Op.operands]))]
  case index t x y => simp only [opV, evO_congr (h x (by simp [Op.operands])), evO_congr (h y (by simp [Op.operands]))]
  case lookup t x y ok => simp only [opV, evO_congr (h x (by simp [Op.operands])), evO_congr (h y (by simp [Op.operands]))]
  case move x => simp only [opV, evO_congr (h x (by simp [Op.operands]))]
  case assign x => simp only [opV, evO_congr (h x (by simp [Op.operands]))]
  case box t x => simp only [opV, evO_congr (h x (by simp [Op.operands]))]
  case load t x => simp only [opV, evO_congr (h x (by simp [Op.operands]))]
  case nilCheck x => simp only [opV, evO_congr (h x (by simp [Op.operands]))]
  case unOp op t x => simp only [opV, evO_congr (h x (by simp [Op.operands]))]
  case convert s d x => simp only [opV, evO_congr (h x (by simp [Op.operands]))]
  case fieldAddr t x i => simp only [opV, evO_congr (h x (by simp [Op.operands]))]
  case field t x i => simp only [opV, evO_congr (h x (by simp [Op.operands]))]
  case extract x i => simp only [opV, evO_congr (h x (by simp [Op.operands]))]
  all_goals rfl

theorem opV_plain {cx : Cx} {calm ord : Bool} {op : Op} {env : List V} {v : V} (hk : opKd op = .plain) (h : opV cx calm ord op env H = some (v, H')) : H' = H ∧ ∀ H2, opV cx calm ord op env H2 = some (v, H2) := by
  cases op
  case call c =>
    cases hc : c.callee with
    | value f => simp [opKd, hc] at hk
    | invoke r m => simp [opKd, hc] at hk
    | builtin b =>
      simp only [opV, hc, Option.bind_eq_some_iff] at h ⊢
      obtain ⟨as, has, h⟩ := h
      cases b <;> simp only [opKd, hc] at hk <;> first | cases hk | skip
      case builtin.max.intro =>
        simp only [bltV, Option.map_eq_some_iff] at h
        obtain ⟨v', hv, e⟩ := h
        cases e
        exact ⟨rfl, fun H2 => ⟨as, has, by simp only [bltV, hv, Option.map_some]⟩⟩
      case builtin.min.intro =>
        simp only [bltV, Option.map_eq_some_iff] at h
        obtain ⟨v', hv, e⟩ := h
        cases e
        exact ⟨rfl, fun H2 => ⟨as, has, by simp only [bltV, hv, Option.map_some]⟩⟩
      case builtin.append => split at hk <;> cases hk
  case assign x =>
    cases x with
    | const c => simp [opKd] at hk
    | tmp t =>
      simp only [opV, Option.map_eq_some_iff] at h ⊢
      obtain ⟨y, hy, e⟩ := h
      cases e
      exact ⟨rfl, fun H2 => ⟨_, hy, rfl⟩⟩
    | func f =>
      simp only [opV, Option.map_eq_some_iff] at h ⊢
      obtain ⟨y, hy, e⟩ := h
      cases e
      exact ⟨rfl, fun H2 => ⟨_, hy, rfl⟩⟩
    | global g =>
      simp only [opV, Option.map_eq_some_iff] at h ⊢
      obtain ⟨y, hy, e⟩ := h
      cases hy
  case move x => simp only [opV, Option.map_eq_some_iff] at h ⊢; obtain ⟨y, hy, e⟩ := h; cases e; exact ⟨rfl, fun H2 => ⟨_, hy, rfl⟩⟩
  case pick c x y => simp only [opV, Option.bind_eq_some_iff, Option.map_eq_some_iff] at h ⊢; obtain ⟨_, h1, _, h2, _, h3, _, h4, e⟩ := h; cases e; exact ⟨rfl, fun H2 => ⟨_, h1, _, h2, _, h3, _, h4, rfl⟩⟩
  case build t ps => simp only [opV, Option.bind_eq_some_iff, Option.map_eq_some_iff] at h ⊢; obtain ⟨_, h1, _, h2, e⟩ := h; cases e; exact ⟨rfl, fun H2 => ⟨_, h1, _, h2, rfl⟩⟩
  case binOp op t x y u => simp only [opV, Option.bind_eq_some_iff, Option.map_eq_some_iff] at h ⊢; obtain ⟨_, h1, _, h2, _, h3, e⟩ := h; cases e; exact ⟨rfl, fun H2 => ⟨_, h1, _, h2, _, h3, rfl⟩⟩
  case unOp op t x => simp only [opV, Option.bind_eq_some_iff, Option.map_eq_some_iff] at h ⊢; obtain ⟨_, h1, _, h2, e⟩ := h; cases e; exact ⟨rfl, fun H2 => ⟨_, h1, _, h2, rfl⟩⟩
  case convert s d x => simp only [opV, Option.bind_eq_some_iff, Option.map_eq_some_iff] at h ⊢; obtain ⟨_, h1, _, h2, e⟩ := h; cases e; exact ⟨rfl, fun H2 => ⟨_, h1, _, h2, rfl⟩⟩
  case makeFunc f x y => simp only [opV, Option.bind_eq_some_iff, Option.map_eq_some_iff] at h ⊢; obtain ⟨_, h1, _, h2, e⟩ := h; cases e; exact ⟨rfl, fun H2 => ⟨_, h1, _, h2, rfl⟩⟩
  case extract x i => simp only [opV, Option.bind_eq_some_iff, Option.map_eq_some_iff] at h ⊢; obtain ⟨_, h1, _, h2, e⟩ := h; cases e; exact ⟨rfl, fun H2 => ⟨_, h1, _, h2, rfl⟩⟩
  case field t x i => simp only [opV, Option.bind_eq_some_iff, Option.map_eq_some_iff] at h ⊢; obtain ⟨_, h1, _, h2, e⟩ := h; cases e; exact ⟨rfl, fun H2 => ⟨_, h1, _, h2, rfl⟩⟩
  case fieldAddr t x i => simp only [opV, Option.bind_eq_some_iff, Option.map_eq_some_iff] at h ⊢; obtain ⟨_, h1, _, h2, e⟩ := h; cases e; exact ⟨rfl, fun H2 => ⟨_, h1, _, h2, rfl⟩⟩
  case index t x i => simp only [opV, Option.bind_eq_some_iff, Option.map_eq_some_iff] at h ⊢; obtain ⟨_, h1, _, h2, _, h3, e⟩ := h; cases e; exact ⟨rfl, fun H2 => ⟨_, h1, _, h2, _, h3, rfl⟩⟩
  all_goals simp [opKd] at hk

theorem seen_box {id : Nat} {cs : List V} (hs : seenAt H2 id = seenAt H id) (h : H[id]? = some (.box cs)) : H2[id]? = some (.box cs) := by
  unfold seenAt at hs
  rw [h] at hs
  cases h2 : H2[id]? with
  | none => rw [h2] at hs; cases hs
  | some b => rw [h2] at hs; cases b <;> simp [B.seen] at hs <;> rw [hs]

theorem seen_map {id : Nat} {es : List (Value × V)} (hs : seenAt H2 id = seenAt H id) (h : H[id]? = some (.map es)) : H2[id]? = some (.map es) := by
  unfold seenAt at hs
  rw [h] at hs
  cases h2 : H2[id]? with
  | none => rw [h2] at hs; cases hs
  | some b => rw [h2] at hs; cases b <;> simp [B.seen] at hs <;> rw [hs]

theorem seen_rows {id e g : Nat} {rs : List (List V)} {l : Bool} (hs : seenAt H2 id = seenAt H id) (h : H[id]? = some (.rows e rs g l)) : ∃ l', H2[id]? = some (.rows e rs g l') := by
  unfold seenAt at hs
  rw [h] at hs
  cases h2 : H2[id]? with
  | none => rw [h2] at hs; cases hs
  | some b =>
    rw [h2] at hs
    cases b <;> simp [B.seen] at hs
    rename_i e' rs' g' l'
    obtain ⟨rfl, rfl, rfl⟩ := hs
    exact ⟨l', rfl⟩

/-- What is looked at lies as it lay. -/
def Sees (H H2 : Hp) (x : V) : Prop := ∀ id, idOf x = some id → seenAt H2 id = seenAt H id

theorem vLoad_sees {t : TypeId} {a v : V} (h : vLoad P t a H = some v) (hs : Sees H H2 a) : vLoad P t a H2 = some v := by
  unfold vLoad at h ⊢
  split at h
  · exact h
  · rename_i id g row off
    split at h
    · rename_i cs hb; rw [seen_box (hs id rfl) hb]; exact h
    · rename_i e rs g' l hb; obtain ⟨l', hl⟩ := seen_rows (hs id rfl) hb; rw [hl]; exact h
    · cases h
  · cases h

theorem vNil_sees {x v : V} (h : vNil x H = some v) (hs : Sees H H2 x) : vNil x H2 = some v := by
  unfold vNil at h ⊢
  split at h
  · exact h
  · exact h
  · rename_i id g row off
    split at h
    · rename_i cs hb; rw [seen_box (hs id rfl) hb]; exact h
    · rename_i e rs g' l hb; obtain ⟨l', hl⟩ := seen_rows (hs id rfl) hb; rw [hl]; exact h
    · cases h
  · cases h

theorem vLen_sees {x v : V} (h : vLen x H = some v) (hs : Sees H H2 x) : vLen x H2 = some v := by
  unfold vLen at h ⊢
  split at h
  · exact h
  · exact h
  · rename_i id g len
    split at h
    · rename_i e rs g' l hb; obtain ⟨l', hl⟩ := seen_rows (hs id rfl) hb; rw [hl]; exact h
    · cases h
  · cases h

theorem vLookup_sees {t : TypeId} {m k v : V} {ok : Bool} (h : vLookup P t m k ok H = some v) (hs : Sees H H2 m) : vLookup P t m k ok H2 = some v := by
  unfold vLookup at h ⊢
  split at h
  · split at h
    · rename_i hk
      rw [if_pos hk]
      split at h
      · rename_i z id kk n hz
        split at h
        · rename_i es hb
          simp only [seen_map (hs id rfl) hb]
          exact h
        · cases h
      · cases h
    · cases h
  · cases h

theorem vIndexAddr_sees {t : TypeId} {x i v : V} (h : vIndexAddr P t x i H = some v) (hs : Sees H H2 x) : vIndexAddr P t x i H2 = some v := by
  unfold vIndexAddr at h ⊢
  split at h
  · rename_i k n
    split at h
    · rename_i hn
      simp only [if_pos hn]
      split at h
      · rename_i e hu
        split at h
        · exact h
        · rename_i id g len
          split at h
          · rename_i s rs g' l hb
            obtain ⟨l', hl⟩ := seen_rows (hs id rfl) hb
            simp only [hl]
            exact h
          · cases h
        · cases h
      · exact h
      · cases h
    · cases h
  · cases h

theorem vSlice_sees {t : TypeId} {x v : V} {lo hi mx : Option V} (h : vSlice P wl true t x lo hi mx H = some (v, H')) (hs : Sees H H2 x) : H' = H ∧ vSlice P wl true t x lo hi mx H2 = some (v, H2) := by
  unfold vSlice at h ⊢
  split at h
  · cases h
  · rename_i e he
    split at h
    · simp only [Option.bind_eq_some_iff] at h ⊢
      obtain ⟨a, ha, b, hb, c, hc, h⟩ := h
      split at h
      · rename_i hcond
        cases h
        exact ⟨rfl, a, ha, b, hb, c, hc, by rw [if_pos hcond]⟩
      · cases h
    · rename_i id g len
      split at h
      · simp only [Option.bind_eq_some_iff] at h ⊢
        obtain ⟨a, ha, h⟩ := h
        split at h
        · rename_i s rs g' l hb
          split at h
          · rename_i hcond
            cases h
            obtain ⟨l', hl⟩ := seen_rows (hs id rfl) hb
            exact ⟨rfl, a, ha, by simp only [hl]; rw [if_pos hcond]⟩
          · cases h
        · cases h
      · simp only [Option.bind_eq_some_iff] at h
        obtain ⟨a, ha, b, hb, h⟩ := h
        split at h
        · split at h
          · rename_i hcond
            exact absurd hcond.2.1 (by simp)
          · cases h
        · cases h
      · cases h
    · cases h

/-- A look at memory, calmly. -/
theorem opV_reads {cx : Cx} {ord : Bool} {op : Op} {env : List V} {v : V} (hk : opKd op = .reads) (h : opV cx true ord op env H = some (v, H')) :
    H' = H ∧ ∀ H2, (∀ id, idAt env (readOf op) = some id → seenAt H2 id = seenAt H id) → opV cx true ord op env H2 = some (v, H2) := by
  cases op
  case load t x =>
    simp only [opV, Option.bind_eq_some_iff, Option.map_eq_some_iff] at h ⊢
    obtain ⟨y, hy, v', hv, e⟩ := h
    cases e
    exact ⟨rfl, fun H2 hs => ⟨y, hy, v, vLoad_sees hv (fun id hid => hs id (by simp only [readOf, idAt, hy, hid])), rfl⟩⟩
  case lookup t m k ok =>
    simp only [opV, Option.bind_eq_some_iff, Option.map_eq_some_iff] at h ⊢
    obtain ⟨y, hy, z, hz, v', hv, e⟩ := h
    cases e
    exact ⟨rfl, fun H2 hs => ⟨y, hy, z, hz, v, vLookup_sees hv (fun id hid => hs id (by simp only [readOf, idAt, hy, hid])), rfl⟩⟩
  case nilCheck x =>
    simp only [opV, Option.bind_eq_some_iff, Option.map_eq_some_iff] at h ⊢
    obtain ⟨y, hy, v', hv, e⟩ := h
    cases e
    exact ⟨rfl, fun H2 hs => ⟨y, hy, v, vNil_sees hv (fun id hid => hs id (by simp only [readOf, idAt, hy, hid])), rfl⟩⟩
  case indexAddr t x i =>
    simp only [opV, Option.bind_eq_some_iff, Option.map_eq_some_iff] at h ⊢
    obtain ⟨y, hy, z, hz, v', hv, e⟩ := h
    cases e
    exact ⟨rfl, fun H2 hs => ⟨y, hy, z, hz, v, vIndexAddr_sees hv (fun id hid => hs id (by simp only [readOf, idAt, hy, hid])), rfl⟩⟩
  case slice t x lo hi mx =>
    simp only [opV, Option.bind_eq_some_iff] at h ⊢
    obtain ⟨y, hy, a, ha, b, hb, c, hc, h⟩ := h
    exact ⟨(vSlice_sees h (H2 := H) (fun _ _ => rfl)).1, fun H2 hs => ⟨y, hy, a, ha, b, hb, c, hc, (vSlice_sees h (fun id hid => hs id (by simp only [readOf, idAt, hy, hid]))).2⟩⟩
  case call c =>
    cases hc : c.callee with
    | value f => simp [opKd, hc] at hk
    | invoke r m => simp [opKd, hc] at hk
    | builtin b =>
      simp only [opV, hc, Option.bind_eq_some_iff] at h ⊢
      obtain ⟨as, has, h⟩ := h
      cases b <;> simp only [opKd, hc] at hk <;> first | cases hk | skip
      case builtin.len.intro =>
        unfold bltV at h
        simp only at h
        split at h
        · rename_i t x hts
          split at h
          · rename_i he
            simp only [Option.map_eq_some_iff] at h
            obtain ⟨v', hv, e⟩ := h
            cases e
            refine ⟨rfl, fun H2 hs => ⟨_, has, ?_⟩⟩
            unfold bltV
            simp only [hts, he, if_true, Option.map_eq_some_iff]
            refine ⟨v, vLen_sees hv (fun id hid => hs id ?_), rfl⟩
            cases hl : c.args.toList with
            | nil => rw [hl] at has; cases has
            | cons y ys =>
              rw [hl] at has
              simp only [evOs, Option.bind_eq_some_iff] at has
              obtain ⟨v0, hv0, l, _, e⟩ := has
              cases e
              have : c.args[0]? = some y := by
                have : c.args.toList[0]? = some y := by rw [hl]; rfl
                simpa using this
              simp only [readOf, hc, this, idAt, hv0, hid]
          · cases h
        · cases h
      case builtin.append => split at hk <;> cases hk
  case assign x => cases x <;> simp [opKd] at hk
  all_goals simp [opKd] at hk

/-- A call of data alone, whose result is data: wherever. -/
theorem opV_quiet {cx : Cx} {op : Op} {env : List V} {v : V} (hk : isCall op = true) (h : opV cx true false op env H = some (v, H')) : H' = H ∧ ∀ H2, opV cx true false op env H2 = some (v, H2) := by
  unfold isCall at hk
  split at hk
  · rename_i c
    split at hk
    · rename_i f hf
      simp only [opV, hf, Option.bind_eq_some_iff] at h ⊢
      obtain ⟨fv, hfv, as, has, h⟩ := h
      unfold callV at h
      split at h
      · rename_i g first caps
        simp only [if_true] at h
        unfold callCalm at h
        simp only [Bool.false_eq_true, if_false] at h
        split at h
        · rename_i hp
          simp only [Option.bind_eq_some_iff] at h
          obtain ⟨p, h1, q, h2, h⟩ := h
          split at h
          · rename_i h3
            cases h
            refine ⟨rfl, fun H2 => ⟨_, hfv, as, has, ?_⟩⟩
            unfold callV
            simp only [if_true]
            unfold callCalm
            simp only [Bool.false_eq_true, if_false, hp, if_true, Option.bind_eq_some_iff]
            exact ⟨p, h1, q, h2, by rw [if_pos h3]⟩
          · cases h
        · cases h
      · simp at h
      · cases h
    · cases hk
  · cases hk

end loc
end Go.Ab
