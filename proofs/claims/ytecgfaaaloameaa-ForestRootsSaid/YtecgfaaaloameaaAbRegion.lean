/- What is known within an activation; a region whose operations come one behind the other. -/
import Derived.Test.YtecgfaaaloameaaAbCalls
import Derived.OrdersIn
namespace Go.Ab
open Go.RowKit
section region
variable {P : Program} {wl B0 : Nat} {w0 : World} {R0 R R' : Ro} {σ0 σ σ' : List Sg} {ws : World} {n1 : Nat} {H : Hp} {w w' : World}

/-- The marks of loops over functions that are done: nothing was deferred in them. -/
def Marks (n1 : Nat) : List Deferred → World → Prop
  | [], _ => True
  | d :: ds, w => (∃ r, d.target = .collected r ∧ n1 ≤ r ∧ w.heap[r]? = some (.deferred (some [])) ∧ ∀ d' ∈ ds, d'.target ≠ .collected r) ∧ Marks n1 ds w

theorem Marks.keep : ∀ {ds : List Deferred}, Marks n1 ds w → (∀ (b : Nat) (x : Option (List Deferred)), w.heap[b]? = some (.deferred x) → w'.heap[b]? = w.heap[b]?) → Marks n1 ds w'
  | [], _, _ => trivial
  | _ :: _, ⟨⟨r, h1, h2, h3, h4⟩, h5⟩, hk => ⟨⟨r, h1, h2, (hk r _ h3).trans h3, h4⟩, h5.keep hk⟩

/-- Where an activation stands. -/
structure At (wl B0 : Nat) (w0 : World) (R0 : Ro) (σ0 : List Sg) (ws : World) (n1 : Nat) (s : St) (R : Ro) (σ : List Sg) (a : Act) (w : World) : Prop where
  env : RelA R σ s.env a.tmps
  stp : Stp (TB B0) wl B0 w0 R0 σ0 ws R σ s.H w
  size : ws.heap.size ≤ w.heap.size
  marks : Marks n1 a.defers w

theorem put_defers (a : Act) (d : Option Tmp) (v : Value) : (a.put d v).defers = a.defers := by cases d <;> rfl

theorem putE_rel {env : List V} {tmps : Array Value} {a : Act} (h : RelA R σ env a.tmps) (d : Option Tmp) {v : V} {cv : Value} (hv : RelV R σ v cv) : RelA R σ (putE env d v) (a.put d cv).tmps := by
  cases d with
  | none => exact h
  | some d => exact h.set d hv

theorem At.op {s : St} {a : Act} (h : At wl B0 w0 R0 σ0 ws n1 s R σ a w) {v : V} {cv : Value} {H' : Hp} (d : Option Tmp) (st : Stp (TB B0) wl B0 w0 R σ w R' σ' H' w') (hv : RelV R' σ' v cv) (hs : w.heap.size ≤ w'.heap.size) :
    At wl B0 w0 R0 σ0 ws n1 ⟨putE s.env d v, H'⟩ R' σ' (a.put d cv) w' where
  env := putE_rel (tmps := a.tmps) (h.env.mono st.le st.ext) d hv
  stp := h.stp.trans st h.size
  size := Nat.le_trans h.size hs
  marks := by rw [put_defers]; exact h.marks.keep st.df

/-- Whether an operation's guard lets it run. -/
def GuardV (ops : Array Oper) (o : Oper) (env : List V) (ran : Bool) : Prop :=
  match o.guard with
  | none => ran = true
  | some (j, want) => ∃ d, (ops[j]?).bind (·.dst) = some d ∧ ((∃ b, env[d]? = some (.lit (.bool b)) ∧ ran = (b == want)) ∨ (∃ vs, env[d]? = some (.lit (.tuple vs)) ∧ ran = false))

theorem GuardV.wanted {ops : Array Oper} {o : Oper} {env : List V} {ran : Bool} (h : GuardV ops o env ran) {tmps : Array Value}
    (hE : ∀ j want d c, o.guard = some (j, want) → (ops[j]?).bind (·.dst) = some d → env[d]? = some c → ∃ v, tmps[d]? = some v ∧ RelV R σ c v) : Region.wanted o (yielded ops tmps) = ran := by
  unfold GuardV at h
  unfold Region.wanted
  cases hg : o.guard with
  | none => rw [hg] at h; exact h.symm
  | some p =>
    obtain ⟨j, want⟩ := p
    rw [hg] at h
    obtain ⟨d, hd, h⟩ := h
    simp only [yielded, hd, Option.bind_some]
    rcases h with ⟨b, hb, rfl⟩ | ⟨vs, hvs, rfl⟩
    · obtain ⟨v, hv, hr⟩ := hE j want d _ hg hd hb
      have := hr.lit_inv
      subst this
      rw [hv]
      cases b <;> cases want <;> rfl
    · obtain ⟨v, hv, hr⟩ := hE j want d _ hg hd hvs
      have := hr.lit_inv
      subst this
      rw [hv]
      rfl

variable {T : Type}

theorem opsK_cons {cx : Cx} {n0 : Nat} {rg : Rg} {ops : Array Oper} {o : Oper} {i : Nat} {rest : List (Oper × Nat)} {logs : List Nat × List Nat} {K : St → Option T} {s : St} {r : T}
    (h : opsK cx n0 rg ops ((o, i) :: rest) logs K s = some r) :
    (GuardV ops o s.env true ∧ strictOk n0 (rg.strict i) o.op s.env = true ∧ ∃ p, opV cx (rg.calm i) (rg.ord i) o.op s.env s.H = some p ∧ opsK cx n0 rg ops rest (logA rg i o.op s.env logs) K ⟨putE s.env o.dst p.1, p.2⟩ = some r) ∨
    (GuardV ops o s.env false ∧ opsK cx n0 rg ops rest logs K ⟨putE s.env o.dst (.lit undef), s.H⟩ = some r) := by
  have run : ∀ {env : List V}, (if strictOk n0 (rg.strict i) o.op env then
        (opV cx (rg.calm i) (rg.ord i) o.op env s.H).bind fun p => opsK cx n0 rg ops rest (logA rg i o.op env logs) K ⟨putE env o.dst p.1, p.2⟩
      else none) = some r → strictOk n0 (rg.strict i) o.op env = true ∧ ∃ p, opV cx (rg.calm i) (rg.ord i) o.op env s.H = some p ∧ opsK cx n0 rg ops rest (logA rg i o.op env logs) K ⟨putE env o.dst p.1, p.2⟩ = some r := by
    intro env h
    split at h
    · rename_i hs
      simp only [Option.bind_eq_some_iff] at h
      exact ⟨hs, h⟩
    · cases h
  unfold opsK at h
  simp only at h
  split at h
  · rename_i hg
    exact .inl ⟨by unfold GuardV; rw [hg], run h⟩
  · rename_i j want hg
    split at h
    · cases h
    · rename_i d hd
      split at h
      · rename_i b hb
        have hset : ∀ b', b = b' → s.env.set d (.lit (.bool b')) = s.env := by
          rintro _ rfl
          apply List.ext_getElem?
          intro k
          by_cases hk : k = d
          · subst hk; rw [List.getElem?_set_self (List.getElem?_eq_some_iff.1 hb).1, hb]
          · rw [List.getElem?_set_ne (by omega)]
        have gv : ∀ ran, ran = (b == want) → GuardV ops o s.env ran := fun ran e => by
          unfold GuardV
          rw [hg]
          exact ⟨d, hd, .inl ⟨b, hb, e⟩⟩
        unfold onGuard at h
        cases b with
        | true =>
          rw [cond_true] at h
          cases want with
          | true => rw [if_pos rfl, hset true rfl] at h; exact .inl ⟨gv _ rfl, run h⟩
          | false => rw [if_neg (by simp), hset true rfl] at h; exact .inr ⟨gv _ rfl, h⟩
        | false =>
          rw [cond_false] at h
          cases want with
          | true => rw [if_pos rfl, hset false rfl] at h; exact .inr ⟨gv _ rfl, h⟩
          | false => rw [if_neg (by simp), hset false rfl] at h; exact .inl ⟨gv _ rfl, run h⟩
      · rename_i vs hvs
        exact .inr ⟨by unfold GuardV; rw [hg]; exact ⟨d, hd, .inr ⟨vs, hvs, rfl⟩⟩, h⟩
      · cases h

theorem opsK_lex {cx : Cx} (hP : cx.P = P) (hW : cx.wl = wl) (hC : CallOk P cx.call) (hY : YldOk P cx.yld) {ro : Option Nat} {n n0 : Nat} {ops : Array Oper} {K : St → Option T} {r : T} {Q : Exit → Act → World → Prop}
    (hQ : ∀ (s : St) (R : Ro) (σ : List Sg) (a : Act) (w : World), K s = some r → At wl B0 w0 R0 σ0 ws n1 s R σ a w → Q .normal a w) :
    ∀ (l : List (Oper × Nat)), (∀ p ∈ l, ops[p.2]? = some p.1) → ∀ (s : St) (logs : List Nat × List Nat) (R : Ro) (σ : List Sg) (a : Act) (w : World),
      opsK cx n0 Rg.none ops l logs K s = some r → At wl B0 w0 R0 σ0 ws n1 s R σ a w → wpOpsIn (Fw ro) n P ops Q (l.map (·.2)) a w
  | [], _, s, logs, R, σ, a, w, h, hA => hQ s R σ a w h hA
  | (o, i) :: rest, hl, s, logs, R, σ, a, w, h, hA => by
    have ho : ops[i]? = some o := hl (o, i) (by simp)
    have ih := opsK_lex hP hW hC hY (ro := ro) (n := n) (n0 := n0) hQ rest (fun p hp => hl p (by simp [hp]))
    have hgd : ∀ j want d c, o.guard = some (j, want) → (ops[j]?).bind (·.dst) = some d → s.env[d]? = some c → ∃ v, a.tmps[d]? = some v ∧ RelV R σ c v := fun j want d c _ _ hc => hA.env.get hc
    simp only [List.map_cons, wpOpsIn, ho]
    rcases opsK_cons h with ⟨hg, _, p, hp, hr⟩ | ⟨hg, hr⟩
    · rw [hg.wanted hgd]
      simp only [if_true]
      exact op_wp hP hW hC hY hA.stp.inv hA.env hp (fun cv w' R' σ' st hv hs => ih _ _ _ _ _ _ hr (hA.op o.dst st hv hs))
    · rw [hg.wanted hgd]
      simp only [Bool.false_eq_true, if_false]
      exact ⟨fun _ _ => trivial, ih _ _ _ _ _ _ hr (hA.op o.dst (Stp.refl hA.stp.inv) (.lit undef) (Nat.le_refl _))⟩

theorem zipIdx_ok (ops : Array Oper) : (∀ p ∈ ops.toList.zipIdx, ops[p.2]? = some p.1) ∧ ops.toList.zipIdx.map (·.2) = List.range ops.size := by
  constructor
  · rintro ⟨o, i⟩ hp
    have := List.mem_zipIdx_iff_getElem?.1 hp
    simpa using this
  · simp [List.range_eq_range']

end region
end Go.Ab
