/- Regions that draw their order: step by step. -/
import Derived.Test.YtecgfaaaloameaaAbDraw2
namespace Go.Ab
open Go.RowKit

/-- A region's run in its own order. -/
structure Tr (cx : Cx) (ops : Array Oper) (S : Nat → St) (ran : Nat → Bool) (val : Nat → V) (fin : List Nat × List Nat) : Prop where
  ok : regOk ops = true
  apart : (rgOf ops).any = true → apartA fin = true
  each : ∀ (q : Nat) (o : Oper) (i : Nat), (orderOf ops)[q]? = some (o, i) → GuardV ops o (S q).env (ran q) ∧ (S (q + 1)).env = putE (S q).env o.dst (val q) ∧
        (ran q = true → strictOk (S 0).H.length ((rgOf ops).strict i) o.op (S q).env = true ∧ opV cx ((rgOf ops).calm i) ((rgOf ops).ord i) o.op (S q).env (S q).H = some (val q, (S (q + 1)).H) ∧
          ((rgOf ops).any = true → ((rgOf ops).loose i = true → ∀ k, idAt (S q).env (readOf o.op) = some k → k ∈ fin.1) ∧ ((rgOf ops).loose i = false → opKd o.op = .loud → ∀ k, idAt (S q).env (writeOf o.op) = some k → k ∈ fin.2))) ∧
        (ran q = false → val q = .lit undef ∧ (S (q + 1)).H = (S q).H)

section tr
variable {cx : Cx} {ops : Array Oper} {S : Nat → St} {ran : Nat → Bool} {val : Nat → V} {fin : List Nat × List Nat}

theorem Tr.at_lt {q : Nat} (h : q < (orderOf ops).length) : ∃ o i, (orderOf ops)[q]? = some (o, i) := ⟨(orderOf ops)[q].1, (orderOf ops)[q].2, by simp [h]⟩

theorem Tr.get {q : Nat} {o : Oper} {i : Nat} (h : (orderOf ops)[q]? = some (o, i)) : ops[i]? = some o := order_mem.1 (List.mem_of_getElem? h)

theorem Tr.len1 (tr : Tr cx ops S ran val fin) {q : Nat} (h : q < (orderOf ops).length) : (S q).H.length ≤ (S (q + 1)).H.length := by
  obtain ⟨o, i, hq⟩ := Tr.at_lt h
  obtain ⟨_, _, h1, h2⟩ := tr.each q o i hq
  cases hr : ran q with
  | true => exact (opV_keeps (h1 hr).2.1).1
  | false => rw [(h2 hr).2]; exact Nat.le_refl _

theorem Tr.len (tr : Tr cx ops S ran val fin) {p : Nat} : ∀ {q : Nat}, p ≤ q → q ≤ (orderOf ops).length → (S p).H.length ≤ (S q).H.length
  | 0, h, _ => by have : p = 0 := by omega
                  subst this; exact Nat.le_refl _
  | q + 1, h, hq => by
    by_cases hp : p = q + 1
    · subst hp; exact Nat.le_refl _
    · exact Nat.le_trans (tr.len (by omega) (by omega)) (tr.len1 (by omega))

/-- What a step of the run leaves to see. -/
theorem Tr.seen (tr : Tr cx ops S ran val fin) {q : Nat} {o : Oper} {i : Nat} (hq : (orderOf ops)[q]? = some (o, i)) (hc : isCallV o.op = true → (rgOf ops).calm i = true) {id : Nat} (hid : id < (S q).H.length)
    (hw : ran q = true → opKd o.op = .loud → idAt (S q).env (writeOf o.op) ≠ some id) : seenAt (S (q + 1)).H id = seenAt (S q).H id := by
  obtain ⟨_, _, h1, h2⟩ := tr.each q o i hq
  cases hr : ran q with
  | true =>
    have hk := (opV_keeps (h1 hr).2.1).2 hc
    refine hk.same id hid ?_
    by_cases hl : opKd o.op = .loud
    · exact hw hr hl
    · rw [kd_write hl]; simp
  | false => rw [(h2 hr).2]

/-- An operation that changes nothing, and what it yields elsewhere. -/
theorem Tr.quiet (tr : Tr cx ops S ran val fin) {q : Nat} {o : Oper} {i : Nat} (hq : (orderOf ops)[q]? = some (o, i)) (he : isEff ops (Region.before ops) i = false) (hh : isHoist ops (Region.before ops) i = false) :
    (S (q + 1)).H = (S q).H ∧ (ran q = true → ∀ H2, (opKd o.op = .reads → ∀ id, idAt (S q).env (readOf o.op) = some id → seenAt H2 id = seenAt (S q).H id) →
      opV cx ((rgOf ops).calm i) ((rgOf ops).ord i) o.op (S q).env H2 = some (val q, H2)) := by
  obtain ⟨_, _, h1, h2⟩ := tr.each q o i hq
  have ho := Tr.get hq
  have hkd := kdAt_eq ho
  cases hr : ran q with
  | false => exact ⟨(h2 hr).2, fun h => by cases h⟩
  | true =>
    obtain ⟨_, hop, _⟩ := h1 hr
    unfold isEff at he
    rw [hkd] at he
    cases hk : opKd o.op with
    | plain =>
      obtain ⟨e, h3⟩ := opV_plain hk hop
      exact ⟨e, fun _ H2 _ => h3 H2⟩
    | loud => rw [hk] at he; cases he
    | reads =>
      rw [hk] at he
      have he' : isCalm ops (Region.before ops) i = true := by simpa using he
      have hcalm : (rgOf ops).calm i = true := he'
      rw [hcalm] at hop ⊢
      obtain ⟨e, h3⟩ := opV_reads hk hop
      exact ⟨e, fun _ H2 hs => h3 H2 (hs rfl)⟩
    | makes =>
      rw [hk, hh] at he
      simp only [Bool.not_false, Bool.true_and, Bool.not_eq_false', Bool.and_eq_true, Bool.not_eq_true'] at he
      obtain ⟨hcall, hordM⟩ := he
      have hcall' : isCall o.op = true := by unfold callAt at hcall; rw [ho] at hcall; exact hcall
      have hord : (rgOf ops).ord i = false := hordM
      have hcalm : (rgOf ops).calm i = true := by
        unfold ordM at hordM
        have hex : ∃ j, j < ops.size ∧ ((!isMk (kdAt ops j) || isHoist ops (Region.before ops) j || ordered (Region.before ops) i j) = false) := by
          rcases Classical.em (∃ j, j < ops.size ∧ ((!isMk (kdAt ops j) || isHoist ops (Region.before ops) j || ordered (Region.before ops) i j) = false)) with h | h
          · exact h
          · exfalso
            have : ((List.range ops.size).all fun j => !isMk (kdAt ops j) || isHoist ops (Region.before ops) j || ordered (Region.before ops) i j) = true := by
              rw [List.all_eq_true]
              intro j hj
              rw [List.mem_range] at hj
              cases hv : (!isMk (kdAt ops j) || isHoist ops (Region.before ops) j || ordered (Region.before ops) i j) with
              | true => rfl
              | false => exact absurd ⟨j, hj, hv⟩ h
            rw [this] at hordM
            cases hordM
        obtain ⟨j, hj, hv⟩ := hex
        simp only [Bool.or_eq_false_iff, Bool.not_eq_false'] at hv
        exact calm_of (j := j) (o := ops[j]) (by simp [hj]) (fun e => by rw [e] at hv; simp [isMk] at hv) hv.2
      rw [hcalm, hord] at hop ⊢
      obtain ⟨e, h3⟩ := opV_quiet hcall' hop
      exact ⟨e, fun _ H2 _ => h3 H2⟩

end tr

section draw
variable {cx : Cx} {ops : Array Oper} {S : Nat → St} {ran : Nat → Bool} {val : Nat → V} {fin : List Nat × List Nat}
variable {B0 : Nat} {w0 : World} {R0 R R' : Ro} {σ0 σ σ' : List Sg} {ws : World} {n1 : Nat} {w w' : World}

/-- Which have run, by where they stand. -/
def Dl (ops : Array Oper) (listed : Array Bool) (q : Nat) : Bool := match (orderOf ops)[q]? with | some (_, i) => listed.getD i false | none => false

/-- Where a region that draws stands. -/
structure DInv (cx : Cx) (ops : Array Oper) (S : Nat → St) (val : Nat → V) (B0 : Nat) (w0 : World) (R0 : Ro) (σ0 : List Sg) (ws : World) (n1 : Nat) (listed : Array Bool) (a : Act) (w : World) (k : Nat) (R : Ro) (σ : List Sg) : Prop where
  size : listed.size = ops.size
  closed : ∀ i, listed.getD i false = true → ∀ j, ((Region.before ops).getD i 0).testBit j = true → listed.getD j false = true
  front : ∀ (q : Nat) (o : Oper) (i : Nat), (orderOf ops)[q]? = some (o, i) → isEff ops (Region.before ops) i = true → (listed.getD i false = true ↔ q < k)
  lo : ∀ (q : Nat) (o : Oper) (i : Nat), (orderOf ops)[q]? = some (o, i) → isHoist ops (Region.before ops) i = true → q < k
  hi : k ≤ (orderOf ops).length
  env : RelA R σ (Xenv (S 0).env (orderOf ops) val (Dl ops listed) (orderOf ops).length) a.tmps
  stp : Stp (TB B0) cx.wl B0 w0 R0 σ0 ws R σ (S k).H w
  sz : ws.heap.size ≤ w.heap.size
  marks : Marks n1 a.defers w
  n0 : σ0.length ≤ (S 0).H.length
  holes : ∀ (q : Nat) (o : Oper) (i : Nat), (orderOf ops)[q]? = some (o, i) → isHoist ops (Region.before ops) i = true → listed.getD i false = false →
    ∃ (j : Nat) (z : Value) (t : TypeId) (cs : List V), o.op = .alloc t ∧ zeroOf cx.P t = some z ∧ val q = .ptr j 0 0 0 ∧ (S (q + 1)).H.length = j + 1 ∧ (S 0).H.length ≤ j ∧
      (S (q + 1)).H[j]? = some (.box cs) ∧ onesL cs = true ∧ RelA R σ cs z.cells ∧ σ[j]? = some holeSg

theorem X_len (env0 : List V) (L : List (Oper × Nat)) (val : Nat → V) (D : Nat → Bool) : ∀ m, (Xenv env0 L val D m).length = env0.length
  | 0 => rfl
  | m + 1 => by
    have ih := X_len env0 L val D m
    simp only [Xenv]
    split
    · split
      · rename_i o _ _ _
        cases ho : o.dst <;> simp [putE, ih]
      · exact ih
    · exact ih

theorem putE_len (env : List V) (d : Option Tmp) (v : V) : (putE env d v).length = env.length := by cases d <;> simp [putE]

theorem Dl_set {listed : Array Bool} {p i : Nat} {o : Oper} (hp : (orderOf ops)[p]? = some (o, i)) (hs : listed.size = ops.size) :
    Dl ops (listed.setIfInBounds i true) p = true ∧ ∀ q, q ≠ p → Dl ops (listed.setIfInBounds i true) q = Dl ops listed q := by
  have hi : i < listed.size := by rw [hs]; exact (Array.getElem?_eq_some_iff.1 (Tr.get hp)).1
  refine ⟨by unfold Dl; rw [hp]; simp [hi], fun q hq => ?_⟩
  unfold Dl
  cases hL : (orderOf ops)[q]? with
  | none => rfl
  | some x =>
    obtain ⟨o', i'⟩ := x
    have hne : i ≠ i' := by
      rcases Nat.lt_or_ge p q with h | h
      · exact (order_rel h hp hL).1
      · exact ((order_rel (by omega) hL hp).1).symm
    exact getD_set_ne false hne

/-- Behind a step. -/
theorem DInv.next (tr : Tr cx ops S ran val fin) {listed : Array Bool} {a : Act} {k : Nat} (h : DInv cx ops S val B0 w0 R0 σ0 ws n1 listed a w k R σ) {i p : Nat} {o : Oper} (hp : (orderOf ops)[p]? = some (o, i))
    (hi : listed.getD i false = false) (hready : ∀ j, ((Region.before ops).getD i 0).testBit j = true → listed.getD j false = true) {k' : Nat} {cv : Value}
    (hfront : ∀ (q : Nat) (o : Oper) (i' : Nat), (orderOf ops)[q]? = some (o, i') → isEff ops (Region.before ops) i' = true → ((listed.setIfInBounds i true).getD i' false = true ↔ q < k')) (hkk : k ≤ k') (hk' : k' ≤ (orderOf ops).length)
    (hstp : Stp (TB B0) cx.wl B0 w0 R0 σ0 ws R' σ' (S k').H w') (hR : RoLe R R') (hE : Ext σ σ') (hv : RelV R' σ' (val p) cv) (hsz : ws.heap.size ≤ w'.heap.size) (hm : Marks n1 a.defers w')
    (hho : ∀ (q : Nat) (o' : Oper) (i' j : Nat), q ≠ p → (orderOf ops)[q]? = some (o', i') → isHoist ops (Region.before ops) i' = true → listed.getD i' false = false → val q = .ptr j 0 0 0 → (S (q + 1)).H.length = j + 1 → σ[j]? = some holeSg → σ'[j]? = some holeSg) :
    DInv cx ops S val B0 w0 R0 σ0 ws n1 (listed.setIfInBounds i true) (a.put o.dst cv) w' k' R' σ' := by
  obtain ⟨hback, htmp, _, _⟩ := regOk_spec tr.ok
  obtain ⟨d1, d2⟩ := Dl_set hp h.size
  have ho := Tr.get hp
  have hidx : i < listed.size := by rw [h.size]; exact (Array.getElem?_eq_some_iff.1 ho).1
  have hD : Dl ops listed p = false := by unfold Dl; rw [hp]; exact hi
  refine ⟨by simpa using h.size, ?_, hfront, fun q o i' a b => Nat.lt_of_lt_of_le (h.lo q o i' a b) hkk, hk', ?_, hstp, hsz, by rw [put_defers]; exact hm, h.n0, ?_⟩
  · intro i' hi' j hj
    by_cases e : i = i'
    · subst e; exact getD_set_true (hready j hj)
    · rw [getD_set_ne false e] at hi'
      exact getD_set_true (h.closed i' hi' j hj)
  · have hput : ∀ t : Tmp, (Xenv (S 0).env (orderOf ops) val (Dl ops (listed.setIfInBounds i true)) (orderOf ops).length)[t]? = (putE (Xenv (S 0).env (orderOf ops) val (Dl ops listed) (orderOf ops).length) o.dst (val p))[t]? := by
      refine X_put hp hD d2 d1 (fun q hpq hDq o' i' hL t ht ht' => ?_) _ (List.getElem?_eq_some_iff.1 hp).1
      have hord := htmp i i' o o' t ho (Tr.get hL) (by unfold namesOf; simp [ht']) ht
      have hb := order_before hback hpq hp hL hord
      have hDq' : listed.getD i' false = true := by unfold Dl at hDq; rw [hL] at hDq; exact hDq
      have := h.closed i' hDq' i hb
      rw [hi] at this
      cases this
    have hrel := putE_rel (tmps := a.tmps) (h.env.mono hR hE) o.dst hv
    refine ⟨by rw [hrel.1, X_len, putE_len, X_len], fun t c hc => ?_⟩
    rw [hput] at hc
    exact hrel.2 t c hc
  · intro q o' i' hL hh hl
    have hne : i ≠ i' := by
      intro e
      subst e
      simp [hidx] at hl
    rw [getD_set_ne false hne] at hl
    obtain ⟨j, z, t, cs, e1, e2, e3, e4, e5, e6, e7, e8, e9⟩ := h.holes q o' i' hL hh hl
    have hqp : q ≠ p := by
      intro e
      subst e
      rw [hp] at hL
      cases hL
      exact hne rfl
    exact ⟨j, z, t, cs, e1, e2, e3, e4, e5, e6, e7, e8.mono hR hE, hho q o' i' j hqp hL hh hl e3 e4 e9⟩

end draw
end Go.Ab
