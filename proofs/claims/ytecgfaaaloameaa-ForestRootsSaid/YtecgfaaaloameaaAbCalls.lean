/- A call does what the abstract evaluator says, if what it calls does. -/
import Derived.Test.YtecgfaaaloameaaAbHome
import Derived.CallsIn
import Derived.RangeFuncRecord
namespace Go.Ab
open Go.RowKit
section calls
variable {P : Program} {wl B0 : Nat} {w0 : World} {R R' : Ro} {σ σ' τ : List Sg} {H : Hp} {w w' : World}

/-- How a call ends. -/
def Ends (wl B0 : Nat) (w0 : World) (R : Ro) (σ : List Sg) (w : World) (v : V) (H' : Hp) : Ending → World → Prop
  | .returned cv, w' => ∃ R' σ', Stp (TB B0) wl B0 w0 R σ w R' σ' H' w' ∧ RelV R' σ' v cv ∧ w.heap.size ≤ w'.heap.size
  | _, _ => False

/-- .. and nothing is touched that was there. -/
def EndsP (wl B0 : Nat) (w0 : World) (R : Ro) (σ : List Sg) (w : World) (v : V) (H' : Hp) : Ending → World → Prop
  | .returned cv, w' => ∃ R' σ', Stp (TB B0) wl B0 w0 R σ w R' σ' H' w' ∧ RelV R' σ' v cv ∧ Below w.heap.size w w'
  | _, _ => False

theorem EndsP.ends {v : V} {H' : Hp} {e : Ending} (h : EndsP wl B0 w0 R σ w v H' e w') : Ends wl B0 w0 R σ w v H' e w' := by
  cases e with
  | returned cv => obtain ⟨R', σ', a, b, c⟩ := h; exact ⟨R', σ', a, b, c.size⟩
  | panicked => exact h
  | outgrown => exact h

def Enters (P : Program) (g : FuncId) : Prop := ∃ fn, P.funcs[g]? = some fn ∧ (fn.name == "runtime.NumGoroutine") = false ∧ fn.body.isNone = false

def CallOk (P : Program) (call : Nat → FuncId → List V → Hp → Option (V × Hp)) : Prop :=
  ∀ (wl : Nat) (g : FuncId) (args : List V) (H : Hp) (v : V) (H' : Hp), call wl g args H = some (v, H') → Enters P g ∧
    ∀ (B0 : Nat) (w0 : World) (R : Ro) (σ : List Sg) (w : World) (cargs : Array Value), Inv wl B0 w0 R σ H w → RelA R σ args cargs → Calls P g cargs w (Ends wl B0 w0 R σ w v H')

def YldOk (P : Program) (yld : Nat → Nat → List V → Hp → Option (V × Hp)) : Prop :=
  ∀ (wl l : Nat) (args : List V) (H : Hp) (v : V) (H' : Hp), yld wl l args H = some (v, H') →
    ∀ (B0 : Nat) (w0 : World) (R : Ro) (σ : List Sg) (w : World) (cargs : Array Value), Inv wl B0 w0 R σ H w → RelA R σ args cargs →
      ∀ (b : Nat) (s : Sg), σ[l]? = some s → s.hole = false → (s.gen = 0 → s.blk = some b) → ∃ r : Loop, w.heap[b]? = some (.loop r) ∧ cargs.size = r.params.size ∧
        ∀ n, RoundIn Fence.wide n P b r.fn ((r.params.zip cargs).foldl (fun tmps (t, a) => tmps.setIfInBounds t a) r.tmps) r.assign r.body w (Ends wl B0 w0 R σ w v H')

theorem Stp.cut {T : Nat → Prop} {H' : Hp} {n : Nat} (h : Stp T wl B0 w0 R σ w R' σ' H' w') (hn : σ.length ≤ n) : Stp T wl B0 w0 R σ w R' (σ'.take n) (cutH n H') w' where
  inv := h.inv.cut n
  ext id s hs := by
    obtain ⟨s', a, b⟩ := h.ext id s hs
    have := (List.getElem?_eq_some_iff.1 hs).1
    exact ⟨s', by rw [take_getElem? _ _ _ (by omega)]; exact a, b⟩
  le := h.le
  new := h.new
  fr := h.fr
  df := h.df
  hl id s hs hh := by
    have := (List.getElem?_eq_some_iff.1 hs).1
    rw [take_getElem? _ _ _ (by omega)]
    exact h.hl id s hs hh

theorem RelV.scal (R' : Ro) (σ' : List Sg) {v : V} {cv : Value} (h : RelV R σ v cv) : v.scal = true → RelV R' σ' v cv := by
  have get : ∀ {l : List V}, scalL l = true → ∀ {i : Nat} {x : V}, l[i]? = some x → x.scal = true := by
    intro l hl i x hx
    induction l generalizing i with
    | nil => simp at hx
    | cons a l ih =>
      simp only [scalL, Bool.and_eq_true] at hl
      cases i with
      | zero => simp at hx; subst hx; exact hl.1
      | succ i => exact ih hl.2 (by simpa using hx)
  induction h with
  | lit v => exact fun _ => .lit v
  | agg cs vs hl ho h ih => exact fun hp => .agg cs vs hl ho (fun i c hc => ih i c hc (get (by simpa [V.scal] using hp) hc))
  | tup cs vs hl h ih => exact fun hp => .tup cs vs hl (fun i c hc => ih i c hc (get (by simpa [V.scal] using hp) hc))
  | _ => simp [V.scal]

/-- What a call on an empty heap leaves to the heap that it was called at. -/
theorem pure_back (hI : Inv wl B0 w0 R σ H w) {R1 : Ro} {σ1 : List Sg} {H1 : Hp} (s : Stp (TB w.heap.size) 0 w.heap.size w R [] w R1 σ1 H1 w')
    {R2 : Ro} (hle : RoLe R1 R2) (hnew : ∀ b o, R2 b o ≠ none → R1 b o ≠ none ∨ w.heap.size ≤ b) (hro : ∀ (b o : Nat) (v : Value), R2 b o = some v → w'.cell? ⟨b, o, none⟩ = some v) :
    Inv wl B0 w0 R2 σ H w' ∧ RoLe R R2 ∧ (∀ b o, R2 b o ≠ none → R b o ≠ none ∨ w.heap.size ≤ b) := by
  have hnew' : ∀ b o, R2 b o ≠ none → R b o ≠ none ∨ w.heap.size ≤ b := by
    intro b o hb
    rcases hnew b o hb with h | h
    · rcases s.new b o h with h | h | h
      · exact .inl h
      · exact .inr h
      · exact .inr h
    · exact .inr h
  refine ⟨(hI.world s.inv.below).roMono (s.le.trans hle) (fun b o hb => ?_) hro, s.le.trans hle, hnew'⟩
  rcases hnew' b o hb with h | h
  · exact .inl h
  · refine .inr fun id x t h1 d h2 e => ?_
    have := hI.lt id x t b h1 d h2 e
    omega

theorem callPure_run {cx : Cx} (hP : cx.P = P) (hC : CallOk P cx.call) {g : FuncId} {args : List V} {v : V} {H' : Hp} {cargs : Array Value} (h : callPure cx g args H = some (v, H')) (hp : pureL args = true)
    (hI : Inv wl B0 w0 R σ H w) (hA : RelA R σ args cargs) : Enters P g ∧ Calls P g cargs w (EndsP wl B0 w0 R σ w v H') := by
  subst hP
  unfold callPure at h
  simp only [Option.bind_eq_some_iff] at h
  obtain ⟨p, hc, q, hq, h⟩ := h
  cases h
  obtain ⟨pv, pH⟩ := p
  obtain ⟨hE, hcall⟩ := hC 0 g args [] pv pH hc
  refine ⟨hE, (hcall _ _ _ _ _ _ hI.start (hA.free [] hp)).mono fun e w' he => ?_⟩
  cases e with
  | panicked => exact he
  | outgrown => exact he
  | returned cv =>
    obtain ⟨R1, σ1, s, r, hsz⟩ := he
    obtain ⟨R2, τ, hK, r2, hle, hnew⟩ := retV_run s.inv hq r
    obtain ⟨hI2, hle2, hnew2⟩ := pure_back hI s hle hnew hK.ro
    have hj := hI2.join hK hI.base hI.lt
    have hb := s.inv.below
    refine ⟨R2, σ ++ τ, ⟨hj, Ext.append σ τ, hle2, fun b o ho => (hnew2 b o ho).imp id .inr, fun b hlt _ => hb.block b hlt, fun b ds hd => hb.block b (Array.getElem?_eq_some_iff.1 hd).1,
      fun id t ht _ => by rw [List.getElem?_append_left (List.getElem?_eq_some_iff.1 ht).1]; exact ht⟩, ?_, hb⟩
    have := r2.shift σ
    rwa [hI.len] at this

theorem callGen_run {cx : Cx} (hP : cx.P = P) (hW : cx.wl = wl) (hC : CallOk P cx.call) {g : FuncId} {args : List V} {v : V} {H' : Hp} {cargs : Array Value} (h : callGen cx g args H = some (v, H'))
    (hI : Inv wl B0 w0 R σ H w) (hA : RelA R σ args cargs) : Enters P g ∧ Calls P g cargs w (Ends wl B0 w0 R σ w v H') := by
  subst hW
  unfold callGen at h
  simp only [Option.bind_eq_some_iff] at h
  obtain ⟨a, ha, h⟩ := h
  have step : ∃ R1, Stp (TB B0) cx.wl B0 w0 R σ w R1 σ a.2 w ∧ RelA R1 σ a.1 cargs := by
    split at ha
    · cases ha; exact ⟨R, Stp.refl hI, hA⟩
    · exact fzAs_run hI ha hA
  obtain ⟨R1, s1, r1⟩ := step
  split at h
  · rename_i hp
    simp only [Option.bind_eq_some_iff] at h
    obtain ⟨q, hq, h⟩ := h
    cases h
    obtain ⟨hE, hcall⟩ := callPure_run hP hC (v := q.1) (H' := q.2) hq hp s1.inv r1
    refine ⟨hE, hcall.mono fun e w' he => ?_⟩
    cases e with
    | panicked => exact he
    | outgrown => exact he
    | returned cv =>
      obtain ⟨R2, σ2, s2, r2, hb⟩ := he
      cases hs : q.1.scal with
      | false => exact ⟨R2, σ2, s1.trans s2 (Nat.le_refl _), r2, hb.size⟩
      | true => exact ⟨R, σ, hI.stp hb, r2.scal R σ hs, hb.size⟩
  · simp only [Option.bind_eq_some_iff] at h
    obtain ⟨p, hc, q, hq, h⟩ := h
    obtain ⟨pv, pH⟩ := p
    obtain ⟨hE, hcall⟩ := hC _ g a.1 a.2 pv pH hc
    subst hP
    refine ⟨hE, (hcall _ _ _ _ _ _ s1.inv r1).mono fun e w' he => ?_⟩
    cases e with
    | panicked => exact he
    | outgrown => exact he
    | returned cv =>
      obtain ⟨R2, σ2, s2, r2, hsz⟩ := he
      have step : ∃ R3, Stp (TB B0) cx.wl B0 w0 R2 σ2 w' R3 σ2 q.2 w' ∧ RelV R3 σ2 q.1 cv := by
        split at hq
        · cases hq; exact ⟨R2, Stp.refl s2.inv, r2⟩
        · exact fzR_run s2.inv hq r2
      obtain ⟨R3, s3, r3⟩ := step
      have hst := (s1.trans s2 (Nat.le_refl _)).trans s3 hsz
      split at h
      · rename_i hp
        cases h
        have hl : σ.length ≤ a.2.length := by rw [← s1.inv.len]; exact Nat.le_refl _
        exact ⟨R3, _, hst.cut hl, r3.free _ hp, hsz⟩
      · cases h
        exact ⟨R3, σ2, hst, r3, hsz⟩

theorem callCalm_run {cx : Cx} (hP : cx.P = P) (hW : cx.wl = wl) (hC : CallOk P cx.call) {ord : Bool} {g : FuncId} {args : List V} {v : V} {H' : Hp} {cargs : Array Value} (h : callCalm cx ord g args H = some (v, H'))
    (hI : Inv wl B0 w0 R σ H w) (hA : RelA R σ args cargs) : Enters P g ∧ Calls P g cargs w (EndsP wl B0 w0 R σ w v H') := by
  subst hW
  unfold callCalm at h
  split at h
  · split at h
    · rename_i hp
      exact callPure_run hP hC h hp hI hA
    · split at h
      · cases h
      · simp only [Option.bind_eq_some_iff] at h
        obtain ⟨a, ha, h⟩ := h
        obtain ⟨R1, s1, r1⟩ := fzAs_run hI ha hA
        split at h
        · rename_i hp
          simp only [Option.bind_eq_some_iff] at h
          obtain ⟨q, hq, h⟩ := h
          cases h
          obtain ⟨hE, hcall⟩ := callPure_run hP hC (v := q.1) (H' := q.2) hq hp s1.inv r1
          refine ⟨hE, hcall.mono fun e w' he => ?_⟩
          cases e with
          | panicked => exact he
          | outgrown => exact he
          | returned cv =>
            obtain ⟨R2, σ2, s2, r2, hb⟩ := he
            cases hs : q.1.scal with
            | false => exact ⟨R2, σ2, s1.trans s2 (Nat.le_refl _), r2, hb⟩
            | true => exact ⟨R, σ, hI.stp hb, r2.scal R σ hs, hb⟩
        · simp only [Option.bind_eq_some_iff] at h
          obtain ⟨p, hc, h⟩ := h
          split at h
          · rename_i hs
            cases h
            obtain ⟨pv, pH⟩ := p
            obtain ⟨hE, hcall⟩ := hC _ g a.1 a.2 pv pH hc
            subst hP
            refine ⟨hE, (hcall _ _ _ _ _ _ s1.inv.look r1).mono fun e w' he => ?_⟩
            cases e with
            | panicked => exact he
            | outgrown => exact he
            | returned cv =>
              obtain ⟨R2, σ2, s2, r2, _⟩ := he
              exact ⟨R, σ, hI.stp s2.inv.below, r2.scal R σ hs, s2.inv.below⟩
          · cases h
  · split at h
    · rename_i hp
      simp only [Option.bind_eq_some_iff] at h
      obtain ⟨p, hc, q, hq, h⟩ := h
      split at h
      · rename_i hpq
        cases h
        obtain ⟨pv, pH⟩ := p
        obtain ⟨hE, hcall⟩ := hC 0 g args [] pv pH hc
        subst hP
        refine ⟨hE, (hcall _ _ _ _ _ _ hI.start (hA.free [] hp)).mono fun e w' he => ?_⟩
        cases e with
        | panicked => exact he
        | outgrown => exact he
        | returned cv =>
          obtain ⟨R1, σ1, s, r, hsz⟩ := he
          obtain ⟨R2, s2, r2⟩ := fzR_run s.inv hq r
          have hnew : ∀ b o, R2 b o ≠ none → R1 b o ≠ none ∨ w.heap.size ≤ b := fun b o hb => by
            rcases s2.new b o hb with h | h | h
            · exact .inl h
            · exact .inr h
            · exact .inr (by omega)
          obtain ⟨hI2, hle2, hnew2⟩ := pure_back hI s s2.le hnew s2.inv.ro
          have hb := s.inv.below
          exact ⟨R2, σ, ⟨hI2, Ext.refl σ, hle2, fun b o ho => (hnew2 b o ho).imp id .inr, fun b hlt _ => hb.block b hlt, fun b ds hd => hb.block b (Array.getElem?_eq_some_iff.1 hd).1, fun _ _ h _ => h⟩, r2.free σ hpq, hb⟩
      · cases h
    · cases h

theorem run_enter {g : FuncId} {args : Array Value} (h : Enters P g) : (callFunc g args).run P w = .ok (.enter g args) w := by
  obtain ⟨fn, h1, h2, h3⟩ := h
  have h2 : fn.name ≠ "runtime.NumGoroutine" := by simpa using h2
  cases hb : fn.body with
  | none => rw [hb] at h3; cases h3
  | some c => simp [callFunc, Sem.run_bind, h1, h2, hb]

theorem noShorter_some {p q : V × Hp} (h : noShorter H p = some q) : p = q := by
  unfold noShorter at h
  split at h
  · exact Option.some.inj h
  · cases h

/-- Fences that let in all. -/
def Fw (r : Option Nat) : Fence := { Fence.wide with round := r }

theorem callsIn_fw {r : Option Nat} {n : Nat} {f : FuncId} {args : Array Value} {X : Ending → World → Prop} (h : Calls P f args w X) : CallsIn (Fw r) n P f args w X :=
  (callsIn_wide (n := n)).2 h

theorem getD_append' (cas cbs : Array Value) (i : Nat) : (cas ++ cbs).getD i undef = if i < cas.size then cas.getD i undef else cbs.getD (i - cas.size) undef := by
  simp only [Array.getD_eq_getD_getElem?, Array.getElem?_append]
  split <;> rfl

theorem append_rel {as bs : List V} {cas cbs : Array Value} (h1 : RelA R σ as cas) (h2 : RelA R σ bs cbs) : RelA R σ (as ++ bs) (cas ++ cbs) := by
  refine ⟨by simp [h1.1, h2.1], fun i c hc => ?_⟩
  rw [getD_append']
  by_cases hi : i < as.length
  · rw [List.getElem?_append_left hi] at hc
    rw [if_pos (by rw [h1.1]; exact hi)]
    exact h1.2 i c hc
  · rw [List.getElem?_append_right (by omega)] at hc
    rw [if_neg (by rw [h1.1]; exact hi), h1.1]
    exact h2.2 _ c hc

theorem fn_inv {f : Fn} {a b : List V} {cv : Value} (h : RelV R σ (.fn f a b) cv) : ∃ va vb, cv = .func f va vb ∧ RelA R σ a va ∧ RelA R σ b vb := by
  cases h with
  | fn f a b va vb ha hb h1 h2 => exact ⟨va, vb, rfl, ⟨ha, h1⟩, ⟨hb, h2⟩⟩

theorem yld_inv {l : Nat} {cv : Value} (h : RelV R σ (.yld l) cv) : ∃ b s, cv = .func (.yield b) #[] #[] ∧ σ[l]? = some s ∧ s.hole = false ∧ (s.gen = 0 → s.blk = some b) := by
  cases h with
  | yld _ b s h1 h2 h3 => exact ⟨b, s, rfl, h1, h2, h3⟩

/-- One operation, call or no call. -/
theorem op_wp {cx : Cx} (hP : cx.P = P) (hW : cx.wl = wl) (hC : CallOk P cx.call) (hY : YldOk P cx.yld) {ro : Option Nat} {n : Nat} {calm ord : Bool} {o : Oper} {env : List V} {a : Act} {v : V} {H' : Hp}
    {Q : Exit → Act → World → Prop} {K : Act → World → Prop}
    (hI : Inv wl B0 w0 R σ H w) (hE : RelA R σ env a.tmps) (h : opV cx calm ord o.op env H = some (v, H'))
    (hK : ∀ (cv : Value) (w' : World) (R' : Ro) (σ' : List Sg), Stp (TB B0) wl B0 w0 R σ w R' σ' H' w' → RelV R' σ' v cv → w.heap.size ≤ w'.heap.size → K (a.put o.dst cv) w') :
    o.wpIn (Fw ro) n P a w K Q := by
  refine ⟨fun _ _ => trivial, ?_⟩
  have hsem : o.semAt (Fw ro).round a.eval = execOp a.eval o := by
    refine Oper.semAt_eq _ _ _ (fun c hc => ?_)
    rw [hc] at h
    cases h
  rw [hsem]
  by_cases hc : isCallV o.op = true
  · -- a call
    unfold isCallV at hc
    split at hc
    · rename_i c ho
      split at hc
      · rename_i f hf
        rw [ho] at h
        simp only [opV, hf, Option.bind_eq_some_iff] at h
        obtain ⟨fv, hfv, as, has, h⟩ := h
        have hF := evO_rel hE hfv
        have hA := evOs_rel hE has
        rw [toL] at hA
        unfold callV at h
        split at h
        · rename_i g first caps
          obtain ⟨va, vb, he, hfi, hca⟩ := fn_inv hF
          have hall := append_rel (append_rel hfi hA) hca
          have key : Enters P g ∧ Calls P g (va ++ c.args.map a.eval ++ vb) w (Ends wl B0 w0 R σ w v H') := by
            split at h
            · obtain ⟨h1, h2⟩ := callCalm_run hP hW hC h hI hall
              exact ⟨h1, h2.mono fun _ _ => EndsP.ends⟩
            · obtain ⟨q, hq, hn⟩ := Option.bind_eq_some_iff.1 h
              have : q = (v, H') := noShorter_some hn
              subst this
              exact callGen_run hP hW hC hq hI hall
          have hrun : (execOp a.eval o).run P w = .ok (.enter g (va ++ c.args.map a.eval ++ vb)) w := by
            simp only [execOp, ho, resolve, hf, he, Deferred.ofValue, Sem.run_bind, Sem.run_pure, Result.andThen_ok, invoke, run_enter key.1]
          rw [hrun, Oper.uponIn_enter]
          refine ⟨fun h => (by cases h), (callsIn_fw key.2).mono fun e w' he => ?_⟩
          cases e with
          | panicked => exact he.elim
          | outgrown => exact he.elim
          | returned cv =>
            obtain ⟨R', σ', s, r, hsz⟩ := he
            exact hK cv w' R' σ' s r hsz
        · rename_i l
          split at h
          · cases h
          · simp only [Option.bind_eq_some_iff] at h
            obtain ⟨fa, hfa, q, h, hn⟩ := h
            have : q = (v, H') := noShorter_some hn
            subst this
            obtain ⟨b, s, he, hs, hh, hg⟩ := yld_inv hF
            subst hW
            obtain ⟨R1, s1, r1⟩ := fzAs_run hI hfa hA
            obtain ⟨r, hr, hsz, hround⟩ := hY _ l fa.1 fa.2 v H' h B0 w0 R1 σ w _ s1.inv r1 b s hs hh hg
            have hy := run_yield (P := P) (l := b) (args := c.args.map a.eval) hr hsz
            have hrun : (execOp a.eval o).run P w = .ok (.round b r.fn ((r.params.zip (c.args.map a.eval)).foldl (fun tmps (t, a) => tmps.setIfInBounds t a) r.tmps) r.assign r.body) w := by
              simp only [execOp, ho, resolve, hf, he, Deferred.ofValue, Sem.run_bind, Sem.run_pure, Result.andThen_ok, invoke, Array.empty_append, hy]
            rw [hrun, Oper.uponIn_round]
            refine ⟨fun h => (by cases h), RoundIn.mono (show RoundIn (Fw ro) (n - 1) P _ _ _ _ _ _ _ from hround (n - 1)) fun e w' he => ?_⟩
            cases e with
            | panicked => exact he.elim
            | outgrown => exact he.elim
            | returned cv =>
              obtain ⟨R', σ', s2, r2, hsz2⟩ := he
              exact hK cv w' R' σ' (s1.trans s2 (Nat.le_refl _)) r2 hsz2
        · cases h
      · cases hc
    · cases hc
  · have hc : isCallV o.op = false := by simpa using hc
    obtain ⟨nx, cv, w', R', σ', hrun, hnx, hst, hr, hsz⟩ := opV_sound hP hW hI hE hc h
    rw [hrun]
    rcases hnx with rfl | ⟨rfl, rfl⟩
    · rw [Oper.uponIn_value]; exact hK _ _ _ _ hst hr hsz
    · rw [Oper.uponIn_skip]; exact hK _ _ _ _ hst hr hsz

end calls
end Go.Ab
