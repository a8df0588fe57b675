/- Functions, and rounds of loops over functions, do what the abstract evaluator says. -/
import Derived.Test.YtecgfaaaloameaaAbCode
namespace Go.Ab
open Go.RowKit
section func
variable {P : Program} {wl B0 : Nat} {w0 : World} {R0 R R' : Ro} {σ0 σ σ' : List Sg} {ws : World} {n1 : Nat} {H : Hp} {w w' : World}

theorem ptr_shape {a v : V} {t : TypeId} {ca : Value} (h : vLoad P t a H = some v) (ha : RelV R σ a ca) : ∃ p, ca = .pointer (some p) := by
  unfold vLoad at h
  split at h
  · cases ha; exact ⟨_, rfl⟩
  · obtain ⟨p, s, rfl, _⟩ := ptr_inv ha; exact ⟨p, rfl⟩
  · cases h

/-- One result. -/
def resOne (tmps : Array Value) : ResultVar → Sem Value
  | .tmp t => pure (tmps.getD t undef)
  | .cell a t => do loadVar t (← asAddr (tmps.getD a undef))

theorem resV_run (hI : Inv wl B0 w0 R σ H w) {env : List V} {tmps : Array Value} (hE : RelA R σ env tmps) {x : ResultVar} {v : V} (h : resV P x ⟨env, H⟩ = some v) : ∃ cv, (resOne tmps x).run P w = .ok cv w ∧ RelV R σ v cv := by
  cases x with
  | tmp t => exact ⟨_, rfl, hE.2 t v h⟩
  | cell a t =>
    simp only [resV] at h
    split at h
    · rename_i y hy
      have ha := hE.2 a y hy
      obtain ⟨cv, hrun, hr⟩ := vLoad_run hI h ha
      obtain ⟨p, hp⟩ := ptr_shape h ha
      refine ⟨cv, ?_, hr⟩
      rw [hp] at hrun
      simp only [Instr.loadAt, Instr.sureAddr, Sem.run_bind, Sem.run_pure, Result.andThen_ok] at hrun
      simp only [resOne, hp, asAddr, Sem.run_bind, Sem.run_pure, Result.andThen_ok, hrun]
    · cases h

theorem resVs_run (hI : Inv wl B0 w0 R σ H w) {env : List V} {tmps : Array Value} (hE : RelA R σ env tmps) : ∀ {rs : List ResultVar} {vs : List V}, resVs P rs ⟨env, H⟩ = some vs →
    ∃ cvs : List Value, (rs.mapM (resOne tmps)).run P w = .ok cvs w ∧ RelA R σ vs cvs.toArray
  | [], vs, h => by cases h; exact ⟨[], rfl, RelA.nil R σ⟩
  | x :: rs, vs, h => by
    simp only [resVs, Option.bind_eq_some_iff] at h
    obtain ⟨v, hv, l, hl, e⟩ := h
    cases e
    obtain ⟨cv, h1, h2⟩ := resV_run hI hE hv
    obtain ⟨cvs, h3, h4⟩ := resVs_run hI hE hl
    exact ⟨cv :: cvs, by simp only [List.mapM_cons, Sem.run_bind, h1, h3, Result.andThen_ok, Sem.run_pure], h2.cons h4⟩

theorem results_run (hI : Inv wl B0 w0 R σ H w) {env : List V} {tmps : Array Value} (hE : RelA R σ env tmps) {fn : Func} {v : V} (h : resultsV P fn.results.toList ⟨env, H⟩ = some v) :
    ∃ cv, (results fn tmps).run P w = .ok cv w ∧ RelV R σ v cv := by
  unfold resultsV at h
  simp only [Option.bind_eq_some_iff] at h
  obtain ⟨vs, hvs, h⟩ := h
  obtain ⟨cvs, hrun, hr⟩ := resVs_run hI hE hvs
  have hres : (results fn tmps).run P w = .ok (if h : cvs.toArray.size = 1 then cvs.toArray[0] else .tuple cvs.toArray) w := by
    have : results fn tmps = (do let vs ← fn.results.mapM (resOne tmps); pure (if h : vs.size = 1 then vs[0] else .tuple vs)) := rfl
    rw [this]
    simp only [Array.mapM_eq_mapM_toList, Sem.run_bind, Sem.run_map, hrun, Result.andThen_ok, Sem.run_pure]
  refine ⟨_, hres, ?_⟩
  split at h
  · cases h
    obtain ⟨cv, l, he, h1, h2⟩ := hr.uncons
    have := h2.nil_inv
    have hl : l = [] := by simpa using this
    subst hl
    have hc : cvs = [cv] := by simpa using he
    subst hc
    exact h1
  · rename_i hne
    cases h
    have hl : cvs.toArray.size ≠ 1 := by
      intro e
      have := hr.1
      rw [e] at this
      cases vs with
      | nil => simp at this
      | cons a l => cases l with
        | nil => exact hne a rfl
        | cons => simp at this
    rw [dif_neg hl]
    exact .tup _ _ hr.1 hr.2

/-- What is asked of a program: no function of a name of the machine's. -/
def Named (P : Program) : Prop := ∀ (f : FuncId) (fn : Func), P.funcs[f]? = some fn → (fn.name == "runtime.NumGoroutine") = false

theorem leaves_run {n : Nat} {fn : Func} {env : List V} {tmps : Array Value} {v : V} {X : Ending → World → Prop} (hres : resultsV P fn.results.toList ⟨env, H⟩ = some v) (hE : RelA R σ env tmps) (hn1 : ws.heap.size ≤ n1) (hB : B0 ≤ n1)
    (hX : ∀ cv w', Stp (TB B0) wl B0 w0 R0 σ0 ws R σ H w' → RelV R σ v cv → ws.heap.size ≤ w'.heap.size → X (.returned cv) w') :
    ∀ (ds : List Deferred) (w : World), Marks n1 ds w → Stp (TB B0) wl B0 w0 R0 σ0 ws R σ H w → ws.heap.size ≤ w.heap.size → LeavesInM (Fw none) n P fn tmps X ds .returning w
  | [], w, _, st, hs => by
    obtain ⟨cv, h1, h2⟩ := results_run st.inv hE hres
    exact ⟨cv, h1, hX cv w st h2 hs⟩
  | d :: ds, w, ⟨⟨r, h1, h2, h3, h4⟩, h5⟩, st, hs => by
    have hrl : r < w.heap.size := (Array.getElem?_eq_some_iff.1 h3).1
    have hother : ∀ k, k ≠ r → (w.putObj r (.deferred none)).heap[k]? = w.heap[k]? := fun k hk => World.putObj_heap_other hk
    have st' : Stp (TB B0) wl B0 w0 R0 σ0 ws R σ H (w.putObj r (.deferred none)) := by
      refine ⟨st.inv.elsewhere (by omega) hrl (fun id x s a b c hh => st.inv.notDfr a b c hh h3) (st.inv.ro_loop (fun arr e f => by rw [h3]; simp)), st.ext, st.le, st.new, fun k hk hT => ?_, fun k x hk => ?_, st.hl⟩
      · rw [hother k (by omega)]; exact st.fr k hk hT
      · have := (Array.getElem?_eq_some_iff.1 hk).1
        rw [hother k (by omega)]; exact st.df k x hk
    have hm : ∀ {ds : List Deferred}, Marks n1 ds w → (∀ d' ∈ ds, d'.target ≠ .collected r) → Marks n1 ds (w.putObj r (.deferred none)) := by
      intro ds
      induction ds with
      | nil => intros; trivial
      | cons d' ds ih =>
        rintro ⟨⟨q, g1, g2, g3, g4⟩, g5⟩ hno
        have hq : q ≠ r := fun e => hno d' (by simp) (by rw [g1, e])
        exact ⟨⟨q, g1, g2, by rw [hother q hq]; exact g3, g4⟩, ih g5 (fun d'' hd => hno d'' (by simp [hd]))⟩
    refine ⟨by simp, .inl ⟨r, _, h1, run_takeDeferred h3, ?_⟩⟩
    exact leaves_run hres hE hn1 hB hX ds _ (hm h5 h4) st' (by simpa using hs)

theorem replicate_rel (R : Ro) (σ : List Sg) (n : Nat) (v : Value) : RelA R σ (List.replicate n (.lit v)) (Array.replicate n v) := by
  refine ⟨by simp, fun i c hc => ?_⟩
  have hi := (List.getElem?_eq_some_iff.1 hc).1
  have := (List.getElem?_eq_some_iff.1 hc).2
  simp at this hi
  subst this
  simp [hi]
  exact .lit v

theorem bodyV_ok {cx : Cx} (hP : cx.P = P) (hr : cx.round = false) (hC : CallOk P cx.call) (hY : YldOk P cx.yld) (hD : DrawOk P) {f : FuncId} {fn : Func} (hf : P.funcs[f]? = some fn) {args : List V} {v : V} {H' : Hp}
    (h : bodyV cx fn args H = some (v, H')) {cargs : Array Value} (hI : Inv cx.wl B0 w0 R σ H w) (hA : RelA R σ args cargs) :
    fn.body.isNone = false ∧ Calls P f cargs w (Ends cx.wl B0 w0 R σ w v H') := by
  unfold bodyV at h
  split at h
  · cases h
  · rename_i c hb
    refine ⟨by rw [hb]; rfl, callsIn_wide (n := 0).1 ?_⟩
    have hAt : At cx.wl B0 w0 R σ w w.heap.size ⟨args ++ List.replicate (fn.ntmps - args.length) (.lit undef), H⟩ R σ { tmps := cargs ++ Array.replicate (fn.ntmps - cargs.size) undef, defers := [] } w := by
      refine ⟨?_, Stp.refl hI, Nat.le_refl _, trivial⟩
      have := append_rel hA (replicate_rel R σ (fn.ntmps - args.length) undef)
      rw [hA.1]
      exact this
    have hw := (execK_wp hP hC hY hD (ro := none) (fun _ => rfl) (n := 0) (Nat.le_refl _) c).1 _ _ R σ _ w h hAt
    refine callsIn_of_wp_marks (F := Fw none) hf hb trivial (Go.wpIn_mono hw ?_)
    rintro e a' w' ⟨o, s, R', σ', rfl, hk, hA'⟩
    have fin : ∀ {x : Option (V × Hp)}, x = (resultsV cx.P fn.results.toList s).map (fun v => (v, s.H)) → x = some (v, H') → LeavesInM (Fw none) 0 P fn a'.tmps (Ends cx.wl B0 w0 R σ w v H') a'.defers .returning w' := by
      rintro _ rfl hx
      simp only [Option.map_eq_some_iff] at hx
      obtain ⟨v', hv, e⟩ := hx
      cases e
      rw [hP] at hv
      exact leaves_run (env := s.env) (H := s.H) hv hA'.env (Nat.le_refl _) hI.base (fun cv w'' st r hs => ⟨R', σ', st, r, hs⟩) a'.defers w' hA'.marks hA'.stp hA'.size
    cases o with
    | norm => exact fin rfl hk
    | ret => exact fin rfl hk
    | exit id => cases hk
    | goto l => cases hk

theorem setParams_rel : ∀ {ts : List Tmp} {args env : List V} {cargs : List Value} {tmps : Array Value}, args.length = ts.length → RelA R σ args cargs.toArray → RelA R σ env tmps →
    RelA R σ (setParams env ts args) ((ts.zip cargs).foldl (fun tmps (t, a) => tmps.setIfInBounds t a) tmps)
  | [], [], env, cargs, tmps, _, hA, hE => by simpa [setParams] using hE
  | t :: ts, v :: args, env, cargs, tmps, hl, hA, hE => by
    obtain ⟨cv, l, he, h1, h2⟩ := hA.uncons
    have hc : cargs = cv :: l := by simpa using he
    subst hc
    simp only [setParams, List.zip_cons_cons, List.foldl_cons]
    exact setParams_rel (by simpa using hl) h2 (hE.set t h1)

theorem loop_set (hI : Inv wl B0 w0 R σ H w) {id : Nat} {l l' : Lp} {s : Sg} {b : Nat} {r r' : Loop} (hH : H[id]? = some (.loop l)) (hs : σ[id]? = some s) (hh : s.hole = false) (hle : wl ≤ id) (hb : s.blk = some b)
    (hr : w.heap[b]? = some (.loop r)) (h1 : r'.state = l'.st) (h2 : r'.pending = l'.pending) (h3 : r'.params.toList = l'.params) (h4 : r'.assign = l'.assign) (h5 : r'.body = l'.body) (h6 : RelA R σ l'.tmps r'.tmps) :
    Stp (TB B0) wl B0 w0 R σ w R σ (H.set id (.loop l')) (w.putObj b (.loop r')) := by
  have hB : B0 ≤ b := hI.ge id _ s b hle hH rfl hs hb
  have hbl : b < w.heap.size := hI.lt id _ s b hH rfl hs hb
  have hgen : s.gen = 0 := (hI.blk id _ s hH hs hh).1
  have hset := hI.set (R' := R) (w' := w.putObj b (.loop r')) (b' := .loop l') (s' := s) hH rfl hs hh hle (SgLe.refl s) (fun k hk => .inl hk)
    ⟨rfl, rfl, rfl, by simp, fun k hk => World.putObj_heap_other (by omega)⟩ (by simp) (fun k _ hk => World.putObj_heap_other (fun e => hk (by rw [e]; exact hb))) (RoLe.refl R) (fun _ _ h => .inl h)
    (fun k o u hu' hk => by
      rw [hb] at hk; cases hk
      have := hI.ro b o u hu'
      simp [World.cell?, hr] at this)
    ⟨hgen, b, r', hb, World.putObj_heap_same hbl, h1, h2, h3, h4, h5, by rw [set_self_eq hs]; exact h6⟩
  rw [set_self_eq hs] at hset
  exact hset.widen (fun k hk => by rw [hb] at hk; cases hk; exact hB)

theorem At.loop {s : St} {a : Act} (h : At wl B0 w0 R0 σ0 ws n1 s R σ a w) {id : Nat} {l : Lp} {s0 : Sg} {b : Nat} (h0 : σ0[id]? = some s0) (hh : s0.hole = false) (hg : s0.gen = 0) (hb : s0.blk = some b) (hl : s.H[id]? = some (.loop l)) :
    σ[id]? = some s0 ∧ ∃ r : Loop, w.heap[b]? = some (.loop r) ∧ r.state = l.st ∧ r.pending = l.pending ∧ r.params.toList = l.params ∧ r.assign = l.assign ∧ r.body = l.body ∧ RelA R σ l.tmps r.tmps := by
  obtain ⟨s', hs', hle⟩ := h.stp.ext id s0 h0
  have hh' := hle.hole hh
  obtain ⟨hgen, b', r, h3, h4, h5, h6, h8, h9, h10, h11⟩ := h.stp.inv.blk id _ s' hl hs' hh'
  have := hle.same hh (by omega)
  subst this
  rw [hb] at h3
  cases h3
  exact ⟨hs', r, h4, h5, h6, h8, h9, h10, h11⟩

theorem roundV_ok {cx : Cx} (hP : cx.P = P) (hC : CallOk P cx.call) (hY : YldOk P cx.yld) (hD : DrawOk P) (hround : cx.round = true) {id : Nat} {l : Lp} {args : List V} {v : V} {H' : Hp} (hl : H[id]? = some (.loop l))
    (h : roundV cx id l args H = some (v, H')) {cargs : Array Value} (hI : Inv cx.wl B0 w0 R σ H w) (hA : RelA R σ args cargs) {b : Nat} {s : Sg} (hs : σ[id]? = some s) (hh : s.hole = false) (hb : s.gen = 0 → s.blk = some b) :
    ∃ r : Loop, w.heap[b]? = some (.loop r) ∧ cargs.size = r.params.size ∧
      ∀ n, RoundIn Fence.wide n P b r.fn ((r.params.zip cargs).foldl (fun tmps (t, a) => tmps.setIfInBounds t a) r.tmps) r.assign r.body w (Ends cx.wl B0 w0 R σ w v H') := by
  unfold roundV at h
  split at h
  · rename_i hcond
    obtain ⟨c1, c2, c3⟩ := hcond
    have hwl : cx.wl ≤ id := Nat.le_of_ble_eq_true c3
    obtain ⟨hgen, b', r, h3, h4, h5, h6, h8, h9, h10, h11⟩ := hI.blk id _ s hl hs hh
    have hb := hb hgen
    rw [h3] at hb
    cases hb
    refine ⟨r, h4, by have := hA.1; rw [this, c2, ← h8]; simp, fun n => ?_⟩
    have henv : RelA R σ (setParams l.tmps l.params args) ((r.params.zip cargs).foldl (fun tmps (t, a) => tmps.setIfInBounds t a) r.tmps) := by
      rw [← Array.foldl_toList, Array.toList_zip, h8]
      exact setParams_rel c2 (by simpa using hA) h11
    have hAt : At cx.wl B0 w0 R σ w 0 ⟨setParams l.tmps l.params args, H⟩ R σ { tmps := (r.params.zip cargs).foldl (fun tmps (t, a) => tmps.setIfInBounds t a) r.tmps, defers := [] } w :=
      ⟨henv, Stp.refl hI, Nat.le_refl _, trivial⟩
    have hro : cx.round = false → some b = none := fun e => by rw [hround] at e; cases e
    have hw := (execK_wp hP hC hY hD (ro := some b) hro (n := n) (Nat.zero_le _) l.assign).1 _ _ R σ _ w h hAt
    rw [← h9] at hw
    refine roundIn_of_wpIn (F := Fence.wide) trivial (Go.wpIn_mono (show r.assign.wpIn (Fence.wide.inRound b) n P _ _ _ from hw) ?_)
    rintro e a1 w1 ⟨o, s1, R1, σ1, rfl, hk, hA1⟩
    cases o with
    | exit id' => cases hk
    | goto l' => cases hk
    | ret => cases hk
    | norm =>
      simp only at hk
      split at hk
      · rename_i l' hl'
        split at hk
        · rename_i hready
          obtain ⟨hs1, r1, g4, g5, g6, g8, g9, g10, g11⟩ := hA1.loop hs hh hgen h3 hl'
          have hst := loop_set (l' := { l' with st := .busy }) (r' := { r1 with state := .busy }) hA1.stp.inv hl' hs1 hh hwl h3 g4 rfl g6 g8 g9 g10 g11
          refine ⟨_, run_beginRound g4 (by rw [g5]; exact hready), ?_⟩
          have hA2 : At cx.wl B0 w0 R σ w 0 ⟨s1.env, s1.H.set id (.loop { l' with st := .busy })⟩ R1 σ1 a1 (w1.putObj b (.loop { r1 with state := .busy })) :=
            ⟨hA1.env, hA1.stp.trans hst hA1.size, by simpa using hA1.size, hA1.marks.keep hst.df⟩
          have hw2 := (execK_wp hP hC hY hD (ro := some b) hro (n := n) (Nat.zero_le _) l.body).1 _ _ R1 σ1 a1 _ hk hA2
          rw [← h10] at hw2
          refine Go.wpIn_mono (show r.body.wpIn (Fence.wide.inRound b) n P _ _ _ from hw2) ?_
          rintro e a3 w3 ⟨o', s3, R3, σ3, rfl, hk3, hA3⟩
          simp only at hk3
          split at hk3
          · rename_i l'' hl''
            cases hk3
            obtain ⟨hs3, r3, k4, k5, k6, k8, k9, k10, k11⟩ := hA3.loop hs hh hgen h3 hl''
            have hend := run_endRound (P := P) (outCode o') k4
            have hst3 := loop_set (l' := { l'' with st := if (outCode o').isNone then .ready else .done, pending := outCode o' }) (r' := { r3 with state := if (outCode o').isNone then .ready else .done, pending := outCode o' })
              hA3.stp.inv hl'' hs3 hh hwl h3 k4 rfl rfl k8 k9 k10 k11
            have hfin : Ends cx.wl B0 w0 R σ w (.lit (.bool (outCode o').isNone)) (cutH H.length (s3.H.set id (.loop { l'' with st := if (outCode o').isNone then .ready else .done, pending := outCode o' })))
                (.returned (.bool (outCode o').isNone)) (w3.putObj b (.loop { r3 with state := if (outCode o').isNone then .ready else .done, pending := outCode o' })) :=
              ⟨R3, _, (hA3.stp.trans hst3 hA3.size).cut (by rw [hI.len]; exact Nat.le_refl _), .lit _, by simpa using hA3.size⟩
            cases o' with
            | norm => exact ⟨_, _, hend, hfin⟩
            | ret => exact ⟨_, _, hend, hfin⟩
            | exit id' => exact ⟨_, _, hend, hfin⟩
            | goto l' => exact ⟨_, _, hend, hfin⟩
          · cases hk3
        · cases hk
      · cases hk
  · cases h

/-- A function with a word of its own. -/
def OrcOk (P : Program) (M : Mode) : Prop :=
  ∀ (f : FuncId) (o : List V → Hp → Option (V × Hp)), M.orc f = some o → ∀ (args : List V) (H : Hp) (v : V) (H' : Hp), o args H = some (v, H') → Enters P f ∧
    ∀ (B0 : Nat) (w0 : World) (R : Ro) (σ : List Sg) (w : World) (cargs : Array Value), Inv 0 B0 w0 R σ H w → RelA R σ args cargs → Calls P f cargs w (Ends 0 B0 w0 R σ w v H')

theorem ev_ok {M : Mode} (hN : Named P) (hO : OrcOk P M) (hD : DrawOk P) : ∀ k, CallOk P (evF P M k) ∧ YldOk P (evY P M k)
  | 0 => ⟨fun wl g args H v H' h => by simp [evF] at h, fun wl l args H v H' h => by simp [evY] at h⟩
  | k + 1 => by
    obtain ⟨hC, hY⟩ := ev_ok hN hO hD k
    refine ⟨fun wl g args H v H' h => ?_, fun wl l args H v H' h => ?_⟩
    · simp only [evF] at h
      split at h
      · rename_i o ho
        split at h
        · rename_i h0
          subst h0
          exact hO g o ho args H v H' h
        · cases h
      · split at h
        · cases h
        · rename_i fn hf
          have key := fun (B0 : Nat) (w0 : World) (R : Ro) (σ : List Sg) (w : World) (cargs : Array Value) (hI : Inv wl B0 w0 R σ H w) (hA : RelA R σ args cargs) =>
            bodyV_ok (cx := { P, M, fid := g, round := false, wl, call := evF P M k, yld := evY P M k, n := k }) rfl rfl hC hY hD hf h hI hA
          refine ⟨⟨fn, hf, hN g fn hf, ?_⟩, fun B0 w0 R σ w cargs hI hA => (key B0 w0 R σ w cargs hI hA).2⟩
          unfold bodyV at h
          cases hb : fn.body with
          | none => rw [hb] at h; cases h
          | some c => rfl
    · intro B0 w0 R σ w cargs hI hA b s hs hh hb
      simp only [evY] at h
      split at h
      · rename_i r hr
        exact roundV_ok (cx := { P, M, fid := r.fn, round := true, wl, call := evF P M k, yld := evY P M k, n := k }) rfl hC hY hD rfl hr h hI hA hs hh hb
      · cases h

end func
end Go.Ab
