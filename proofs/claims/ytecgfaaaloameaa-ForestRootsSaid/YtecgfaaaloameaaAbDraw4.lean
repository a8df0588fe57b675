/- Regions that draw their order: each step. -/
import Derived.Test.YtecgfaaaloameaaAbDraw3
namespace Go.Ab
open Go.RowKit
section draw
variable {P : Program} {cx : Cx} {ops : Array Oper} {S : Nat → St} {ran : Nat → Bool} {val : Nat → V} {fin : List Nat × List Nat}
variable {B0 : Nat} {w0 : World} {R0 R R' : Ro} {σ0 σ σ' : List Sg} {ws : World} {n1 : Nat} {w w' : World} {listed : Array Bool} {a : Act} {k : Nat}

/-- What an operation that may run names, is what the run in its own order has there. -/
theorem DInv.agree (tr : Tr cx ops S ran val fin) (h : DInv cx ops S val B0 w0 R0 σ0 ws n1 listed a w k R σ) {i p : Nat} {o : Oper} (hp : (orderOf ops)[p]? = some (o, i))
    (hi : listed.getD i false = false) (hready : ∀ j, ((Region.before ops).getD i 0).testBit j = true → listed.getD j false = true) {t : Tmp} (ht : t ∈ namesOf ops o) :
    (Xenv (S 0).env (orderOf ops) val (Dl ops listed) (orderOf ops).length)[t]? = (S p).env[t]? := by
  obtain ⟨hback, htmp, _, _⟩ := regOk_spec tr.ok
  have ho := Tr.get hp
  have hpN := (List.getElem?_eq_some_iff.1 hp).1
  rw [X_agree (D' := fun q => decide (q < p)) _ (fun q _ o' i' hL hd => ?_), X_line rfl (fun q o i hq => (tr.each q o i hq).2.1) p _ (Nat.le_refl _), Nat.min_eq_right (by omega)]
  have hord := htmp i' i o' o t (Tr.get hL) ho ht hd
  rcases Nat.lt_trichotomy q p with hqp | rfl | hqp
  · have hb := order_before hback hqp hL hp hord
    have := hready i' hb
    unfold Dl
    rw [hL]
    simp [hqp]
    simpa using this
  · rw [hp] at hL
    cases hL
    unfold Dl
    rw [hp]
    simp
    simpa using hi
  · have hb := order_before hback hqp hp hL (by rw [ordered_comm]; exact hord)
    cases hD : Dl ops listed q with
    | false => simp; omega
    | true =>
      exfalso
      have hDq : listed.getD i' false = true := by unfold Dl at hD; rw [hL] at hD; exact hD
      have := h.closed i' hDq i hb
      rw [hi] at this
      cases this

/-- Nothing changes where nothing may. -/
theorem Tr.same (tr : Tr cx ops S ran val fin) {p q : Nat} (hpq : p ≤ q) (hq : q ≤ (orderOf ops).length)
    (h : ∀ m, p ≤ m → m < q → ∀ o i, (orderOf ops)[m]? = some (o, i) → isEff ops (Region.before ops) i = false ∧ isHoist ops (Region.before ops) i = false) : (S q).H = (S p).H := by
  induction q with
  | zero => have : p = 0 := by omega
            subst this; rfl
  | succ q ih =>
    by_cases e : p = q + 1
    · rw [e]
    · obtain ⟨o, i, hL⟩ := Tr.at_lt (ops := ops) (q := q) (by omega)
      obtain ⟨h1, h2⟩ := h q (by omega) (by omega) o i hL
      rw [(tr.quiet hL h1 h2).1]
      exact ih (by omega) (by omega) (fun m a b => h m a (by omega))

theorem Tr.seenAll (tr : Tr cx ops S ran val fin) {id : Nat} {p q : Nat} (hpq : p ≤ q) (hq : q ≤ (orderOf ops).length)
    (h : ∀ m, p ≤ m → m < q → ∀ o i, (orderOf ops)[m]? = some (o, i) → seenAt (S (m + 1)).H id = seenAt (S m).H id) : seenAt (S q).H id = seenAt (S p).H id := by
  induction q with
  | zero => have : p = 0 := by omega
            subst this; rfl
  | succ q ih =>
    by_cases e : p = q + 1
    · rw [e]
    · obtain ⟨o, i, hL⟩ := Tr.at_lt (ops := ops) (q := q) (by omega)
      rw [h q (by omega) (by omega) o i hL]
      exact ih (by omega) (by omega) (fun m a b => h m a (by omega))

theorem seen_same {H H' : Hp} {id : Nat} (h : H' = H) : seenAt H' id = seenAt H id := by rw [h]

theorem eff_calm {i : Nat} {o : Oper} (_ho : ops[i]? = some o) (hk : kdAt ops i = .reads) (h : isEff ops (Region.before ops) i = true) : isCalm ops (Region.before ops) i = false := by
  unfold isEff at h
  rw [hk] at h
  simpa using h

theorem callV_makes {op : Op} (h : isCallV op = true) : opKd op = .makes := by
  unfold isCallV at h
  split at h
  · split at h
    · rename_i c f hf; simp [opKd, hf]
    · cases h
  · cases h

/-- An operation that may change the heap, in no order with another one that touches memory, leaves what is not written to see. -/
theorem Tr.step_seen (tr : Tr cx ops S ran val fin) {m : Nat} {o : Oper} {i : Nat} (hL : (orderOf ops)[m]? = some (o, i)) {id : Nat} (hid : id < (S m).H.length)
    (hcalm : isEff ops (Region.before ops) i = true → kdAt ops i ≠ .loud → isCalm ops (Region.before ops) i = true)
    (hw : isEff ops (Region.before ops) i = true → kdAt ops i = .loud → ran m = true → idAt (S m).env (writeOf o.op) ≠ some id) : seenAt (S (m + 1)).H id = seenAt (S m).H id := by
  have ho := Tr.get hL
  have hkd := kdAt_eq ho
  cases he : isEff ops (Region.before ops) i with
  | true =>
    refine tr.seen hL (fun hc => hcalm he ?_) hid (fun hr hl => hw he (by rw [hkd]; exact hl) hr)
    rw [hkd, callV_makes hc]; simp
  | false =>
    cases hh : isHoist ops (Region.before ops) i with
    | false => exact seen_same (tr.quiet hL he hh).1
    | true =>
      obtain ⟨⟨t, hop⟩, _⟩ := hoist_alloc ho hh
      refine tr.seen hL (fun hc => ?_) hid (fun _ hl => ?_)
      · rw [hop] at hc; cases hc
      · rw [hop] at hl; cases hl

theorem draw_step (hP : cx.P = P) (hC : CallOk P cx.call) (hY : YldOk P cx.yld) {ro : Option Nat} {n : Nat} (tr : Tr cx ops S ran val fin) (h : DInv cx ops S val B0 w0 R0 σ0 ws n1 listed a w k R σ) {i : Nat}
    (hr : i ∈ Region.ready .any ops listed) {Q : Exit → Act → World → Prop} {K : Act → World → Prop}
    (hK : ∀ (a' : Act) (w' : World) (k' : Nat) (R' : Ro) (σ' : List Sg), DInv cx ops S val B0 w0 R0 σ0 ws n1 (listed.setIfInBounds i true) a' w' k' R' σ' → K a' w') : wpOpIn (Fw ro) n P ops Q i K a w := by
  obtain ⟨hback, htmp, heff, hloud⟩ := regOk_spec tr.ok
  obtain ⟨hi', o, ho, hall⟩ := mem_ready.1 hr
  have hidx : i < listed.size := by rw [h.size]; exact (Array.getElem?_eq_some_iff.1 ho).1
  have hi : listed.getD i false = false := by
    simp [Array.getD_eq_getD_getElem?, hidx] at hi' ⊢
    exact hi'
  have hready : ∀ j, ((Region.before ops).getD i 0).testBit j = true → listed.getD j false = true := by
    intro j hj
    obtain ⟨e, he, hb, h1⟩ := before_spec hback ho hj
    have h2 := hall e he hb
    rcases h1 with rfl | h1
    · exact h2
    · exact h.closed e.on h2 j h1
  obtain ⟨p, hp⟩ := order_pos ho
  have hpN : p < (orderOf ops).length := (List.getElem?_eq_some_iff.1 hp).1
  have hag := fun t ht => h.agree tr hp hi hready (t := t) ht
  obtain ⟨hg, _, hrun, hskip⟩ := tr.each p o i hp
  -- the guard
  have hgd : ∀ j want d c, o.guard = some (j, want) → (ops[j]?).bind (·.dst) = some d → (S p).env[d]? = some c → ∃ v, a.tmps[d]? = some v ∧ RelV R σ c v := by
    intro j want d c hgu hd hc
    have hd' : d ∈ namesOf ops o := by unfold namesOf; simp [hgu, hd]
    rw [← hag d hd'] at hc
    exact h.env.get hc
  have hw := hg.wanted hgd
  -- slots
  have hcon : ∀ x ∈ o.op.operands, AgreeO (S p).env (Xenv (S 0).env (orderOf ops) val (Dl ops listed) (orderOf ops).length) x := by
    intro x hx t e
    subst e
    refine (hag t ?_).symm
    unfold namesOf
    simp
    exact .inr (.inl ⟨_, hx, rfl⟩)
  -- those that may change the heap
  have hbetween : isEff ops (Region.before ops) i = true → k ≤ p ∧ ∀ m, k ≤ m → m < p → ∀ o i, (orderOf ops)[m]? = some (o, i) → isEff ops (Region.before ops) i = false ∧ isHoist ops (Region.before ops) i = false := by
    intro he
    refine ⟨?_, fun m hkm hmp o' i' hL => ⟨?_, ?_⟩⟩
    · rcases Nat.lt_or_ge p k with h1 | h1
      · have := (h.front p o i hp he).2 h1
        rw [hi] at this
        cases this
      · exact h1
    · cases he' : isEff ops (Region.before ops) i' with
      | false => rfl
      | true =>
        have hb := order_before hback hmp hL hp (heff i' i o' o (Tr.get hL) ho he' he)
        have := (h.front m o' i' hL he').1 (hready i' hb)
        omega
    · cases hh : isHoist ops (Region.before ops) i' with
      | false => rfl
      | true => have := h.lo m o' i' hL hh; omega
  have hfrontE : isEff ops (Region.before ops) i = true → ∀ (q : Nat) (o' : Oper) (i' : Nat), (orderOf ops)[q]? = some (o', i') → isEff ops (Region.before ops) i' = true → ((listed.setIfInBounds i true).getD i' false = true ↔ q < p + 1) := by
    intro he q o' i' hL he'
    obtain ⟨hkp, hnone⟩ := hbetween he
    by_cases e : i = i'
    · subst e
      have hqp : q = p := by
        rcases Nat.lt_trichotomy q p with h1 | h1 | h1
        · exact absurd rfl (order_rel h1 hL hp).1
        · exact h1
        · exact absurd rfl (order_rel h1 hp hL).1
      subst hqp
      simp [hidx]
    · rw [getD_set_ne false e, h.front q o' i' hL he']
      constructor
      · intro h1; omega
      · intro h1
        rcases Nat.lt_or_ge q k with h2 | h2
        · exact h2
        · have hqp : q ≠ p := by
            intro e2
            subst e2
            rw [hp] at hL
            cases hL
            exact e rfl
          have := (hnone q h2 (by omega) o' i' hL).1
          rw [he'] at this
          cases this
  have hfrontQ : isEff ops (Region.before ops) i = false → ∀ (q : Nat) (o' : Oper) (i' : Nat), (orderOf ops)[q]? = some (o', i') → isEff ops (Region.before ops) i' = true → ((listed.setIfInBounds i true).getD i' false = true ↔ q < k) := by
    intro he q o' i' hL he'
    have e : i ≠ i' := by
      intro e
      subst e
      rw [he] at he'
      cases he'
    rw [getD_set_ne false e]
    exact h.front q o' i' hL he'
  have hkeep : ∀ (σ' : List Sg), (∀ (id : Nat) (s : Sg), σ[id]? = some s → s.hole = true → σ'[id]? = some s) →
      ∀ (q : Nat) (o' : Oper) (i' j : Nat), q ≠ p → (orderOf ops)[q]? = some (o', i') → isHoist ops (Region.before ops) i' = true → listed.getD i' false = false → val q = .ptr j 0 0 0 → (S (q + 1)).H.length = j + 1 → σ[j]? = some holeSg → σ'[j]? = some holeSg :=
    fun σ' hl q o' i' j _ _ _ _ _ _ hs => hl j holeSg hs rfl
  -- look at the operation
  unfold wpOpIn
  simp only [ho]
  rw [hw]
  cases hran : ran p with
  | false =>
    simp only [Bool.false_eq_true, if_false]
    refine ⟨fun _ _ => trivial, ?_⟩
    obtain ⟨hv, hH⟩ := hskip hran
    have hrel : RelV R σ (val p) undef := by rw [hv]; exact .lit _
    cases he : isEff ops (Region.before ops) i with
    | true =>
      obtain ⟨hkp, hnone⟩ := hbetween he
      have hs := tr.same hkp (by omega) hnone
      have hst : Stp (TB B0) cx.wl B0 w0 R0 σ0 ws R σ (S (p + 1)).H w := by rw [hH, hs]; exact h.stp
      exact hK _ _ (p + 1) R σ (h.next tr hp hi hready (hfrontE he) (by omega) (by omega) hst (RoLe.refl R) (Ext.refl σ) hrel h.sz h.marks (hkeep σ (fun _ _ h _ => h)))
    | false =>
      exact hK _ _ k R σ (h.next tr hp hi hready (hfrontQ he) (Nat.le_refl _) h.hi h.stp (RoLe.refl R) (Ext.refl σ) hrel h.sz h.marks (hkeep σ (fun _ _ h _ => h)))
  | true =>
    simp only [if_true]
    obtain ⟨hstrict, hop, hlog⟩ := hrun hran
    cases hh : isHoist ops (Region.before ops) i with
    | true =>
      -- a variable that was looked at first
      obtain ⟨⟨t', hal⟩, _⟩ := hoist_alloc ho hh
      obtain ⟨j, z, t, cs, e1, e2, e3, e4, e5, e6, e7, e8, e9⟩ := h.holes p o i hp hh hi
      have hlo := h.lo p o i hp hh
      have hjk : seenAt (S k).H j = seenAt (S (p + 1)).H j := by
        refine tr.seenAll (by omega) h.hi (fun m hpm hmk o' i' hL => ?_)
        have hmN : m < (orderOf ops).length := by have := h.hi; omega
        have hjm : j < (S m).H.length := by have := tr.len (show p + 1 ≤ m from hpm) (by omega); omega
        have hunord : isEff ops (Region.before ops) i' = true → ordered (Region.before ops) i' i = false := by
          intro he'
          cases hord : ordered (Region.before ops) i' i with
          | false => rfl
          | true =>
            have hb := order_before hback (show p < m by omega) hp hL (by rw [ordered_comm]; exact hord)
            have hl := (h.front m o' i' hL he').2 hmk
            have := h.closed i' hl i hb
            rw [hi] at this
            cases this
        refine tr.step_seen hL hjm (fun he' _ => calm_of (j := i) ho (by rw [kdAt_eq ho, e1]; simp [opKd]) (hunord he')) (fun he' hl _ => ?_)
        have := hloud i' i o' o (Tr.get hL) ho hl hh
        rw [hunord he'] at this
        cases this
      have hbox := seen_box hjk e6
      have hex : (execOp a.eval o).run P w = .ok (.value (.pointer (some ⟨w.heap.size, 0, none⟩))) (w.alloc (.cells z.cells t)) := by
        subst hP
        simp only [execOp, e1, Instr.alloc, Sem.run_bind, run_zero e2, Result.andThen_ok, newVar, newRow, run_newObj_alloc, Sem.run_pure]
      have hsem : o.semAt (Fw ro).round a.eval = execOp a.eval o := Oper.semAt_eq _ _ _ (fun c hc => by rw [e1] at hc; cases hc)
      refine ⟨fun _ _ => trivial, ?_⟩
      rw [hsem, hex, Oper.uponIn_value]
      have hst := h.stp.fill h.sz t (by have := h.n0; omega) e9 hbox e7 e8
      have he : isEff ops (Region.before ops) i = false := by
        unfold isEff
        rw [kdAt_eq ho, e1]
        simp [opKd, hh]
      refine hK _ _ k R _ (h.next tr hp hi hready (hfrontQ he) (Nat.le_refl _) h.hi hst (RoLe.refl R) (Ext.fill e9 rfl) ?_ (by have := h.sz; simp; omega) (h.marks.keep (fun b x hb => ?_)) (fun q o' i' j' hqp hL hh' hl' hv' hlen' hs' => ?_))
      · rw [e3]
        refine .ptr j 0 0 0 _ ⟨some w.heap.size, 0, 0, 0, false⟩ (by rw [List.getElem?_set_self (List.getElem?_eq_some_iff.1 e9).1]) rfl (Nat.le_refl _) (fun _ => ⟨w.heap.size, rfl, rfl⟩)
      · exact (Below.one_alloc w _).block b (Array.getElem?_eq_some_iff.1 hb).1
      · have hjj : j' ≠ j := by
          intro e
          subst e
          have hq := (List.getElem?_eq_some_iff.1 hL).1
          obtain ⟨j2, _, _, _, _, _, g3, g4, _, _⟩ := h.holes q o' i' hL hh' hl'
          rw [hv'] at g3
          cases g3
          rcases Nat.lt_or_ge q p with h1 | h1
          · have h2 := tr.len (show q + 1 ≤ p from h1) (by omega)
            have h3 : (S p).H.length < (S (p + 1)).H.length := by
              rw [e1] at hop
              simp only [opV, Option.bind_eq_some_iff] at hop
              obtain ⟨z', _, hop⟩ := hop
              split at hop
              · have e := (Prod.mk.inj (Option.some.inj hop)).2
                rw [← e]
                have := (matL_keeps (zeroCs z') (S p).H none).len
                simp
                omega
              · cases hop
            omega
          · have h2 := tr.len (show p + 1 ≤ q by omega) (by omega)
            have h3 : (S q).H.length < (S (q + 1)).H.length := by
              obtain ⟨hg', _, hrun', _⟩ := tr.each q o' i' hL
              obtain ⟨⟨t2, hal2⟩, hgn⟩ := hoist_alloc (Tr.get hL) hh'
              have hran' : ran q = true := by unfold GuardV at hg'; rw [hgn] at hg'; exact hg'
              obtain ⟨_, hop', _⟩ := hrun' hran'
              rw [hal2] at hop'
              simp only [opV, Option.bind_eq_some_iff] at hop'
              obtain ⟨z', _, hop'⟩ := hop'
              split at hop'
              · have e := (Prod.mk.inj (Option.some.inj hop')).2
                rw [← e]
                have := (matL_keeps (zeroCs z') (S q).H none).len
                simp
                omega
              · cases hop'
            omega
        rw [List.getElem?_set_ne (fun e => hjj e.symm)]
        exact hs'
    | false =>
      cases he : isEff ops (Region.before ops) i with
      | true =>
        obtain ⟨hkp, hnone⟩ := hbetween he
        have hs := tr.same hkp (by omega) hnone
        rw [opV_congr hcon, hs] at hop
        refine op_wp hP rfl hC hY h.stp.inv h.env hop (fun cv w' R' σ' st hv hsz => ?_)
        exact hK _ _ (p + 1) R' σ' (h.next tr hp hi hready (hfrontE he) (by omega) (by omega) (h.stp.trans st h.sz) st.le st.ext hv (Nat.le_trans h.sz hsz) (h.marks.keep st.df) (hkeep σ' st.hl))
      | false =>
        obtain ⟨_, hq⟩ := tr.quiet hp he hh
        have hop2 := hq hran (S k).H (fun hrd id hid => ?_)
        · rw [opV_congr hcon] at hop2
          refine op_wp hP rfl hC hY h.stp.inv h.env hop2 (fun cv w' R' σ' st hv hsz => ?_)
          exact hK _ _ k R' σ' (h.next tr hp hi hready (hfrontQ he) (Nat.le_refl _) h.hi (h.stp.trans st h.sz) st.le st.ext hv (Nat.le_trans h.sz hsz) (h.marks.keep st.df) (hkeep σ' st.hl))
        · -- what it looks at lies as it lay
          have hkr : kdAt ops i = .reads := by rw [kdAt_eq ho]; exact hrd
          -- those in between are in no order with it
          have hun1 : ∀ m, k ≤ m → m < p → ∀ o' i', (orderOf ops)[m]? = some (o', i') → isEff ops (Region.before ops) i' = true → ordered (Region.before ops) i i' = false := by
            intro m hkm hmp o' i' hL he'
            cases hord : ordered (Region.before ops) i i' with
            | false => rfl
            | true =>
              have hb := order_before hback hmp hL hp (by rw [ordered_comm]; exact hord)
              have := (h.front m o' i' hL he').1 (hready i' hb)
              omega
          have hun2 : ∀ m, p < m → m < k → ∀ o' i', (orderOf ops)[m]? = some (o', i') → isEff ops (Region.before ops) i' = true → ordered (Region.before ops) i i' = false := by
            intro m hpm hmk o' i' hL he'
            cases hord : ordered (Region.before ops) i i' with
            | false => rfl
            | true =>
              have hb := order_before hback hpm hp hL hord
              have := h.closed i' ((h.front m o' i' hL he').2 hmk) i hb
              rw [hi] at this
              cases this
          have hstep : ∀ m o' i', (orderOf ops)[m]? = some (o', i') → isHoist ops (Region.before ops) i' = false → (isEff ops (Region.before ops) i' = true → ordered (Region.before ops) i i' = false) →
              (S 0).H.length ≤ (S m).H.length → seenAt (S (m + 1)).H id = seenAt (S m).H id := by
            intro m o' i' hL hnh hun hlen
            have ho' := Tr.get hL
            cases he' : isEff ops (Region.before ops) i' with
            | false =>
              exact seen_same (tr.quiet hL he' hnh).1
            | true =>
              have hfloat : (rgOf ops).strict i = true := by
                show isFloat ops (Region.before ops) i = true
                unfold isFloat
                rw [hkr]
                simp only [beq_self_eq_true, Bool.true_and, List.any_eq_true, List.mem_range]
                exact ⟨i', (Array.getElem?_eq_some_iff.1 ho').1, by rw [he', hun he']; rfl⟩
              have hlt : id < (S 0).H.length := by
                unfold strictOk at hstrict
                rw [hfloat, if_pos rfl, hid] at hstrict
                simpa using hstrict
              refine tr.step_seen hL (by omega) (fun _ _ => calm_of (j := i) ho (by rw [hkr]; simp) (by rw [ordered_comm]; exact hun he')) (fun _ hl hrm => ?_)
              -- it is written, and looked at out of order: the lists are apart
              have hloose : (rgOf ops).loose i = true := by
                show isLoose ops (Region.before ops) i = true
                unfold isLoose
                rw [hkr]
                simp only [beq_self_eq_true, Bool.true_and, Bool.not_eq_true']
                cases hL' : ordL ops (Region.before ops) i with
                | false => rfl
                | true =>
                  unfold ordL at hL'
                  simp only [List.all_eq_true, List.mem_range, Bool.or_eq_true, bne_iff_ne, ne_eq] at hL'
                  rcases hL' i' (Array.getElem?_eq_some_iff.1 ho').1 with h1 | h1
                  · exact absurd hl h1
                  · rw [hun he'] at h1; cases h1
              have hany : (rgOf ops).any = true := by
                show anyLoose ops (Region.before ops) = true
                unfold anyLoose
                simp only [List.any_eq_true, List.mem_range]
                exact ⟨i, (Array.getElem?_eq_some_iff.1 ho).1, hloose⟩
              have h1 := (hlog hany).1 hloose id hid
              obtain ⟨_, _, hrun', _⟩ := tr.each m o' i' hL
              obtain ⟨_, _, hlog'⟩ := hrun' hrm
              have hnl : (rgOf ops).loose i' = false := by
                show isLoose ops (Region.before ops) i' = false
                unfold isLoose
                rw [hl]; rfl
              intro e
              have h2 := (hlog' hany).2 hnl (by rw [← kdAt_eq ho']; exact hl) id e
              have := tr.apart hany
              unfold apartA at this
              rw [List.all_eq_true] at this
              have := this id h1
              simp [h2] at this
          rcases Nat.le_total k p with hkp | hpk
          · refine (tr.seenAll hkp (by omega) (fun m hkm hmp o' i' hL => ?_)).symm
            refine hstep m o' i' hL ?_ (hun1 m hkm hmp o' i' hL) (tr.len (Nat.zero_le _) (by omega))
            cases hh' : isHoist ops (Region.before ops) i' with
            | false => rfl
            | true => have := h.lo m o' i' hL hh'; omega
          · refine tr.seenAll hpk h.hi (fun m hpm hmk o' i' hL => ?_)
            by_cases hmp : m = p
            · subst hmp
              exact seen_same (by rw [hp] at hL; cases hL; exact (tr.quiet hp he hh).1)
            · have hmN : m ≤ (orderOf ops).length := by have := h.hi; omega
              refine hstep m o' i' hL ?_ (hun2 m (by omega) hmk o' i' hL) (tr.len (Nat.zero_le _) hmN)
              cases hh' : isHoist ops (Region.before ops) i' with
              | false => rfl
              | true =>
                rcases (order_rel (show p < m by omega) hp hL).2 with h1 | h1
                · rw [hh] at h1; cases h1
                · rw [hh'] at h1; exact h1.1

end draw
end Go.Ab
