/- The code of an activation does what the abstract evaluator says. -/
import Derived.Test.YtecgfaaaloameaaAbRegion
import Derived.Test.YtecgfaaaloameaaAbScope
import Derived.LoopNIn
import Derived.RangeFuncRecord
namespace Go.Ab
open Go.RowKit
section code
variable {P : Program} {wl B0 : Nat} {w0 : World} {R0 R R' : Ro} {σ0 σ σ' : List Sg} {ws : World} {n1 : Nat} {H : Hp} {w w' : World}
variable {T : Type}

def Out.toE : Out → Exit
  | .norm => .normal
  | .exit id => .exit id
  | .goto l => .goto l
  | .ret => .ret

/-- How a piece of code is left. -/
def Post (wl B0 : Nat) (w0 : World) (R0 : Ro) (σ0 : List Sg) (ws : World) (n1 : Nat) (K : Out → St → Option T) (r : T) : Exit → Act → World → Prop := fun e a w =>
  ∃ (o : Out) (s : St) (R : Ro) (σ : List Sg), e = o.toE ∧ K o s = some r ∧ At wl B0 w0 R0 σ0 ws n1 s R σ a w

/-- A region that draws its order. -/
def DrawOk (P : Program) : Prop :=
  ∀ (cx : Cx), cx.P = P → CallOk P cx.call → YldOk P cx.yld → ∀ (T : Type) (B0 : Nat) (w0 : World) (R0 : Ro) (σ0 : List Sg) (ws : World) (n1 : Nat) (ro : Option Nat) (n id : Nat) (ops : Array Oper) (K : St → Option T) (r : T) (Q : Exit → Act → World → Prop),
    (∀ (s : St) (R : Ro) (σ : List Sg) (a : Act) (w : World), K s = some r → At cx.wl B0 w0 R0 σ0 ws n1 s R σ a w → Q .normal a w) → regOk ops = true →
    ∀ (s : St) (R : Ro) (σ : List Sg) (a : Act) (w : World), opsK cx s.H.length (rgOf ops) ops (orderOf ops) ([], []) K s = some r → At cx.wl B0 w0 R0 σ0 ws n1 s R σ a w → (Code.region id ops true).wpIn (Fw ro) n P Q a w

theorem hasLabel_find : ∀ (c : Code) (l : Nat), hasLabel l c = (findLabel c l).isSome
  | .seq a b, l => by
    simp only [hasLabel, findLabel, hasLabel_find a l, hasLabel_find b l]
    cases findLabel a l <;> simp
  | .label l', l => by simp only [hasLabel, findLabel]; split <;> simp_all
  | .skip, l | .refuse _, l | .region .., l | .cond .., l | .block .., l | .loop _, l | .exit _, l | .goto _, l | .ret, l | .scope _, l | .rangeFunc .., l => by simp [hasLabel, findLabel]

theorem Ext.length (h : Ext σ σ') : σ.length ≤ σ'.length := by
  by_cases h0 : σ.length = 0
  · omega
  · obtain ⟨s', hs, _⟩ := h (σ.length - 1) (σ[σ.length - 1]'(by omega)) (by simp [show σ.length - 1 < σ.length by omega])
    have := (List.getElem?_eq_some_iff.1 hs).1
    omega

theorem tidyE_rel {n0 : Nat} {drop : Tmp → Bool} : ∀ {env : List V} {k : Nat} {vs : List Value}, (vs.length = env.length ∧ ∀ (i : Nat) (c : V) (v : Value), env[i]? = some c → vs[i]? = some v → RelV R σ c v) →
    ((tidyE n0 drop k env).length = env.length ∧ ∀ (i : Nat) (c : V) (v : Value), (tidyE n0 drop k env)[i]? = some c → vs[i]? = some v → RelV R (σ.take n0) c v)
  | [], k, vs, h => ⟨rfl, fun i c v hc => by simp [tidyE] at hc⟩
  | x :: env, k, vs, h => by
    obtain ⟨hl, hr⟩ := h
    cases vs with
    | nil => simp at hl
    | cons y vs =>
      obtain ⟨i1, i2⟩ := tidyE_rel (n0 := n0) (drop := drop) (env := env) (k := k + 1) (vs := vs) ⟨by simpa using hl, fun i c v hc hv => hr (i + 1) c v (by simpa using hc) (by simpa using hv)⟩
      refine ⟨by simp [tidyE, i1], fun i c v hc hv => ?_⟩
      cases i with
      | zero =>
        simp only [tidyE, List.getElem?_cons_zero, Option.some.injEq] at hc hv
        subst hc hv
        split
        · exact .junk _
        · exact (hr 0 x _ rfl rfl).kill n0
      | succ i => exact i2 i c v (by simpa [tidyE] using hc) (by simpa using hv)

theorem At.tidy {s : St} {a : Act} (h : At wl B0 w0 R0 σ0 ws n1 s R σ a w) {n0 : Nat} (hn : σ0.length ≤ n0) (drop : Tmp → Bool) : At wl B0 w0 R0 σ0 ws n1 (tidy n0 drop s) R (σ.take n0) a w where
  env := by
    obtain ⟨h1, h2⟩ := tidyE_rel (R := R) (σ := σ) (n0 := n0) (drop := drop) (env := s.env) (k := 0) (vs := a.tmps.toList)
      ⟨by simpa using h.env.1, fun i c v hc hv => by
        obtain ⟨u, hu, hr⟩ := h.env.get hc
        have : a.tmps[i]? = some v := by simpa using hv
        rw [hu] at this; cases this; exact hr⟩
    refine ⟨by show _ = (tidyE n0 drop 0 s.env).length; rw [h1]; exact h.env.1, fun i c hc => ?_⟩
    have hi : i < a.tmps.size := by
      have := (List.getElem?_eq_some_iff.1 hc).1
      have e := h.env.1
      simp only [Ab.tidy] at this
      omega
    have := h2 i c a.tmps[i] hc (by simp [hi])
    simpa [hi] using this
  stp := h.stp.cut hn
  size := h.size
  marks := h.marks

/-- What lies elsewhere is another. -/
theorem Inv.elsewhere (hI : Inv wl B0 w0 R σ H w) {b : Nat} {o : Obj} (hb : B0 ≤ b) (hbl : b < w.heap.size)
    (hn : ∀ (id : Nat) (x : B) (s : Sg), H[id]? = some x → x.isDead = false → σ[id]? = some s → s.hole = false → s.blk ≠ some b) (hro : ∀ x, R b x = none) : Inv wl B0 w0 R σ H (w.putObj b o) := by
  have hother : ∀ k, k ≠ b → (w.putObj b o).heap[k]? = w.heap[k]? := fun k hk => World.putObj_heap_other hk
  refine ⟨hI.below.trans ⟨rfl, rfl, rfl, by simp, fun k hk => hother k (by omega)⟩, by simpa using hI.base, hI.len, ?_, hI.inj, hI.ge, ?_, ?_⟩
  · intro id x s h1 h2 hh
    by_cases hd : x.isDead = true
    · cases x <;> first | trivial | cases hd
    · have hd : x.isDead = false := by simpa using hd
      exact (hI.blk id x s h1 h2 hh).mono (RoLe.refl R) (Ext.refl σ) (fun k hk => hother k (fun e => hn id x s h1 hd h2 hh (by rw [hk, e]))) (fun _ _ _ h => h)
  · intro id x s k h1 d h2 e
    simpa using hI.lt id x s k h1 d h2 e
  · intro k x v hv
    have h1 := hI.ro k x v hv
    have hk : k ≠ b := fun e => by subst e; rw [hro] at hv; cases hv
    simp only [World.cell?] at h1 ⊢
    rw [hother k hk]; exact h1

theorem Inv.ro_loop (hI : Inv wl B0 w0 R σ H w) {b : Nat} (h : ∀ arr e f, w.heap[b]? ≠ some (.cells arr e f)) (x : Nat) : R b x = none := by
  cases hr : R b x with
  | none => rfl
  | some v =>
    have := hI.ro b x v hr
    unfold World.cell? at this
    split at this
    · rename_i arr e f hb
      exact absurd hb (h arr e f)
    · cases this

theorem iterK_wp {cx : Cx} {ro : Option Nat} {n n0 named : Nat} {rw' : List Tmp × List Tmp} {c : Code} {K : Out → St → Option T} {r : T} (hn : σ0.length ≤ n0)
    (ih : ∀ (K : Out → St → Option T) (s : St) (R : Ro) (σ : List Sg) (a : Act) (w : World), execK cx c none K s = some r → At wl B0 w0 R0 σ0 ws n1 s R σ a w → c.wpIn (Fw ro) n P (Post wl B0 w0 R0 σ0 ws n1 K r) a w) :
    ∀ (m : Nat) (s : St) (R : Ro) (σ : List Sg) (a : Act) (w : World), iterK (execK cx c none) n0 named rw' K m s = some r → At wl B0 w0 R0 σ0 ws n1 s R σ a w → c.roundsIn (Fw ro) n P (Post wl B0 w0 R0 σ0 ws n1 K r) m a w
  | 0, s, R, σ, a, w, h, hA => by cases h
  | m + 1, s, R, σ, a, w, h, hA => by
    simp only [iterK] at h
    refine Go.wpIn_mono (ih _ s R σ a w h hA) ?_
    rintro e a' w' ⟨o, s', R', σ', rfl, hk, hA'⟩
    cases o with
    | norm => exact iterK_wp hn ih m _ _ _ a' w' hk (hA'.tidy hn _)
    | ret => exact ⟨.ret, s', R', σ', rfl, hk, hA'⟩
    | exit id => exact ⟨.exit id, _, R', _, rfl, hk, hA'.tidy hn _⟩
    | goto l => exact ⟨.goto l, _, R', _, rfl, hk, hA'.tidy hn _⟩

theorem range_wp {cx : Cx} (hP : cx.P = P) (hC : CallOk P cx.call) {n : Nat} {f : Operand} {ps : Array Tmp} {x y : Code} {K : Out → St → Option T} {r : T} {s : St} {a : Act} (hn1 : n1 ≤ ws.heap.size)
    (h : execK cx (.rangeFunc f ps x y) none K s = some r) (hA : At cx.wl B0 w0 R0 σ0 ws n1 s R σ a w) : cx.round = false ∧ (Code.rangeFunc f ps x y).wpIn (Fw none) n P (Post cx.wl B0 w0 R0 σ0 ws n1 K r) a w := by
  subst hP
  simp only [execK] at h
  split at h
  · cases h
  · rename_i hcr
    simp only [Bool.or_eq_true, Bool.not_eq_true', not_or, Bool.not_eq_true, Bool.not_eq_false] at hcr
    obtain ⟨hround, hwl⟩ := hcr
    have hwl : cx.wl ≤ s.H.length := Nat.le_of_ble_eq_true hwl
    refine ⟨hround, ?_⟩
    split at h
    · rename_i g caps hf
      simp only [Option.bind_eq_some_iff] at h
      obtain ⟨p, hp, h⟩ := h
      obtain ⟨pv, pH⟩ := p
      obtain ⟨hE, hcall⟩ := hC _ g _ _ pv pH hp
      refine wpIn_rangeFunc fun fn _ => ?_
      obtain ⟨va, vb, hfe, hfi, hca⟩ := fn_inv (evO_rel hA.env hf)
      have hva : va = #[] := hfi.nil_inv
      subst hva
      let lr : Loop := { state := .ready, pending := none, fn, tmps := a.tmps, params := ps, assign := x, body := y, defers := w.heap.size }
      let w₁ := (w.alloc (.deferred (some []))).alloc (.loop lr)
      let yv : Value := .func (.yield (w.heap.size + 1)) #[] #[]
      have hI := hA.stp.inv
      have hb0 : Below w.heap.size w (w.alloc (.deferred (some []))) := Below.one_alloc w _
      have hI1 := hI.world hb0
      let sl : Sg := ⟨some (w.heap.size + 1), 0, 0, 0, false⟩
      have hsz1 : (w.alloc (.deferred (some []))).heap.size = w.heap.size + 1 := by simp
      have hst1 : Stp (TB B0) cx.wl B0 w0 R σ w R (σ ++ [sl]) (s.H ++ [.loop { st := .ready, pending := none, fn := cx.fid, tmps := s.env, params := ps.toList, assign := x, body := y }]) w₁ := by
        refine (hI.stp hb0).trans (hI1.push_stp (w' := w₁) (s := sl) (Below.one_alloc _ _) (fun k hk => by cases hk; exact ⟨by omega, by simp [w₁]⟩) ?_) hb0.size
        refine ⟨rfl, w.heap.size + 1, lr, rfl, ?_, rfl, rfl, rfl, rfl, rfl, hA.env.mono (RoLe.refl R) (Ext.append σ _)⟩
        rw [← hsz1]
        exact alloc_new _ _
      refine ⟨w.heap.size + 1, [{ target := .collected w.heap.size, args := #[] }], w₁, { target := .fn (.func g) vb, args := #[] ++ #[yv] }, w₁, g, #[yv] ++ vb, w₁, run_enterLoop_outer _ _ _ _ _, ?_, fun _ _ => trivial, ?_, fun h => (by cases h), callsIn_fw (r := none) ?_⟩
      · have hm : Array.map a.eval #[.const yv] = #[yv] := by simp [Act.eval]
        simp only [resolve, hfe, Deferred.ofValue, Sem.run_pure]
        rw [hm]
      · simp only [invoke, Array.empty_append, run_enter hE]
      · have hargs : RelA R (σ ++ [sl]) (.yld s.H.length :: caps) (#[yv] ++ vb) := by
          have h1 : RelA R (σ ++ [sl]) [.yld s.H.length] #[yv] := by
            have : RelV R (σ ++ [sl]) (.yld s.H.length) yv := .yld _ _ sl (by rw [← hI.len]; simp) rfl (fun _ => rfl)
            exact this.cons (RelA.nil R _)
          exact append_rel h1 (hca.mono (RoLe.refl R) (Ext.append σ _))
        refine (hcall _ _ _ _ _ _ hst1.inv hargs).mono fun e w₃ he => ?_
        cases e with
        | panicked => exact he.elim
        | outgrown => exact he.elim
        | returned cv =>
          obtain ⟨R3, σ3, st3, _, hsz3⟩ := he
          have hsz : w.heap.size ≤ w₃.heap.size := by
            have : w₁.heap.size = w.heap.size + 2 := by simp [w₁]
            omega
          simp only at h
          split at h
          · rename_i l' hl'
            obtain ⟨s3, hs3, hle3⟩ := st3.ext s.H.length sl (by rw [← hI.len]; simp)
            have hh3 := hle3.hole rfl
            obtain ⟨hgen, b, rl, hblk, hheap, hstate, hpend, _⟩ := st3.inv.blk _ _ s3 hl' hs3 hh3
            have hsame := hle3.same rfl (by rw [hgen]; exact Nat.zero_le _)
            subst hsame
            have hbe : b = w.heap.size + 1 := by cases hblk; rfl
            subst hbe
            split at h
            · cases h
            · rename_i hbusy
              let w₄ := w₃.putObj (w.heap.size + 1) (.loop { rl with state := .exhausted })
              have hrun : (Instr.endLoop (w.heap.size + 1)).run cx.P w₃ = .ok rl.pending w₄ := run_endLoop hheap (by rw [hstate]; exact hbusy)
              have hl0 : (σ.length : Nat) ≤ s.H.length := by rw [hI.len]; exact Nat.le_refl _
              have hstp3 : Stp (TB B0) cx.wl B0 w0 R σ w R3 σ3 pH w₃ := hst1.trans st3 (by simp [w₁]; omega)
              have hcut := hstp3.cut hl0
              have hblt : w.heap.size + 1 < w₃.heap.size := (Array.getElem?_eq_some_iff.1 hheap).1
              have hro : ∀ z, R3 (w.heap.size + 1) z = none := st3.inv.ro_loop (fun arr e f => by rw [hheap]; simp)
              have hnb : ∀ (id : Nat) (z : B) (t : Sg), (cutH s.H.length pH)[id]? = some z → z.isDead = false → (σ3.take s.H.length)[id]? = some t → t.hole = false → t.blk ≠ some (w.heap.size + 1) := by
                intro id z t h1 d h2 _ e
                obtain ⟨z', h1', hlt, rfl⟩ := cutH_get h1
                rw [kill_dead] at d
                have := st3.inv.inj id s.H.length z' _ t sl _ h1' hl' d rfl (take_get h2).1 hs3 e rfl
                omega
              have hB0 : B0 ≤ w.heap.size := hI.base
              have hI4 := hcut.inv.elsewhere (o := .loop { rl with state := .exhausted }) (b := w.heap.size + 1) (by omega) hblt hnb hro
              have hst4 : Stp (TB B0) cx.wl B0 w0 R σ w R3 (σ3.take s.H.length) (cutH s.H.length pH) w₄ := by
                refine ⟨hI4, hcut.ext, hcut.le, hcut.new, fun k hk hT => ?_, fun k ds hk => ?_, hcut.hl⟩
                · rw [show w₄.heap[k]? = w₃.heap[k]? from World.putObj_heap_other (by omega)]
                  exact hcut.fr k hk hT
                · have := (Array.getElem?_eq_some_iff.1 hk).1
                  rw [show w₄.heap[k]? = w₃.heap[k]? from World.putObj_heap_other (by omega)]
                  exact hcut.df k ds hk
              have hd3 : w₃.heap[w.heap.size]? = some (.deferred (some [])) := by
                have h1 : w₁.heap[w.heap.size]? = some (.deferred (some [])) := by
                  rw [Below.heap_alloc _ _ _ (by omega)]
                  exact alloc_new w _
                rw [st3.df _ _ h1]; exact h1
              have hd4 : w₄.heap[w.heap.size]? = some (.deferred (some [])) := by
                rw [show w₄.heap[w.heap.size]? = w₃.heap[w.heap.size]? from World.putObj_heap_other (by omega)]
                exact hd3
              have hmk : Marks n1 ([{ target := .collected w.heap.size, args := #[] }] ++ a.defers) w₄ := by
                refine ⟨⟨w.heap.size, rfl, Nat.le_trans hn1 hA.size, hd4, ?_⟩, hA.marks.keep hst4.df⟩
                have : ∀ {ds : List Deferred}, Marks n1 ds w → ∀ d' ∈ ds, d'.target ≠ .collected w.heap.size := by
                  intro ds
                  induction ds with
                  | nil => intro _ d' hd; cases hd
                  | cons d ds ihd =>
                    rintro ⟨⟨q, h1, h2, h3, _⟩, h5⟩ d' hd
                    rcases List.mem_cons.1 hd with rfl | hd
                    · intro e
                      rw [h1] at e
                      cases e
                      have := (Array.getElem?_eq_some_iff.1 h3).1
                      omega
                    · exact ihd h5 d' hd
                exact this hA.marks
              have hsz4 : w.heap.size ≤ w₄.heap.size := by simp [w₄]; exact hsz
              have hA4 : At cx.wl B0 w0 R0 σ0 ws n1 ⟨s.env, cutH s.H.length pH⟩ R3 (σ3.take s.H.length) { a with defers := [{ target := .collected w.heap.size, args := #[] }] ++ a.defers } w₄ :=
                ⟨hA.env.mono hst4.le hst4.ext, hA.stp.trans hst4 hA.size, Nat.le_trans hA.size hsz4, hmk⟩
              refine ⟨rl.pending, w₄, hrun, ?_⟩
              rw [hpend]
              cases hpe : l'.pending with
              | none => rw [hpe] at h; exact ⟨.norm, _, _, _, rfl, h, hA4⟩
              | some c =>
                rw [hpe] at h
                cases c <;> first | cases h | skip
                · exact wpIn_exit ⟨.exit _, _, _, _, rfl, h, hA4⟩
                · exact wpIn_goto ⟨.goto _, _, _, _, rfl, h, hA4⟩
                · exact wpIn_ret ⟨.ret, _, _, _, rfl, h, hA4⟩
          · cases h
    · cases h

theorem execK_wp {cx : Cx} (hP : cx.P = P) (hC : CallOk P cx.call) (hY : YldOk P cx.yld) (hD : DrawOk P) {ro : Option Nat} (hro : cx.round = false → ro = none) {n : Nat} {r : T} (hn1 : n1 ≤ ws.heap.size) : ∀ (c : Code),
    (∀ (K : Out → St → Option T) (s : St) (R : Ro) (σ : List Sg) (a : Act) (w : World), execK cx c none K s = some r → At cx.wl B0 w0 R0 σ0 ws n1 s R σ a w → c.wpIn (Fw ro) n P (Post cx.wl B0 w0 R0 σ0 ws n1 K r) a w) ∧
    (∀ (l : Nat) (K : Out → St → Option T) (s : St) (R : Ro) (σ : List Sg) (a : Act) (w : World), execK cx c (some l) K s = some r → At cx.wl B0 w0 R0 σ0 ws n1 s R σ a w →
      ∃ rest, findLabel c l = some rest ∧ rest.wpIn (Fw ro) n P (Post cx.wl B0 w0 R0 σ0 ws n1 K r) a w)
  | .skip => ⟨fun K s R σ a w h hA => wpIn_skip ⟨.norm, s, R, σ, rfl, h, hA⟩, fun l K s R σ a w h => by simp [execK] at h⟩
  | .label l' => ⟨fun K s R σ a w h hA => wpIn_label ⟨.norm, s, R, σ, rfl, h, hA⟩, fun l K s R σ a w h hA => by
      simp only [execK] at h
      split at h
      · rename_i he
        exact ⟨.skip, by simp only [findLabel, he, if_true], wpIn_skip ⟨.norm, s, R, σ, rfl, h, hA⟩⟩
      · cases h⟩
  | .exit id => ⟨fun K s R σ a w h hA => wpIn_exit ⟨.exit id, s, R, σ, rfl, h, hA⟩, fun l K s R σ a w h => by simp [execK] at h⟩
  | .goto l' => ⟨fun K s R σ a w h hA => wpIn_goto ⟨.goto l', s, R, σ, rfl, h, hA⟩, fun l K s R σ a w h => by simp [execK] at h⟩
  | .ret => ⟨fun K s R σ a w h hA => wpIn_ret ⟨.ret, s, R, σ, rfl, h, hA⟩, fun l K s R σ a w h => by simp [execK] at h⟩
  | .refuse _ => ⟨fun K s R σ a w h => by simp [execK] at h, fun l K s R σ a w h => by simp [execK] at h⟩
  | .region id ops draw => ⟨fun K s R σ a w h hA => by
      simp only [execK] at h
      split at h
      · rename_i hd
        have hd : draw = true := by simpa using hd
        subst hd
        split at h
        · rename_i hok
          exact hD cx hP hC hY T B0 w0 R0 σ0 ws n1 ro n id ops (K .norm) r _ (fun s R σ a w hk hA => ⟨.norm, s, R, σ, rfl, hk, hA⟩) hok s R σ a w h hA
        · cases h
      · rename_i hd
        have hd : draw = false := by simpa using hd
        subst hd
        refine wpIn_region ?_
        have := opsK_lex hP rfl hC hY (ro := ro) (n := n) (Q := Post cx.wl B0 w0 R0 σ0 ws n1 K r) (fun s R σ a w hk hA => ⟨.norm, s, R, σ, rfl, hk, hA⟩) ops.toList.zipIdx (zipIdx_ok ops).1 s _ R σ a w h hA
        rw [(zipIdx_ok ops).2] at this
        exact this, fun l K s R σ a w h => by simp [execK] at h⟩
  | .seq x y => by
    obtain ⟨hx, hx'⟩ := execK_wp hP hC hY hD hro hn1 x
    obtain ⟨hy, hy'⟩ := execK_wp hP hC hY hD hro hn1 y
    have after : ∀ (K : Out → St → Option T) (e : Exit) (a : Act) (w : World), Post cx.wl B0 w0 R0 σ0 ws n1 (fun o s' => match o with | .norm => execK cx y none K s' | o => K o s') r e a w →
        Exit.then (y.wpIn (Fw ro) n P (Post cx.wl B0 w0 R0 σ0 ws n1 K r)) (Post cx.wl B0 w0 R0 σ0 ws n1 K r) e a w := by
      rintro K e a w ⟨o, s, R, σ, rfl, hk, hA⟩
      cases o with
      | norm => exact hy K s R σ a w hk hA
      | exit id => exact ⟨.exit id, s, R, σ, rfl, hk, hA⟩
      | goto l => exact ⟨.goto l, s, R, σ, rfl, hk, hA⟩
      | ret => exact ⟨.ret, s, R, σ, rfl, hk, hA⟩
    refine ⟨fun K s R σ a w h hA => ?_, fun l K s R σ a w h hA => ?_⟩
    · simp only [execK] at h
      exact wpIn_seq (Go.wpIn_mono (hx _ s R σ a w h hA) (after K))
    · simp only [execK] at h
      split at h
      · rename_i hl
        rw [hasLabel_find] at hl
        obtain ⟨rest, hf, hw⟩ := hx' l _ s R σ a w h hA
        exact ⟨.seq rest y, by simp only [findLabel, hf], wpIn_seq (Go.wpIn_mono hw (after K))⟩
      · rename_i hl
        rw [hasLabel_find] at hl
        obtain ⟨rest, hf, hw⟩ := hy' l _ s R σ a w h hA
        have hfx : findLabel x l = none := by simpa using hl
        exact ⟨rest, by simp only [findLabel, hfx, hf], hw⟩
  | .cond c x y => by
    obtain ⟨hx, _⟩ := execK_wp hP hC hY hD hro hn1 x
    obtain ⟨hy, _⟩ := execK_wp hP hC hY hD hro hn1 y
    refine ⟨fun K s R σ a w h hA => ?_, fun l K s R σ a w h => by simp [execK] at h⟩
    simp only [execK] at h
    split at h
    · rename_i t ht
      have := (evO_rel hA.env ht).lit_inv
      refine wpIn_cond this ?_
      cases t with
      | true => exact hx K s R σ a w h hA
      | false => exact hy K s R σ a w h hA
    · cases h
  | .block id x => by
    obtain ⟨hx, _⟩ := execK_wp hP hC hY hD hro hn1 x
    refine ⟨fun K s R σ a w h hA => ?_, fun l K s R σ a w h => by simp [execK] at h⟩
    simp only [execK] at h
    refine wpIn_block (Go.wpIn_mono (hx _ s R σ a w h hA) ?_)
    rintro e a' w' ⟨o, s', R', σ', rfl, hk, hA'⟩
    cases o with
    | norm => exact ⟨.norm, s', R', σ', rfl, hk, hA'⟩
    | exit id' =>
      simp only [Out.toE, Exit.inBlock]
      simp only at hk
      split at hk
      · rename_i he
        rw [if_pos he]
        exact ⟨.norm, s', R', σ', rfl, hk, hA'⟩
      · rename_i he
        rw [if_neg he]
        exact ⟨.exit id', s', R', σ', rfl, hk, hA'⟩
    | goto l => exact ⟨.goto l, s', R', σ', rfl, hk, hA'⟩
    | ret => exact ⟨.ret, s', R', σ', rfl, hk, hA'⟩
  | .loop x => by
    obtain ⟨hx, _⟩ := execK_wp hP hC hY hD hro hn1 x
    refine ⟨fun K s R σ a w h hA => ?_, fun l K s R σ a w h => by simp [execK] at h⟩
    simp only [execK] at h
    have hl : σ0.length ≤ s.H.length := by
      have := hA.stp.ext.length
      rw [← hA.stp.inv.len]; exact this
    exact wpIn_loop_rounds cx.n (iterK_wp hl hx cx.n _ R _ a w h (hA.tidy hl _))
  | .scope x => by
    obtain ⟨hx, hx'⟩ := execK_wp hP hC hY hD hro hn1 x
    refine ⟨fun K s R σ a w h hA => ?_, fun l K s R σ a w h => by simp [execK] at h⟩
    simp only [execK] at h
    refine wpIn_scope1 (Go.wpIn_mono (hx _ s R σ a w h hA) ?_)
    rintro e a' w' ⟨o, s', R', σ', rfl, hk, hA'⟩
    cases o with
    | norm => exact ⟨.norm, s', R', σ', rfl, hk, hA'⟩
    | exit id' => exact ⟨.exit id', s', R', σ', rfl, hk, hA'⟩
    | ret => exact ⟨.ret, s', R', σ', rfl, hk, hA'⟩
    | goto l =>
      simp only [Out.toE, inScopeQ]
      simp only at hk
      split at hk
      · rename_i hl
        rw [hasLabel_find] at hl
        obtain ⟨rest, hf, hw⟩ := hx' l _ s' R' σ' a' w' hk hA'
        rw [hf]
        refine Go.wpIn_mono hw ?_
        rintro e a'' w'' ⟨o, s'', R'', σ'', rfl, hk, hA''⟩
        cases o with
        | norm => exact ⟨.norm, s'', R'', σ'', rfl, hk, hA''⟩
        | exit id' => exact ⟨.exit id', s'', R'', σ'', rfl, hk, hA''⟩
        | ret => exact ⟨.ret, s'', R'', σ'', rfl, hk, hA''⟩
        | goto l' =>
          simp only at hk
          split at hk
          · cases hk
          · rename_i hl'
            rw [hasLabel_find] at hl'
            exact ⟨by simpa using hl', .goto l', s'', R'', σ'', rfl, hk, hA''⟩
      · rename_i hl
        rw [hasLabel_find] at hl
        have hf : findLabel x l = none := by simpa using hl
        rw [hf]
        exact ⟨.goto l, s', R', σ', rfl, hk, hA'⟩
  | .rangeFunc f ps x y => ⟨fun K s R σ a w h hA => by
      obtain ⟨hr, hw⟩ := range_wp (n := n) hP hC hn1 h hA
      rw [hro hr]
      exact hw, fun l K s R σ a w h => by simp [execK] at h⟩

end code
end Go.Ab
