/- Each operation that is no call of a function does what the abstract evaluator says. -/
import Derived.Test.YtecgfaaaloameaaAbOps7
import Derived.Laws.NewFold
namespace Go.Ab
open Go.RowKit
section ops
variable {P : Program} {wl B0 : Nat} {w0 : World} {R R' : Ro} {σ σ' : List Sg} {H : Hp} {w w' : World}

def isCallV : Op → Bool
  | .call c => match c.callee with | .value _ => true | _ => false
  | _ => false

theorem evOO_rel {env : List V} {a : Act} (hE : RelA R σ env a.tmps) {x : Option Operand} {v : Option V} (h : evOO env x = some v) : RelO R σ v (x.map a.eval) := by
  cases x with
  | none => cases h; exact .none
  | some x =>
    simp only [evOO, Option.map_eq_some_iff] at h
    obtain ⟨y, hy, rfl⟩ := h
    exact .some _ _ (evO_rel hE hy)

/-- What an operation does. -/
def Does (P : Program) (wl B0 : Nat) (w0 : World) (R : Ro) (σ : List Sg) (w : World) (ρ : Operand → Value) (o : Oper) (v : V) (H' : Hp) : Prop :=
  ∃ (nx : Next) (cv : Value) (w' : World) (R' : Ro) (σ' : List Sg), (execOp ρ o).run P w = .ok nx w' ∧ (nx = .value cv ∨ (nx = .skip ∧ cv = undef)) ∧
    Stp (TB B0) wl B0 w0 R σ w R' σ' H' w' ∧ RelV R' σ' v cv ∧ w.heap.size ≤ w'.heap.size

theorem Does.quiet (hI : Inv wl B0 w0 R σ H w) {ρ : Operand → Value} {o : Oper} {v : V} {cv : Value} (hr : (execOp ρ o).run P w = .ok (.value cv) w) (hv : RelV R σ v cv) : Does P wl B0 w0 R σ w ρ o v H :=
  ⟨_, cv, w, R, σ, hr, .inl rfl, Stp.refl hI, hv, Nat.le_refl _⟩

theorem toL (a : Act) (args : Array Operand) : (args.toList.map a.eval).toArray = args.map a.eval := by
  apply Array.ext'
  simp

theorem opV_sound {cx : Cx} (hP : cx.P = P) (hW : cx.wl = wl) (hI : Inv wl B0 w0 R σ H w) {calm ord : Bool} {o : Oper} {env : List V} {a : Act} (hE : RelA R σ env a.tmps) {v : V} {H' : Hp}
    (hc : isCallV o.op = false) (h : opV cx calm ord o.op env H = some (v, H')) : Does P wl B0 w0 R σ w a.eval o v H' := by
  subst hP hW
  unfold opV at h
  split at h
  · -- move
    rename_i x ho
    simp only [Option.map_eq_some_iff] at h
    obtain ⟨x', hx, e⟩ := h
    cases e
    exact Does.quiet hI (by simp only [execOp, ho, Sem.run_pure]) (evO_rel hE hx)
  · -- assign
    rename_i x ho
    simp only [Option.map_eq_some_iff] at h
    obtain ⟨x', hx, e⟩ := h
    have hr := evO_rel hE hx
    have hrun : (execOp a.eval o).run cx.P w = .ok (.value (a.eval x)) w := by simp only [execOp, ho, Sem.run_pure]
    have e' : (x' = .nil ∧ (V.own H.length 0 0, H ++ [B.rows 0 [] 0 true]) = (v, H')) ∨ (x', H) = (v, H') := by
      split at e
      · exact .inl ⟨rfl, e⟩
      · exact .inr e
    clear e
    rcases e' with ⟨rfl, e⟩ | e
    · cases e
      obtain ⟨τ, s1, r1, _, _⟩ := matL_run (vs := [.nil]) (cvs := #[a.eval x]) hI (hr.cons (RelA.nil R σ))
      refine ⟨_, a.eval x, w, R, σ ++ τ, hrun, .inl rfl, s1.widen (fun _ h => h.elim), ?_, Nat.le_refl _⟩
      have := r1.2 0 (.own H.length 0 0) rfl
      simpa using this
    · cases e
      exact Does.quiet hI hrun hr
  · -- pick
    rename_i c x y ho
    simp only [Option.bind_eq_some_iff, Option.map_eq_some_iff] at h
    obtain ⟨c', hc', x', hx, y', hy, v', hv, e⟩ := h
    cases e
    obtain ⟨t, ht, hr⟩ := vPick_run hv (evO_rel hE hc') (evO_rel hE hx) (evO_rel hE hy)
    exact Does.quiet hI (by simp only [execOp, ho, Sem.run_bind, ht, asBool, Sem.run_pure, Result.andThen_ok]) hr
  · -- alloc
    rename_i t ho
    simp only [Option.bind_eq_some_iff] at h
    obtain ⟨z, hz, h⟩ := h
    split at h
    · rename_i hon
      cases h
      obtain ⟨τ, s1, r1⟩ := newBox_run hI t (zeroCs_rel z hon) hon
      refine ⟨_, _, _, R, _, ?_, .inl rfl, s1.widen (fun _ h => h.elim), r1, by simp⟩
      simp only [execOp, ho, Instr.alloc, Sem.run_bind, run_zero hz, Result.andThen_ok, newVar, newRow, run_newObj_alloc, Sem.run_pure]
    · cases h
  · -- box
    rename_i t x ho
    simp only [Option.bind_eq_some_iff] at h
    obtain ⟨x', hx, vs, hvs, h⟩ := h
    cases h
    obtain ⟨hr, hon, _⟩ := cells_rel (evO_rel hE hx) hvs
    obtain ⟨τ, s1, r1⟩ := newBox_run hI t hr hon
    refine ⟨_, _, _, R, _, ?_, .inl rfl, s1.widen (fun _ h => h.elim), r1, by simp⟩
    simp only [execOp, ho, Instr.box, Sem.run_bind, Result.andThen_ok, newVar, newRow, run_newObj_alloc, Sem.run_pure]
  · -- build
    rename_i t parts ho
    simp only [Option.bind_eq_some_iff, Option.map_eq_some_iff] at h
    obtain ⟨l, hl, v', hv, e⟩ := h
    cases e
    obtain ⟨h1, h2⟩ := mapO_rel hE hl
    obtain ⟨cv, hrun, hr⟩ := vBuild_run (P := cx.P) (w := w) (cparts := parts.map fun p => (p.1, a.eval p.2)) hv (by simpa using h1) (by simpa using h2)
    exact Does.quiet hI (by simp only [execOp, ho, Sem.run_bind, hrun, Result.andThen_ok, Sem.run_pure]) hr
  · -- buildSlice
    rename_i t len parts ho
    simp only [Option.bind_eq_some_iff] at h
    obtain ⟨l, hl, h⟩ := h
    split at h
    · cases h
    · obtain ⟨h1, h2⟩ := mapO_rel hE hl
      obtain ⟨cv, w', R', σ', hrun, hst, hr, hsz⟩ := vBuildSlice_run (cparts := parts.map fun p => (p.1, a.eval p.2)) hI h (by simpa using h1) (by simpa using h2)
      exact ⟨_, cv, w', R', σ', by simp only [execOp, ho, Sem.run_bind, hrun, Result.andThen_ok, Sem.run_pure], .inl rfl, hst, hr, hsz⟩
  · -- insert
    rename_i t m k x ho
    simp only [Option.bind_eq_some_iff, Option.map_eq_some_iff] at h
    obtain ⟨m', hm, k', hk, x', hx, H1, hH, e⟩ := h
    cases e
    obtain ⟨w', hrun, hst, hsz⟩ := vInsert_run hI hH (evO_rel hE hm) (evO_rel hE hk) (evO_rel hE hx)
    exact ⟨.skip, undef, w', R, σ, by simp only [execOp, ho, Sem.run_bind, hrun, Result.andThen_ok, Sem.run_pure], .inr ⟨rfl, rfl⟩, hst, .lit _, by omega⟩
  · -- load
    rename_i t x ho
    simp only [Option.bind_eq_some_iff, Option.map_eq_some_iff] at h
    obtain ⟨x', hx, v', hv, e⟩ := h
    cases e
    obtain ⟨cv, hrun, hr⟩ := vLoad_run hI hv (evO_rel hE hx)
    exact Does.quiet hI (by simp only [execOp, ho, Sem.run_bind, hrun, Result.andThen_ok, Sem.run_pure]) hr
  · -- store
    rename_i t x y ho
    simp only [Option.bind_eq_some_iff, Option.map_eq_some_iff] at h
    obtain ⟨x', hx, y', hy, H1, hH, e⟩ := h
    cases e
    obtain ⟨w', R', σ', hrun, hst, hsz⟩ := vStore_run hI hH (evO_rel hE hx) (evO_rel hE hy)
    exact ⟨.skip, undef, w', R', σ', by simp only [execOp, ho, Sem.run_bind, hrun, Result.andThen_ok, Sem.run_pure], .inr ⟨rfl, rfl⟩, hst, .lit _, by omega⟩
  · -- nilCheck
    rename_i x ho
    simp only [Option.bind_eq_some_iff, Option.map_eq_some_iff] at h
    obtain ⟨x', hx, v', hv, e⟩ := h
    cases e
    have hr := evO_rel hE hx
    obtain ⟨hrun, rfl⟩ := vNil_run (P := cx.P) ho hI hv hr rfl
    exact Does.quiet hI hrun hr
  · -- binOp
    rename_i op t x y u ho
    simp only [Option.bind_eq_some_iff, Option.map_eq_some_iff] at h
    obtain ⟨x', hx, y', hy, v', hv, e⟩ := h
    cases e
    obtain ⟨cv, hrun, hr⟩ := vBin_run (w := w) o ho hv (evO_rel hE hx) (evO_rel hE hy)
    exact Does.quiet hI hrun hr
  · -- unOp
    rename_i op t x ho
    simp only [Option.bind_eq_some_iff, Option.map_eq_some_iff] at h
    obtain ⟨x', hx, v', hv, e⟩ := h
    cases e
    obtain ⟨cv, hrun, hr⟩ := vUn_run (P := cx.P) (w := w) hv (evO_rel hE hx)
    exact Does.quiet hI (by simp only [execOp, ho, Sem.run_bind, hrun, Result.andThen_ok, Sem.run_pure]) hr
  · -- convert
    rename_i s d x ho
    simp only [Option.bind_eq_some_iff, Option.map_eq_some_iff] at h
    obtain ⟨x', hx, v', hv, e⟩ := h
    cases e
    obtain ⟨cv, hrun, hr⟩ := vConv_run (w := w) hv (evO_rel hE hx)
    exact Does.quiet hI (by simp only [execOp, ho, Sem.run_bind, hrun, Result.andThen_ok, Sem.run_pure]) hr
  · -- makeFunc
    rename_i f x y ho
    simp only [Option.bind_eq_some_iff, Option.map_eq_some_iff] at h
    obtain ⟨x', hx, y', hy, e⟩ := h
    cases e
    have h1 := evOs_rel hE hx
    have h2 := evOs_rel hE hy
    rw [toL] at h1 h2
    exact Does.quiet hI (by simp only [execOp, ho, Instr.makeFunc, Sem.run_bind, Result.andThen_ok, Sem.run_pure]) (.fn f x' y' _ _ h1.1 h2.1 h1.2 h2.2)
  · -- makeMap
    rename_i t r ho
    split at h
    · cases h
      have hb := Below.one_alloc w (.map #[] 0)
      have hp := hI.push_stp (T := TB B0) (w' := w.alloc (.map #[] 0)) (b := .map []) (s := ⟨some w.heap.size, 0, 0, 0, false⟩) hb (fun k hk => by cases hk; exact ⟨Nat.le_refl _, by simp⟩)
        ⟨rfl, w.heap.size, #[], 0, rfl, alloc_new w _, rfl, fun i e he => by simp at he⟩
      refine ⟨_, .map (some w.heap.size), _, R, _, ?_, .inl rfl, hp, ?_, by simp⟩
      · simp only [execOp, ho, Instr.makeMap, Option.map_none, Sem.run_bind, Result.andThen_ok, run_newObj_alloc, Sem.run_pure]
      · exact .map _ _ ⟨some w.heap.size, 0, 0, 0, false⟩ (by rw [← hI.len]; simp) rfl (fun _ => ⟨rfl, rfl⟩)
    · cases h
  · -- makeSlice
    rename_i t l c ho
    simp only [Option.bind_eq_some_iff] at h
    obtain ⟨l', hl, c', hc', h⟩ := h
    obtain ⟨cv, w', σ', hrun, hst, hr, hsz⟩ := vMakeSlice_run hI h (evO_rel hE hl) (evO_rel hE hc')
    exact ⟨_, cv, w', R, σ', by simp only [execOp, ho, Sem.run_bind, hrun, Result.andThen_ok, Sem.run_pure], .inl rfl, hst.widen (fun _ h => h.elim), hr, hsz⟩
  · -- slice
    rename_i t x lo hi mx ho
    simp only [Option.bind_eq_some_iff] at h
    obtain ⟨x', hx, lo', hlo, hi', hhi, mx', hmx, h⟩ := h
    obtain ⟨cv, R', hrun, hst, hr⟩ := vSlice_run hI h (evO_rel hE hx) (evOO_rel hE hlo) (evOO_rel hE hhi) (evOO_rel hE hmx)
    exact ⟨_, cv, w, R', σ, by simp only [execOp, ho, Sem.run_bind, hrun, Result.andThen_ok, Sem.run_pure], .inl rfl, hst, hr, Nat.le_refl _⟩
  · -- fieldAddr
    rename_i t x i ho
    simp only [Option.bind_eq_some_iff, Option.map_eq_some_iff] at h
    obtain ⟨x', hx, v', hv, e⟩ := h
    cases e
    obtain ⟨cv, hrun, hr⟩ := vFieldAddr_run (w := w) hv (evO_rel hE hx)
    exact Does.quiet hI (by simp only [execOp, ho, Sem.run_bind, hrun, Result.andThen_ok, Sem.run_pure]) hr
  · -- field
    rename_i t x i ho
    simp only [Option.bind_eq_some_iff, Option.map_eq_some_iff] at h
    obtain ⟨x', hx, v', hv, e⟩ := h
    cases e
    obtain ⟨cv, hrun, hr⟩ := vField_run (w := w) hv (evO_rel hE hx)
    exact Does.quiet hI (by simp only [execOp, ho, Sem.run_bind, hrun, Result.andThen_ok, Sem.run_pure]) hr
  · -- indexAddr
    rename_i t x i ho
    simp only [Option.bind_eq_some_iff, Option.map_eq_some_iff] at h
    obtain ⟨x', hx, i', hi, v', hv, e⟩ := h
    cases e
    obtain ⟨cv, hrun, hr⟩ := vIndexAddr_run hI hv (evO_rel hE hx) (evO_rel hE hi)
    exact Does.quiet hI (by simp only [execOp, ho, Sem.run_bind, hrun, Result.andThen_ok, Sem.run_pure]) hr
  · -- index
    rename_i t x i ho
    simp only [Option.bind_eq_some_iff, Option.map_eq_some_iff] at h
    obtain ⟨x', hx, i', hi, v', hv, e⟩ := h
    cases e
    obtain ⟨cv, hrun, hr⟩ := vIndex_run (w := w) hv (evO_rel hE hx) (evO_rel hE hi)
    exact Does.quiet hI (by simp only [execOp, ho, Sem.run_bind, hrun, Result.andThen_ok, Sem.run_pure]) hr
  · -- lookup
    rename_i t m k ok ho
    simp only [Option.bind_eq_some_iff, Option.map_eq_some_iff] at h
    obtain ⟨m', hm, k', hk, v', hv, e⟩ := h
    cases e
    obtain ⟨cv, hrun, hr⟩ := vLookup_run hI hv (evO_rel hE hm) (evO_rel hE hk)
    exact Does.quiet hI (by simp only [execOp, ho, Sem.run_bind, hrun, Result.andThen_ok, Sem.run_pure]) hr
  · -- extract
    rename_i x i ho
    simp only [Option.bind_eq_some_iff, Option.map_eq_some_iff] at h
    obtain ⟨x', hx, v', hv, e⟩ := h
    cases e
    obtain ⟨cv, hrun, hr⟩ := vExtract_run (P := cx.P) (w := w) hv (evO_rel hE hx)
    exact Does.quiet hI (by simp only [execOp, ho, Sem.run_bind, hrun, Result.andThen_ok, Sem.run_pure]) hr
  · -- calls
    rename_i c ho
    split at h
    · rename_i b hb
      simp only [Option.bind_eq_some_iff] at h
      obtain ⟨as, has, h⟩ := h
      have hA := evOs_rel hE has
      rw [toL] at hA
      obtain ⟨bs, hexec⟩ : ∃ bs, (execOp a.eval o).run cx.P w = (builtin b c.argTypes o.type bs (c.args.map a.eval)).run cx.P w :=
        ⟨_, by simp only [execOp, ho, Sem.run_bind, resolve, hb, Sem.run_pure, Result.andThen_ok, invoke]; rfl⟩
      unfold bltV at h
      split at h
      · -- len
        split at h
        · rename_i t x hts
          have hts' : c.argTypes = #[t] := by apply Array.ext'; simpa using hts
          split at h
          · rename_i he
            obtain ⟨e, he⟩ := Option.isSome_iff_exists.1 he
            simp only [Option.map_eq_some_iff] at h
            obtain ⟨v', hv, e'⟩ := h
            cases e'
            obtain ⟨cx', l, hl, h1, h2⟩ := hA.uncons
            have := h2.nil_inv
            have hl0 : l = [] := by simpa using this
            subst hl0
            obtain ⟨cv, hrun, hr⟩ := vLen_run (ty := o.type) hI he hv h1
            refine Does.quiet hI ?_ hr
            rw [hexec, hl, hts']
            simp only [builtin, Sem.run_bind, hrun, Result.andThen_ok, Sem.run_pure]
          · cases h
        · cases h
      · -- append
        split at h
        · rename_i t u s x hts
          have hts' : c.argTypes = #[t, u] := by apply Array.ext'; simpa using hts
          split at h
          · rename_i he
            obtain ⟨cs, l, hl, h1, h2⟩ := hA.uncons
            obtain ⟨cx', l2, hl2, h3, h4⟩ := h2.uncons
            have := h4.nil_inv
            have hl0 : l2 = [] := by simpa using this
            subst hl0
            have hl2' : l = [cx'] := by simpa using hl2
            subst hl2'
            obtain ⟨cv, w', σ', hrun, hst, hr, hsz⟩ := vAppend_run (ty := o.type) hI h he h1 h3
            refine ⟨_, cv, w', R, σ', ?_, .inl rfl, hst, hr, hsz⟩
            rw [hexec, hl, hts']
            simp only [builtin, Sem.run_bind, hrun, Result.andThen_ok, Sem.run_pure]
          · cases h
        · cases h
      · -- max
        simp only [Option.map_eq_some_iff] at h
        obtain ⟨v', hv, e'⟩ := h
        cases e'
        obtain ⟨cv, hrun, hr⟩ := vMinMax_run (P := cx.P) (w := w) (ts := c.argTypes) (ty := o.type) hv hA
        refine Does.quiet hI ?_ hr
        simp only [if_true] at hrun
        rw [hexec]
        simp only [builtin, Sem.run_bind, hrun, Result.andThen_ok, Sem.run_pure]
      · -- min
        simp only [Option.map_eq_some_iff] at h
        obtain ⟨v', hv, e'⟩ := h
        cases e'
        obtain ⟨cv, hrun, hr⟩ := vMinMax_run (P := cx.P) (w := w) (ts := c.argTypes) (ty := o.type) hv hA
        refine Does.quiet hI ?_ hr
        simp only [Bool.false_eq_true, if_false] at hrun
        rw [hexec]
        simp only [builtin, Sem.run_bind, hrun, Result.andThen_ok, Sem.run_pure]
      · cases h
    · rename_i f hf
      rw [ho] at hc
      simp [isCallV, hf] at hc
    · cases h
  · cases h

end ops
end Go.Ab
