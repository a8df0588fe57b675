/- Regions that draw their order: the whole. -/
import Derived.Test.YtecgfaaaloameaaAbDraw4
namespace Go.Ab
open Go.RowKit
section draw
variable {P : Program} {cx : Cx} {ops : Array Oper} {S : Nat → St} {ran : Nat → Bool} {val : Nat → V} {fin : List Nat × List Nat}
variable {B0 : Nat} {w0 : World} {R0 R R' : Ro} {σ0 σ σ' : List Sg} {ws : World} {n1 : Nat} {w w' : World} {listed : Array Bool} {a : Act} {k : Nat}

/-- How many are looked at first. -/
def hoists (ops : Array Oper) : Nat := (ops.toList.zipIdx.filter (fun p => isHoist ops (Region.before ops) p.2)).length

theorem hoists_le : hoists ops ≤ (orderOf ops).length := by unfold hoists orderOf; simp

theorem hoists_iff {q : Nat} {o : Oper} {i : Nat} (hq : (orderOf ops)[q]? = some (o, i)) : isHoist ops (Region.before ops) i = true ↔ q < hoists ops := by
  unfold orderOf at hq
  simp only at hq
  by_cases h : q < hoists ops
  · rw [List.getElem?_append_left (by exact h)] at hq
    have := (List.mem_filter.1 (List.mem_of_getElem? hq)).2
    exact ⟨fun _ => h, fun _ => this⟩
  · rw [List.getElem?_append_right (by exact Nat.le_of_not_lt h)] at hq
    have := (List.mem_filter.1 (List.mem_of_getElem? hq)).2
    exact ⟨fun e => by simp [e] at this, fun e => absurd e h⟩

theorem prepush (tr : Tr cx ops S ran val fin) (hI : Stp (TB B0) cx.wl B0 w0 R0 σ0 ws R σ (S 0).H w) (hsz : ws.heap.size ≤ w.heap.size) : ∀ m, m ≤ hoists ops →
    ∃ τ : List Sg, Stp (TB B0) cx.wl B0 w0 R0 σ0 ws R (σ ++ τ) (S m).H w ∧
      ∀ (q : Nat) (o : Oper) (i : Nat), q < m → (orderOf ops)[q]? = some (o, i) →
        ∃ (j : Nat) (z : Value) (t : TypeId) (cs : List V), o.op = .alloc t ∧ zeroOf cx.P t = some z ∧ val q = .ptr j 0 0 0 ∧ (S (q + 1)).H.length = j + 1 ∧ (S 0).H.length ≤ j ∧
          (S (q + 1)).H[j]? = some (.box cs) ∧ onesL cs = true ∧ RelA R (σ ++ τ) cs z.cells ∧ (σ ++ τ)[j]? = some holeSg
  | 0, _ => ⟨[], by simpa using hI, fun q o i h => by omega⟩
  | m + 1, hm => by
    obtain ⟨τ, st, hall⟩ := prepush tr hI hsz m (by omega)
    have hmN : m < (orderOf ops).length := by have := hoists_le (ops := ops); omega
    obtain ⟨o, i, hL⟩ := Tr.at_lt hmN
    have hh := (hoists_iff hL).2 (by omega)
    obtain ⟨⟨t, hal⟩, hgn⟩ := hoist_alloc (Tr.get hL) hh
    obtain ⟨hg, _, hrun, _⟩ := tr.each m o i hL
    have hran : ran m = true := by unfold GuardV at hg; rw [hgn] at hg; exact hg
    obtain ⟨_, hop, _⟩ := hrun hran
    rw [hal] at hop
    simp only [opV, Option.bind_eq_some_iff] at hop
    obtain ⟨z, hz, hop⟩ := hop
    split at hop
    · rename_i hon
      have hpair := Prod.mk.inj (Option.some.inj hop)
      obtain ⟨hv, hH⟩ := hpair
      obtain ⟨τ', s1, r1, o1, l1⟩ := matL_run st.inv (zeroCs_rel (R := R) (σ := σ ++ τ) z hon)
      have s2 := (st.trans (s1.widen (fun _ h => h.elim)) hsz).hole (.box (matL (zeroCs z) (S m).H).1)
      rw [hH] at s2
      have hl : (matL (zeroCs z) (S m).H).2.length = (σ ++ τ ++ τ').length := s1.inv.len.symm
      refine ⟨τ ++ τ' ++ [holeSg], by simpa [List.append_assoc] using s2, fun q o' i' hq hL' => ?_⟩
      by_cases hqm : q = m
      · subst hqm
        rw [hL] at hL'
        cases hL'
        refine ⟨(matL (zeroCs z) (S q).H).2.length, z, t, (matL (zeroCs z) (S q).H).1, hal, hz, hv.symm, by rw [← hH]; simp, ?_, by rw [← hH]; simp, o1 hon, ?_, ?_⟩
        · have h1 := tr.len (Nat.zero_le q) (by omega)
          have h2 := (matL_keeps (zeroCs z) (S q).H none).len
          omega
        · have := r1.mono (RoLe.refl R) (Ext.append (σ ++ τ ++ τ') [holeSg])
          simpa [List.append_assoc] using this
        · rw [hl, show σ ++ (τ ++ τ' ++ [holeSg]) = (σ ++ τ ++ τ') ++ [holeSg] by simp [List.append_assoc]]
          simp
      · obtain ⟨j, z', t', cs, e1, e2, e3, e4, e5, e6, e7, e8, e9⟩ := hall q o' i' (by omega) hL'
        have e : σ ++ (τ ++ τ' ++ [holeSg]) = (σ ++ τ) ++ (τ' ++ [holeSg]) := by simp [List.append_assoc]
        refine ⟨j, z', t', cs, e1, e2, e3, e4, e5, e6, e7, ?_, ?_⟩
        · rw [e]; exact e8.mono (RoLe.refl R) (Ext.append _ _)
        · rw [e, List.getElem?_append_left (List.getElem?_eq_some_iff.1 e9).1]; exact e9
    · cases hop

/-- How many have not run. -/
def left (ops : Array Oper) (listed : Array Bool) : Nat := ((List.range ops.size).filter (fun i => !listed.getD i false)).length

theorem left_set {i : Nat} (hs : listed.size = ops.size) (hi : i < ops.size) (hl : listed.getD i false = false) : left ops (listed.setIfInBounds i true) < left ops listed := by
  unfold left
  have hsub : (List.range ops.size).filter (fun j => !(listed.setIfInBounds i true).getD j false) = ((List.range ops.size).filter (fun j => !listed.getD j false)).filter (fun j => j != i) := by
    rw [List.filter_filter]
    refine List.filter_congr (fun j hj => ?_)
    by_cases e : i = j
    · subst e
      simp [show i < listed.size by omega]
    · rw [getD_set_ne false e]
      have : (j != i) = true := by simpa using fun h : j = i => e h.symm
      simp [this]
  rw [hsub]
  refine List.length_filter_lt_length_iff_exists.2 ⟨i, ?_, by simp⟩
  rw [List.mem_filter]
  exact ⟨by simpa using hi, by simp only [hl]; rfl⟩

theorem left_ready (hb : Back ops) (h : Region.ready .any ops listed = []) (hs : listed.size = ops.size) : ∀ i, i < ops.size → listed.getD i false = true := by
  intro i
  induction i using Nat.strongRecOn with
  | _ i ih =>
    intro hi
    cases hl : listed.getD i false with
    | true => rfl
    | false =>
      exfalso
      have : i ∈ Region.ready .any ops listed := by
        refine mem_ready.2 ⟨?_, ops[i], by simp [hi], fun e he hbe => ?_⟩
        · have : i < listed.size := by omega
          simp [Array.getD_eq_getD_getElem?, this] at hl ⊢
          exact hl
        · have := hb i ops[i] (by simp [hi]) e he hbe
          exact ih e.on this (by omega)
      rw [h] at this
      cases this

theorem any_wp (hP : cx.P = P) (hC : CallOk P cx.call) (hY : YldOk P cx.yld) {ro : Option Nat} {n : Nat} {T : Type} {K : St → Option T} {r : T} {Q : Exit → Act → World → Prop} (tr : Tr cx ops S ran val fin)
    (hK : K (S (orderOf ops).length) = some r) (hQ : ∀ (s : St) (R : Ro) (σ : List Sg) (a : Act) (w : World), K s = some r → At cx.wl B0 w0 R0 σ0 ws n1 s R σ a w → Q .normal a w) :
    ∀ (fuel : Nat) (listed : Array Bool) (a : Act) (w : World) (k : Nat) (R : Ro) (σ : List Sg), DInv cx ops S val B0 w0 R0 σ0 ws n1 listed a w k R σ → left ops listed ≤ fuel → wpAnyIn (Fw ro) n P .any ops Q fuel listed a w := by
  have hback := (regOk_spec tr.ok).1
  have done : ∀ {listed : Array Bool} {a : Act} {w : World} {k : Nat} {R : Ro} {σ : List Sg}, DInv cx ops S val B0 w0 R0 σ0 ws n1 listed a w k R σ → (∀ i, i < ops.size → listed.getD i false = true) → Q .normal a w := by
    intro listed a w k R σ h hall
    have hd : ∀ q o i, (orderOf ops)[q]? = some (o, i) → Dl ops listed q = true := by
      intro q o i hL
      unfold Dl
      rw [hL]
      exact hall i (Array.getElem?_eq_some_iff.1 (Tr.get hL)).1
    have hH : (S (orderOf ops).length).H = (S k).H := by
      refine tr.same h.hi (Nat.le_refl _) (fun m hkm _ o i hL => ⟨?_, ?_⟩)
      · cases he : isEff ops (Region.before ops) i with
        | false => rfl
        | true =>
          have := (h.front m o i hL he).1 (hall i (Array.getElem?_eq_some_iff.1 (Tr.get hL)).1)
          omega
      · cases hh : isHoist ops (Region.before ops) i with
        | false => rfl
        | true => have := h.lo m o i hL hh; omega
    refine hQ _ R σ a w hK ⟨⟨?_, fun t c hc => ?_⟩, by rw [hH]; exact h.stp, h.sz, h.marks⟩
    · have := h.env.1
      rw [X_len] at this
      have h2 := X_line (env0 := (S 0).env) rfl (fun q o i hq => (tr.each q o i hq).2.1) (orderOf ops).length (orderOf ops).length (Nat.le_refl _)
      rw [Nat.min_self] at h2
      rw [this, ← h2, X_len]
    · refine h.env.2 t c ?_
      rw [X_agree (D' := fun q => decide (q < (orderOf ops).length)) _ (fun q hq o i hL _ => by rw [hd q o i hL]; simp [hq]),
        X_line rfl (fun q o i hq => (tr.each q o i hq).2.1) _ _ (Nat.le_refl _), Nat.min_self]
      exact hc
  intro fuel
  induction fuel with
  | zero =>
    intro listed a w k R σ h hf
    have hall : ∀ i, i < ops.size → listed.getD i false = true := by
      intro i hi
      cases hl : listed.getD i false with
      | true => rfl
      | false =>
        have := left_set h.size hi hl
        omega
    refine ⟨?_, done h hall⟩
    cases hr : Region.ready .any ops listed with
    | nil => rfl
    | cons x xs =>
      exfalso
      have hx : x ∈ Region.ready .any ops listed := by rw [hr]; simp
      obtain ⟨h1, o, ho, _⟩ := mem_ready.1 hx
      have hxs := (Array.getElem?_eq_some_iff.1 ho).1
      have := hall x hxs
      have hlt : x < listed.size := by rw [h.size]; exact hxs
      simp [Array.getD_eq_getD_getElem?, hlt] at h1 this
      rw [h1] at this
      cases this
  | succ fuel ih =>
    intro listed a w k R σ h hf
    refine ⟨fun hr => done h (left_ready hback hr h.size), fun i hi => ?_⟩
    refine draw_step hP hC hY tr h hi (fun a' w' k' R' σ' h' => ih _ a' w' k' R' σ' h' ?_)
    obtain ⟨h1, o, ho, _⟩ := mem_ready.1 hi
    have hxs := (Array.getElem?_eq_some_iff.1 ho).1
    have hlt : i < listed.size := by rw [h.size]; exact hxs
    have hl : listed.getD i false = false := by
      simp [Array.getD_eq_getD_getElem?, hlt] at h1 ⊢
      exact h1
    have := left_set h.size hxs hl
    omega

theorem draw_ok {P : Program} (hm : P.follows .mixedOrders = true) : DrawOk P := by
  intro cx hP hC hY T B0 w0 R0 σ0 ws n1 ro n id ops K r Q hQ hok s R σ a w h hA
  refine wpIn_region_any hm ?_
  obtain ⟨S, ran, val, fin, e0, eK, hap, _, _, hall⟩ := opsK_trace (orderOf ops) ([], []) s h
  have tr : Tr cx ops S ran val fin := ⟨hok, hap, fun q o i hq => by rw [e0]; exact hall q o i hq⟩
  have hb : Below w.heap.size w { w with drawn := w.drawn + 1 } := (Below.refl _ w).drew
  have hst : Stp (TB B0) cx.wl B0 w0 R0 σ0 ws R σ (S 0).H { w with drawn := w.drawn + 1 } := by
    rw [e0]; exact hA.stp.trans (hA.stp.inv.stp hb) hA.size
  obtain ⟨τ, st, hho⟩ := prepush tr hst hA.size (hoists ops) (Nat.le_refl _)
  have hff : ∀ i, (Array.replicate ops.size false).getD i false = false := by
    intro i
    by_cases hi : i < ops.size
    · simp [hi]
    · simp [hi]
  have hl0 : left ops (Array.replicate ops.size false) ≤ ops.size := by
    unfold left
    refine Nat.le_trans (List.length_filter_le _ _) ?_
    simp
  refine any_wp hP hC hY tr eK hQ ops.size _ a _ (hoists ops) R (σ ++ τ) ?_ hl0
  refine ⟨by simp, fun i hi => ?_, fun q o i hL he => ?_, fun q o i hL hh => (hoists_iff hL).1 hh, hoists_le, ?_, st, hA.size, hA.marks.keep (fun b x hb' => rfl), ?_, fun q o i hL hh _ => hho q o i ((hoists_iff hL).1 hh) hL⟩
  · rw [hff] at hi; cases hi
  · rw [hff]
    refine ⟨fun h => (by cases h), fun h => ?_⟩
    have := (hoists_iff hL).2 h
    unfold isEff at he
    obtain ⟨⟨t, hal⟩, _⟩ := hoist_alloc (Tr.get hL) this
    rw [kdAt_eq (Tr.get hL), hal] at he
    simp [opKd, this] at he
  · have henv : RelA R (σ ++ τ) s.env a.tmps := hA.env.mono (RoLe.refl R) (Ext.append σ τ)
    refine ⟨by rw [X_len, e0]; exact henv.1, fun t c hc => ?_⟩
    rw [X_agree (D' := fun q => decide (q < 0)) _ (fun q hq o i hL _ => by unfold Dl; rw [hL]; simpa using hff i),
      X_line rfl (fun q o i hq => (tr.each q o i hq).2.1) 0 _ (Nat.le_refl _), Nat.min_zero, e0] at hc
    exact henv.2 t c hc
  · rw [e0, ← hA.stp.inv.len]
    exact hA.stp.ext.length

/-- A function's value is what the abstract evaluator says. -/
theorem ev_sound {P : Program} {M : Mode} (hm : P.follows .mixedOrders = true) (hN : Named P) (hO : OrcOk P M) (k : Nat) : CallOk P (evF P M k) := (ev_ok hN hO (draw_ok hm) k).1

end draw
end Go.Ab
