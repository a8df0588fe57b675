/- Each operation of the model does what the abstract evaluator says. -/
import Derived.Test.YtecgfaaaloameaaAbRel
import Derived.Laws.Append
import Derived.Laws.MakeOwn
import Derived.Laws.CopyRow
import Derived.Laws.Cells
import Derived.Laws.Tables
import Derived.Laws.StructEq
import Derived.Great.BuildSlice
import Derived.ChangeKeysEq
namespace Go.Ab
open Go.RowKit

/-- One step: from what is known to what is known then. T: the blocks that it may touch. -/
structure Stp (T : Nat → Prop) (wl B0 : Nat) (w0 : World) (R : Ro) (σ : List Sg) (w : World) (R' : Ro) (σ' : List Sg) (H' : Hp) (w' : World) : Prop where
  inv : Inv wl B0 w0 R' σ' H' w'
  ext : Ext σ σ'
  le : RoLe R R'
  new : ∀ b o, R' b o ≠ none → R b o ≠ none ∨ T b ∨ w.heap.size ≤ b
  fr : ∀ b, b < w.heap.size → ¬ T b → w'.heap[b]? = w.heap[b]?
  df : ∀ (b : Nat) (ds : Option (List Deferred)), w.heap[b]? = some (Obj.deferred ds) → w'.heap[b]? = w.heap[b]?
  hl : ∀ (id : Nat) (s : Sg), σ[id]? = some s → s.hole = true → σ'[id]? = some s

theorem Stp.refl {T : Nat → Prop} {wl B0 : Nat} {w0 : World} {R : Ro} {σ : List Sg} {H : Hp} {w : World} (h : Inv wl B0 w0 R σ H w) : Stp T wl B0 w0 R σ w R σ H w :=
  ⟨h, Ext.refl σ, RoLe.refl R, fun _ _ h => .inl h, fun _ _ _ => rfl, fun _ _ _ => rfl, fun _ _ h _ => h⟩

theorem Stp.trans {T : Nat → Prop} {wl B0 : Nat} {w0 : World} {R R1 R2 : Ro} {σ σ1 σ2 : List Sg} {H1 H2 : Hp} {w w1 w2 : World}
    (h : Stp T wl B0 w0 R σ w R1 σ1 H1 w1) (k : Stp T wl B0 w0 R1 σ1 w1 R2 σ2 H2 w2) (hs : w.heap.size ≤ w1.heap.size) : Stp T wl B0 w0 R σ w R2 σ2 H2 w2 :=
  ⟨k.inv, h.ext.trans k.ext, h.le.trans k.le, fun b o hb => by
    rcases k.new b o hb with h1 | h1 | h1
    · exact h.new b o h1
    · exact .inr (.inl h1)
    · exact .inr (.inr (by omega)), fun b hb ht => (k.fr b (by omega) ht).trans (h.fr b hb ht), fun b ds hb => (k.df b ds ((h.df b ds hb).trans hb)).trans (h.df b ds hb), fun id s hs hh => k.hl id s (h.hl id s hs hh) hh⟩

section ops
variable {P : Program} {wl B0 : Nat} {w0 : World} {R : Ro} {σ : List Sg} {H : Hp} {w : World}

theorem RelV.lit_inv {v cv : Value} (h : RelV R σ (.lit v) cv) : cv = v := by cases h; rfl

theorem add_plain' (b o j : Nat) : (⟨b, o, none⟩ : Addr).add j = ⟨b, o + j, none⟩ := by unfold Addr.add; split <;> simp_all

theorem constC_rel (v : Value) (h : v.oneCell' = true) : RelV R σ (constC v) v ∧ (constC v).one = true := by
  unfold constC
  split
  · exact ⟨.nil, rfl⟩
  · exact ⟨.lit _, h⟩

theorem constV_rel (v : Value) : RelV R σ (constV v) v := by
  unfold constV
  split
  · split
    · rename_i cs h
      rw [List.all_eq_true] at h
      refine .agg _ cs (by simp) ?_ ?_
      · simp only [onesL, List.all_eq_true, List.mem_map]
        rintro x ⟨y, hy, rfl⟩
        exact (constC_rel (R := R) (σ := σ) y (h y hy)).2
      · intro i c hc
        rw [List.getElem?_map] at hc
        cases hx : cs.toList[i]? with
        | none => rw [hx] at hc; cases hc
        | some x =>
          rw [hx] at hc; cases hc
          have : cs.getD i undef = x := by simp at hx; simp [hx]
          rw [this]
          exact (constC_rel x (h x (List.mem_of_getElem? hx))).1
    · exact .junk _
  · unfold constC
    split
    · exact .nil
    · exact .lit _

theorem evO_rel {env : List V} {a : Act} (hE : RelA R σ env a.tmps) {x : Operand} {v : V} (h : evO env x = some v) : RelV R σ v (a.eval x) := by
  cases x with
  | tmp t => exact hE.2 t v h
  | const c => cases h; exact constV_rel c
  | global g => cases h
  | func f =>
    cases h
    exact .fn (.func f) [] [] #[] #[] rfl rfl (fun i c hc => by simp at hc) (fun i c hc => by simp at hc)

theorem evOs_rel {env : List V} {a : Act} (hE : RelA R σ env a.tmps) : ∀ {xs : List Operand} {vs : List V}, evOs env xs = some vs → RelA R σ vs (xs.map a.eval).toArray
  | [], vs, h => by cases h; exact ⟨rfl, fun i c hc => by simp at hc⟩
  | x :: xs, vs, h => by
    simp only [evOs, Option.bind_eq_some_iff] at h
    obtain ⟨v, hv, l, hl, e⟩ := h
    cases e
    have ih := evOs_rel hE hl
    refine ⟨by have := ih.1; simp at this ⊢; omega, fun i c hc => ?_⟩
    cases i with
    | zero => simp at hc; subst hc; simpa using evO_rel hE hv
    | succ i =>
      have := ih.2 i c (by simpa using hc)
      simpa using this

theorem RelA.get {cs : List V} {vs : Array Value} (h : RelA R σ cs vs) {i : Nat} {c : V} (hc : cs[i]? = some c) : ∃ v, vs[i]? = some v ∧ RelV R σ c v := by
  have hi : i < vs.size := by rw [h.1]; exact (List.getElem?_eq_some_iff.1 hc).1
  exact ⟨vs[i], by simp [hi], by have := h.2 i c hc; simpa [hi] using this⟩

theorem RelA.of_list {cs : List V} {vs : List Value} (hl : vs.length = cs.length) (h : ∀ (i : Nat) (c : V) (v : Value), cs[i]? = some c → vs[i]? = some v → RelV R σ c v) : RelA R σ cs vs.toArray := by
  refine ⟨by simpa using hl, fun i c hc => ?_⟩
  have hi : i < vs.length := by rw [hl]; exact (List.getElem?_eq_some_iff.1 hc).1
  have := h i c vs[i] hc (by simp [hi])
  simpa [hi] using this

/-- The cells of a value. -/
theorem cells_rel {v : V} {cv : Value} (h : RelV R σ v cv) {vs : List V} (hc : v.cells = some vs) : RelA R σ vs cv.cells ∧ onesL vs = true ∧ (∀ x ∈ cv.cells.toList, x.oneCell' = true) := by
  have one (v : V) (cv : Value) (h : RelV R σ v cv) (ho : v.one = true) (hn : ∀ cs, v ≠ .agg cs) : RelA R σ [v] cv.cells ∧ onesL [v] = true ∧ (∀ x ∈ cv.cells.toList, x.oneCell' = true) := by
    have h1 := h.one ho
    have hcs : cv.cells = #[cv] := by cases cv <;> first | rfl | cases h1
    rw [hcs]
    refine ⟨⟨rfl, fun i c hc => ?_⟩, by simp [onesL, ho], by simpa using h1⟩
    cases i with
    | zero => simp at hc; subst hc; exact h
    | succ i => simp at hc
  cases h with
  | agg cs va hl ho hh =>
    simp only [V.cells, Option.some.injEq] at hc
    subst hc
    refine ⟨⟨hl, hh⟩, ho, fun x hx => ?_⟩
    simp only [Value.cells] at hx
    obtain ⟨i, hi⟩ := List.mem_iff_getElem?.1 hx
    have hi2 : i < va.size := by
      have := (List.getElem?_eq_some_iff.1 hi).1
      simpa using this
    have hc' : cs[i]? = some (cs[i]'(by omega)) := by simp [show i < cs.length by omega]
    have hr := hh i _ hc'
    have hx' : va.getD i undef = x := by simp at hi; simp [hi]
    rw [hx'] at hr
    refine hr.one ?_
    rw [onesL, List.all_eq_true] at ho
    exact ho _ (List.mem_of_getElem? hc')
  | tup => simp [V.cells, V.one] at hc
  | junk => simp [V.cells, V.one] at hc
  | lit v => 
    simp only [V.cells] at hc
    split at hc
    · cases hc; exact one _ _ (.lit _) (by assumption) (by simp)
    · cases hc
  | nil => cases hc; exact one _ _ .nil rfl (by simp)
  | any _ h => cases hc; exact one _ _ (.any _ h) rfl (by simp)
  | fn f a b va vb ha hb h1 h2 => cases hc; exact one _ _ (.fn f a b va vb ha hb h1 h2) rfl (by simp)
  | roNil A c => cases hc; exact one _ _ (.roNil A c) rfl (by simp)
  | ro rows b off c esz vals h1 h2 h3 h4 h5 h6 => cases hc; exact one _ _ (.ro rows b off c esz vals h1 h2 h3 h4 h5 h6) rfl (by simp)
  | rp cs b off vals h1 h2 h3 h4 => cases hc; exact one _ _ (.rp cs b off vals h1 h2 h3 h4) rfl (by simp)
  | ptr id g row off p s h1 h2 h3 h4 => cases hc; exact one _ _ (.ptr id g row off p s h1 h2 h3 h4) rfl (by simp)
  | own id g len A l c s h1 h2 h3 h4 => cases hc; exact one _ _ (.own id g len A l c s h1 h2 h3 h4) rfl (by simp)
  | map id r s h1 h2 h3 => cases hc; exact one _ _ (.map id r s h1 h2 h3) rfl (by simp)
  | yld id b s h1 h2 h3 => cases hc; exact one _ _ (.yld id b s h1 h2 h3) rfl (by simp)

/-! ### Numbers -/

theorem litBin_run (op : BinOp) (t : TypeId) {k k' : IntKind} {a b : Int} {r : Value} (h : litBin op (.int k a) (.int k' b) = some r) : (binOp op t (.int k a) (.int k' b)).run P w = .ok r w := by
  have sh (op : BinOp) (hop : op = .shl ∨ op = .shr) (hb : ¬ b < 0) : (binOp op t (.int k a) (.int k' b)).run P w = (Op.shift op k a k' b).run P w := by
    rcases hop with rfl | rfl <;> rfl
  cases op
  case shl =>
    simp only [litBin] at h
    split at h
    · cases h
    · rename_i hb
      cases h
      rw [sh .shl (.inl rfl) hb]
      simp [Op.shift, hb]
  case shr =>
    simp only [litBin] at h
    split at h
    · cases h
    · rename_i hb
      cases h
      rw [sh .shr (.inr rfl) hb]
      simp [Op.shift, hb]
  all_goals
    simp only [litBin] at h
    split at h
    · rename_i hk
      subst hk
      first
      | (cases h; simp only [binOp]; simp [Op.intArith, Op.intBits, Op.intCmp]; done)
      | (split at h
         · cases h
         · rename_i hb; cases h; simp only [binOp]; simp [Op.intDiv, hb]; done)
    · cases h

theorem kindT_some {t : TypeId} {k : IntKind} (h : kindT P t = some k) : P.underlying t = some (.int k) := by
  unfold kindT at h
  split at h
  · rename_i q hq; cases h; exact hq
  · cases h
theorem isBoolT_some {t : TypeId} (h : isBoolT P t = true) : P.underlying t = some .bool := by
  unfold isBoolT at h
  split at h
  · assumption
  · cases h

theorem eqFields_flat (d : Nat) (vx vy : Array Value) : ∀ (fs : List Field) (k : Nat) (xs ys : List V) (r : Bool), eqT P fs k xs ys = some r →
    (∀ (i : Nat) (c : V), xs[i]? = some c → RelV R σ c (vx.getD (k + i) undef) ∧ k + i < vx.size) → (∀ (i : Nat) (c : V), ys[i]? = some c → RelV R σ c (vy.getD (k + i) undef) ∧ k + i < vy.size) →
    (Op.eqFields (d + 1) vx vy fs).run P w = .ok r w := by
  intro fs k xs ys
  induction fs, k, xs, ys using eqT.induct P with
  | case1 => intro r hl hx hy; cases hl; rfl
  | case2 f fs k ka a xs kb b ys hc ih =>
    intro r hl hx hy
    obtain ⟨hname, hoff, hk, rfl⟩ := hc
    obtain ⟨q, hq⟩ := Option.isSome_iff_exists.1 hk
    have hu := kindT_some hq
    simp only [eqT, hname, hoff, hk, ne_eq, not_false_eq_true, and_self, if_true, Option.map_eq_some_iff] at hl
    obtain ⟨s, hs, rfl⟩ := hl
    obtain ⟨hx0, hxs⟩ := hx 0 _ rfl
    obtain ⟨hy0, hys⟩ := hy 0 _ rfl
    rw [Nat.add_zero] at hx0 hxs hy0 hys
    have gx : vx.getD k undef = .int ka a := hx0.lit_inv
    have gy : vy.getD k undef = .int ka b := hy0.lit_inv
    have ex : vx[k]? = some (.int ka a) := by rw [← gx]; simp [hxs]
    have ey : vy[k]? = some (.int ka b) := by rw [← gy]; simp [hys]
    have ih := ih s hs (fun i c hc => by have := hx (i + 1) c (by simpa using hc); rwa [show k + 1 + i = k + (i + 1) by omega])
      (fun i c hc => by have := hy (i + 1) c (by simpa using hc); rwa [show k + 1 + i = k + (i + 1) by omega])
    have agg : (isAgg f.type).run P w = .ok false w := by simp [isAgg, run_underlying hu]
    have px : (part f.type vx f.offset).run P w = .ok (.int ka a) w := by simp only [part, Sem.run_bind, agg, Result.andThen_ok, hoff, ex]; rfl
    have py : (part f.type vy f.offset).run P w = .ok (.int ka b) w := by simp only [part, Sem.run_bind, agg, Result.andThen_ok, hoff, ey]; rfl
    have he := run_equalIn_int (P := P) w d f.type ka q a b hu
    simp only [Op.eqFields, if_pos hname, Sem.run_bind, px, py, he, Result.andThen_ok, Sem.run_ite]
    cases hab : (a == b)
    · simp
    · simp [ih]
  | case3 f fs k ka a xs kb b ys hc => intro r hl; simp [eqT, hc] at hl
  | case4 f fs k a xs b ys hc ih =>
    intro r hl hx hy
    obtain ⟨hname, hoff, hk⟩ := hc
    have hu := isBoolT_some hk
    simp only [eqT, hname, hoff, hk, ne_eq, not_false_eq_true, and_self, if_true, Option.map_eq_some_iff] at hl
    obtain ⟨s, hs, rfl⟩ := hl
    obtain ⟨hx0, hxs⟩ := hx 0 _ rfl
    obtain ⟨hy0, hys⟩ := hy 0 _ rfl
    rw [Nat.add_zero] at hx0 hxs hy0 hys
    have gx : vx.getD k undef = .bool a := hx0.lit_inv
    have gy : vy.getD k undef = .bool b := hy0.lit_inv
    have ex : vx[k]? = some (.bool a) := by rw [← gx]; simp [hxs]
    have ey : vy[k]? = some (.bool b) := by rw [← gy]; simp [hys]
    have ih := ih s hs (fun i c hc => by have := hx (i + 1) c (by simpa using hc); rwa [show k + 1 + i = k + (i + 1) by omega])
      (fun i c hc => by have := hy (i + 1) c (by simpa using hc); rwa [show k + 1 + i = k + (i + 1) by omega])
    have agg : (isAgg f.type).run P w = .ok false w := by simp [isAgg, run_underlying hu]
    have px : (part f.type vx f.offset).run P w = .ok (.bool a) w := by simp only [part, Sem.run_bind, agg, Result.andThen_ok, hoff, ex]; rfl
    have py : (part f.type vy f.offset).run P w = .ok (.bool b) w := by simp only [part, Sem.run_bind, agg, Result.andThen_ok, hoff, ey]; rfl
    have he := run_equalIn_bool (P := P) w d f.type a b hu
    simp only [Op.eqFields, if_pos hname, Sem.run_bind, px, py, he, Result.andThen_ok, Sem.run_ite]
    cases hab : (a == b)
    · simp
    · simp [ih]
  | case5 f fs k a xs b ys hc => intro r hl; simp [eqT, hc] at hl
  | case6 fs k xs ys h1 h2 h3 => intro r hl; rw [eqT.eq_4 _ _ _ _ _ h1 h2 h3] at hl; cases hl

theorem fieldsT_some {t : TypeId} {fs : List Field} (h : fieldsT P t = some fs) : P.underlying t = some (.struct (P.fieldsOf t)) ∧ (P.fieldsOf t).toList = fs := by
  unfold fieldsT at h
  split at h
  · rename_i q hq
    cases h
    simp [Program.fieldsOf, hq]
  · cases h

/-- An operator, its guard and all. -/
theorem vBin_run {op : BinOp} {t u : TypeId} {ox oy : Operand} {ρ : Operand → Value} {x y v : V} (o : Oper) (ho : o.op = .binOp op t ox oy u) (h : vBin P op t x y = some v)
    (hx : RelV R σ x (ρ ox)) (hy : RelV R σ y (ρ oy)) : ∃ cv, (execOp ρ o).run P w = .ok (.value cv) w ∧ RelV R σ v cv := by
  unfold vBin at h
  split at h
  · rename_i k a k' b
    simp only [Option.map_eq_some_iff] at h
    obtain ⟨r, hr, rfl⟩ := h
    generalize hvx : ρ ox = vx at hx
    generalize hvy : ρ oy = vy at hy
    cases hx; cases hy
    refine ⟨r, ?_, .lit r⟩
    have hb := litBin_run (P := P) (w := w) op t hr
    have hg : (eqGuard op t ox oy (.int k a) (.int k' b)).run P w = .ok () w := by
      cases op <;> rfl
    simp only [execOp, ho, hvx, hvy, Sem.run_bind, hg, Result.andThen_ok, hb, Sem.run_pure]
  · rename_i a b
    generalize hvx : ρ ox = vx at hx
    generalize hvy : ρ oy = vy at hy
    cases hx; cases hy
    split at h
    · split at h
      · rename_i hb
        cases h
        refine ⟨_, ?_, .lit _⟩
        have hb := run_eql_bool (P := P) w t a b (isBoolT_some hb)
        have hg : (eqGuard .eql t ox oy (.bool a) (.bool b)).run P w = .ok () w := rfl
        simp only [execOp, ho, hvx, hvy, Sem.run_bind, hg, Result.andThen_ok, hb, Sem.run_pure]
      · cases h
    · split at h
      · rename_i hb
        cases h
        refine ⟨_, ?_, .lit _⟩
        have hb := run_neq_bool (P := P) w t a b (isBoolT_some hb)
        have hg : (eqGuard .neq t ox oy (.bool a) (.bool b)).run P w = .ok () w := rfl
        simp only [execOp, ho, hvx, hvy, Sem.run_bind, hg, Result.andThen_ok, hb, Sem.run_pure]
      · cases h
    · cases h
  · rename_i xs ys
    generalize hvx : ρ ox = vx at hx
    generalize hvy : ρ oy = vy at hy
    cases hx with
    | agg _ ax hlx hox hhx =>
    cases hy with
    | agg _ ay hly hoy hhy =>
    have key : plainT P t = true → ∀ fs, fieldsT P t = some fs → ∀ r, eqT P fs 0 xs ys = some r → ∀ op, (op = .eql ∨ op = .neq) →
        (eqGuard op t ox oy (.agg ax) (.agg ay)).run P w = .ok () w ∧ (Op.equalIn 10000 t (.agg ax) (.agg ay)).run P w = .ok r w := by
      intro hp fs hfs r hr op hop
      simp only [plainT, Bool.and_eq_true, Bool.not_eq_true'] at hp
      obtain ⟨hu, hl⟩ := fieldsT_some hfs
      refine ⟨run_eqGuard_agg w op t ox oy ax ay hp.2, ?_⟩
      rw [run_equalIn_struct w 9999 t ax ay hu hp.1, hl]
      exact eqFields_flat (R := R) (σ := σ) 9998 ax ay fs 0 xs ys r hr
        (fun i c hc => by
          have := hhx i c hc
          rw [Nat.zero_add]
          exact ⟨this, by rw [hlx]; exact (List.getElem?_eq_some_iff.1 hc).1⟩)
        (fun i c hc => by
          have := hhy i c hc
          rw [Nat.zero_add]
          exact ⟨this, by rw [hly]; exact (List.getElem?_eq_some_iff.1 hc).1⟩)
    split at h
    · split at h
      · rename_i hp
        simp only [Option.bind_eq_some_iff, Option.map_eq_some_iff] at h
        obtain ⟨fs, hfs, r, hr, rfl⟩ := h
        obtain ⟨hg, he⟩ := key hp fs hfs r hr .eql (.inl rfl)
        refine ⟨_, ?_, .lit _⟩
        have hb := run_eql_struct (P := P) w t ax ay
        simp only [execOp, ho, hvx, hvy, Sem.run_bind, hg, Result.andThen_ok, hb, he, Sem.run_pure]
      · cases h
    · split at h
      · rename_i hp
        simp only [Option.bind_eq_some_iff, Option.map_eq_some_iff] at h
        obtain ⟨fs, hfs, r, hr, rfl⟩ := h
        obtain ⟨hg, he⟩ := key hp fs hfs r hr .neq (.inr rfl)
        refine ⟨_, ?_, .lit _⟩
        have hb := run_neq_struct (P := P) w t ax ay
        simp only [execOp, ho, hvx, hvy, Sem.run_bind, hg, Result.andThen_ok, hb, he, Sem.run_pure]
      · cases h
    · cases h
  · cases h

end ops
end Go.Ab
