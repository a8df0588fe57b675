/- slices.Clone, by a word of its own: whether its argument is nil is not known to the abstract evaluator, and does not matter. -/
import Derived.Test.YtecgfaaaloameaaAbDraw5
namespace Go.Ab
open Go.RowKit

/-- What a region's operations do, and where they lay it. -/
def shapeOf (r : Array Oper) : List (Option Tmp × Op × Option (Nat × Bool)) := r.toList.map fun o => (o.dst, o.op, o.guard)

theorem shape_cons {o : Option Tmp × Op × Option (Nat × Bool)} {l : List (Option Tmp × Op × Option (Nat × Bool))} {r : List Oper} (h : r.map (fun o => (o.dst, o.op, o.guard)) = o :: l) :
    ∃ x xs, r = x :: xs ∧ x.dst = o.1 ∧ x.op = o.2.1 ∧ x.guard = o.2.2 ∧ xs.map (fun o => (o.dst, o.op, o.guard)) = l := by
  cases r with
  | nil => simp at h
  | cons x xs =>
    simp only [List.map_cons, List.cons.injEq] at h
    obtain ⟨h1, h2⟩ := h
    subst h1
    exact ⟨x, xs, rfl, rfl, rfl, rfl, h2⟩

/-- The body of a function that copies a slice, nil or not: what its four regions do. -/
structure Copies (c : Code) (t : TypeId) : Prop where
  body : ∃ (i0 i1 i2 i3 : Nat) (r0 r1 r2 r3 : Array Oper) (u : TypeId), c = .seq (.region i0 r0 false) (.seq (.seq (.region i1 r1 false) (.cond (.tmp 4) (.seq (.region i2 r2 false) .ret) .skip)) (.seq (.region i3 r3 false) .ret)) ∧
    shapeOf r0 = [(some 2, .assign (.const (.slice none 0 0)), none)] ∧
    shapeOf r1 = [(some 3, .move (.tmp 0), none), (some 4, .binOp .eql t (.tmp 3) (.const (.slice none 0 0)) u, none)] ∧
    shapeOf r2 = [(some 2, .assign (.const (.slice none 0 0)), none)] ∧
    shapeOf r3 = [(some 5, .buildSlice t 0 #[], none), (some 6, .move (.tmp 0), none), (some 7, .call { callee := .builtin .append, args := #[.tmp 5, .tmp 6], argTypes := #[t, t] }, none), (some 2, .assign (.tmp 7), none)]

/-- What it yields: a slice of its own, of the same rows. -/
def cloneO (P : Program) (t : TypeId) (args : List V) (H : Hp) : Option (V × Hp) :=
  match args with
  | [x] =>
    (elemT P t).bind fun e => (zeroOf P e).bind fun z => (rowsOf x H).bind fun rs =>
      if okRows (szOf P e) rs && growT P e && onesL (zeroCs z) && (zeroCs z).length == szOf P e && Nat.ble (rs.length * P.bytesOf e) 70368744177664 then
        some (.own (H.length + 1) 1 rs.length, H ++ [.rows 0 [] 0 true, .rows (szOf P e) rs 1 true])
      else none
  | _ => none

section clone
variable {P : Program} {wl B0 : Nat} {w0 : World} {R R' : Ro} {σ σ' : List Sg} {H : Hp} {w w' : World}

theorem clone_slice {x : V} {rs : List (List V)} {cx : Value} (h : rowsOf x H = some rs) (hx : RelV R σ x cx) : ∃ A l c, cx = .slice A l c := by
  unfold rowsOf at h
  split at h
  · obtain ⟨A, c, e, _⟩ := ro_inv hx; exact ⟨A, _, c, e⟩
  · cases hx; exact ⟨_, _, _, rfl⟩
  · obtain ⟨A, l, c, s, e, _⟩ := own_inv hx; exact ⟨A, l, c, e⟩
  · cases h

theorem clone_none (hI : Inv wl B0 w0 R σ H w) {x : V} {rs : List (List V)} {l c : Nat} (h : rowsOf x H = some rs) (hx : RelV R σ x (.slice none l c)) : rs = [] := by
  unfold rowsOf at h
  split at h
  · cases h
    cases hx
    rfl
  · cases h; rfl
  · rename_i id g len
    split at h
    · rename_i e rs' g' lv hb
      split at h
      · rename_i hc
        obtain ⟨rfl, hlen⟩ := hc
        cases h
        obtain ⟨A, l', c', s, e', hs, hh, hg, hl⟩ := own_inv hx
        obtain ⟨hgen, _, _, _, hnone, hsome⟩ := rows_inv hI hb hs hh
        obtain ⟨rfl, hn, hsm⟩ := hl hgen.symm
        cases hblk : s.blk with
        | none => have := hn hblk; rw [this.1]; simp
        | some b =>
          have := (hsm b hblk).1
          rw [this] at e'
          cases e'
      · cases h
    · cases h
  · cases h

theorem run_eqnil {t e : TypeId} {o : Oper} {ρ : Operand → Value} {ox : Operand} {u : TypeId} {A : Option Addr} {l c : Nat} (ht : P.underlying t = some (.slice e)) (ho : o.op = .binOp .eql t ox (.const (.slice none 0 0)) u)
    (hx : ρ ox = .slice A l c) (hc : ρ (.const (.slice none 0 0)) = .slice none 0 0) : (execOp ρ o).run P w = .ok (.value (.bool A.isNone)) w := by
  obtain ⟨d, hd⟩ : ∃ d, Op.maxDepth = d + 1 := ⟨_, rfl⟩
  simp only [execOp, ho, hx, hc]
  cases A with
  | none => simp [eqGuard, binOp, Op.equal, hd, Op.equalIn, run_underlying ht]
  | some a => simp [eqGuard, binOp, Op.equal, hd, Op.equalIn, run_underlying ht]

theorem wpOps_step {F : Fence} {n : Nat} {ops : Array Oper} {Q : Exit → Act → World → Prop} {i : Nat} {rest : List Nat} {o : Oper} {a : Act} (ho : ops[i]? = some o) (hg : o.guard = none) (h : o.wpIn F n P a w (wpOpsIn F n P ops Q rest) Q) :
    wpOpsIn F n P ops Q (i :: rest) a w := by
  simp only [wpOpsIn, ho, Region.wanted, hg, if_true]
  exact h

theorem rowsOf_push {x : V} {rs : List (List V)} (h : rowsOf x H = some rs) (K : Hp) : rowsOf x (H ++ K) = some rs := by
  unfold rowsOf at h ⊢
  split at h
  · exact h
  · exact h
  · rename_i id g len
    split at h
    · rename_i hb
      rw [List.getElem?_append_left (List.getElem?_eq_some_iff.1 hb).1, hb]
      exact h
    · cases h
  · cases h

theorem clone_calls {fn : Func} {f : FuncId} {t : TypeId} (hm : P.follows .mixedOrders = true) (hf : P.funcs[f]? = some fn) (hbody : ∃ c, fn.body = some c ∧ Copies c t) (hres : fn.results = #[.tmp 2]) (hnt : fn.ntmps = 8)
    {args : List V} {v : V} {H' : Hp} (h : cloneO P t args H = some (v, H')) {cargs : Array Value} (hI : Inv 0 B0 w0 R σ H w) (hA : RelA R σ args cargs) : Calls P f cargs w (Ends 0 B0 w0 R σ w v H') := by
  obtain ⟨c, hb, hcop⟩ := hbody
  obtain ⟨i0, i1, i2, i3, r0, r1, r2, r3, u, rfl, sh0, sh1, sh2, sh3⟩ := hcop.body
  unfold shapeOf at sh0 sh1 sh2 sh3
  obtain ⟨q0, l0, e0, d0, p0, g0, n0⟩ := shape_cons sh0
  obtain ⟨q1, l1, e1, d1, p1, g1, n1⟩ := shape_cons sh1
  obtain ⟨q2, l2, e2, d2, p2, g2, n2⟩ := shape_cons n1
  obtain ⟨q3, l3, e3, d3, p3, g3, n3⟩ := shape_cons sh2
  obtain ⟨q4, l4, e4, d4, p4, g4, n4⟩ := shape_cons sh3
  obtain ⟨q5, l5, e5, d5, p5, g5, n5⟩ := shape_cons n4
  obtain ⟨q6, l6, e6, d6, p6, g6, n6⟩ := shape_cons n5
  obtain ⟨q7, l7, e7, d7, p7, g7, n7⟩ := shape_cons n6
  simp only at d0 p0 g0 d1 p1 g1 d2 p2 g2 d3 p3 g3 d4 p4 g4 d5 p5 g5 d6 p6 g6 d7 p7 g7
  have hl0 : l0 = [] := by simpa using n0
  have hl2 : l2 = [] := by simpa using n2
  have hl3 : l3 = [] := by simpa using n3
  have hl7 : l7 = [] := by simpa using n7
  subst hl0 hl2 hl3 hl7 e2 e5 e6 e7
  have a0' : r0 = #[q0] := by apply Array.ext'; simpa using e0
  have a1' : r1 = #[q1, q2] := by apply Array.ext'; simpa using e1
  have a2' : r2 = #[q3] := by apply Array.ext'; simpa using e3
  have a3' : r3 = #[q4, q5, q6, q7] := by apply Array.ext'; simpa using e4
  subst a0' a1' a2' a3'
  clear sh0 sh1 sh2 sh3 e0 e1 e3 e4 n0 n1 n2 n3 n4 n5 n6 n7 hcop
  unfold cloneO at h
  split at h
  · rename_i x
    simp only [Option.bind_eq_some_iff] at h
    obtain ⟨e, he, z, hz, rs, hrs, h⟩ := h
    split at h
    · rename_i hc
      simp only [Bool.and_eq_true, beq_iff_eq] at hc
      obtain ⟨⟨⟨⟨hok, hgr⟩, hzo⟩, hzl⟩, hbig⟩ := hc
      have hbig : rs.length * P.bytesOf e ≤ 70368744177664 := Nat.le_of_ble_eq_true hbig
      cases h
      have hte := elemT_some he
      have hsz : szOf P e ≠ 0 := (growT_some hgr).choose_spec.choose_spec.2.2.2.2.2.1
      obtain ⟨cv, l, hl, hx, hnil⟩ := hA.uncons
      have hl0 : l = [] := by simpa using hnil.nil_inv
      subst hl0
      subst hl
      obtain ⟨A, len, cap, hcv⟩ := clone_slice hrs hx
      subst hcv
      let cx : Cx := { P, M := ⟨fun _ => none, fun _ _ => none, fun _ => false, fun _ => 0⟩, fid := f, round := false, wl := 0, call := fun _ _ _ _ => none, yld := fun _ _ _ _ => none, n := 0 }
      have hC : CallOk P cx.call := fun _ _ _ _ _ _ h => by cases h
      have hY : YldOk P cx.yld := fun _ _ _ _ _ _ h => by cases h
      have hD : DrawOk P := draw_ok hm
      let T := V × Hp
      let K : Out → St → Option T := fun o s => match o with | .ret => (s.env[2]?).map fun v => (v, s.H) | _ => none
      let r : T := (.own (H.length + 1) 1 rs.length, H ++ [.rows 0 [] 0 true, .rows (szOf P e) rs 1 true])
      -- the start
      let env0 : List V := [x] ++ List.replicate 7 (.lit undef)
      let a0 : Act := { tmps := #[.slice A len cap] ++ Array.replicate 7 undef, defers := [] }
      have hA0 : At 0 B0 w0 R σ w w.heap.size ⟨env0, H⟩ R σ a0 w := ⟨append_rel (hx.cons (RelA.nil R σ)) (replicate_rel R σ 7 undef), Stp.refl hI, Nat.le_refl _, trivial⟩
      refine callsIn_wide (n := 0).1 (callsIn_of_wp_marks (F := Fw none) hf hb trivial ?_)
      have htm : (#[Value.slice A len cap] ++ Array.replicate (fn.ntmps - (#[Value.slice A len cap] : Array Value).size) undef) = a0.tmps := by rw [hnt]; rfl
      rw [htm]
      -- the end
      have fin : ∀ (s : St) (R' : Ro) (σ' : List Sg) (a : Act) (w' : World), At 0 B0 w0 R σ w w.heap.size s R' σ' a w' → s.H = r.2 → s.env[2]? = some r.1 → LeavesInM (Fw none) 0 P fn a.tmps (Ends 0 B0 w0 R σ w r.1 r.2) a.defers .returning w' := by
        intro s R' σ' a w' hAt hH hv
        have := hAt.stp
        rw [hH] at this
        refine leaves_run (env := s.env) (H := r.2) ?_ hAt.env (Nat.le_refl _) hI.base (fun cv w'' st r hs => ⟨R', σ', st, r, hs⟩) a.defers w' hAt.marks this hAt.size
        rw [hres]
        simp [resultsV, resVs, resV, hv]
      have r0 := (execK_wp (P := P) (cx := cx) (T := St) rfl hC hY hD (ro := none) (fun _ => rfl) (n := 0) (r := ⟨env0.set 2 (.own H.length 0 0), H ++ [.rows 0 [] 0 true]⟩) (Nat.le_refl _) (.region i0 #[q0] false)).1
        (fun o s => match o with | .norm => some s | _ => none) ⟨env0, H⟩ R σ a0 w (by simp [execK, opsK, Rg.none, strictOk, opV, d0, p0, g0, env0, putE, evO, constV, constC]) hA0
      refine wpIn_seq (Go.wpIn_mono r0 ?_)
      rintro e1 a1 w1 ⟨o1, s1, R1, σ1, rfl, hk1, hA1⟩
      cases o1 with
      | exit => cases hk1
      | goto => cases hk1
      | ret => cases hk1
      | norm =>
        cases hk1
        refine wpIn_seq (wpIn_seq (wpIn_region ?_))
        refine wpOps_step (o := q1) rfl g1 ?_
        refine op_wp (cx := cx) (calm := false) (ord := true) (env := env0.set 2 (.own H.length 0 0)) (H := H ++ [.rows 0 [] 0 true]) (v := x) (H' := H ++ [.rows 0 [] 0 true]) rfl rfl hC hY hA1.stp.inv hA1.env (by simp [p1, opV, evO, env0]) (fun cv w2 R2 σ2 st2 hv2 hs2 => ?_)
        have hA2 := hA1.op (some 3) st2 hv2 hs2
        obtain ⟨A', l', c', hcv⟩ := clone_slice hrs hv2
        subst hcv
        rw [d1]
        change wpOpsIn (Fw none) 0 P #[q1, q2] _ [1] (a1.put (some 3) (.slice A' l' c')) w2
        refine wpOps_step (o := q2) rfl g2 ?_
        refine ⟨fun _ _ => trivial, ?_⟩
        have h3 : (a1.put (some 3) (.slice A' l' c')).eval (.tmp 3) = .slice A' l' c' := by
          have hsz3 : 3 < a1.tmps.size := by
            have := hA1.env.1
            simp [env0] at this
            omega
          simp [Act.put, Act.eval, hsz3]
        have hrun := run_eqnil (P := P) (w := w2) (o := q2) (ox := .tmp 3) hte p2 h3 rfl
        rw [Oper.semAt_eq _ _ _ (fun c hc => by rw [p2] at hc; cases hc), hrun, Oper.uponIn_value, d2]
        have hA3 := hA2.op (some 4) (Stp.refl hA2.stp.inv) (.lit (.bool A'.isNone)) (Nat.le_refl _)
        have h4 := (hA3.env.2 4 (.lit (.bool A'.isNone)) rfl).lit_inv
        have hH3 : rowsOf x (H ++ [B.rows 0 [] 0 true]) = some rs := rowsOf_push hrs _
        refine wpIn_cond h4 ?_
        cases hA' : A' with
        | none =>
          -- nil
          subst hA'
          have hrs0 := clone_none hA3.stp.inv hH3 hv2
          refine wpIn_seq (wpIn_region ?_)
          refine wpOps_step (o := q3) rfl g3 ?_
          refine ⟨fun _ _ => trivial, ?_⟩
          have hrun2 : (execOp ((a1.put (some 3) (.slice none l' c')).put (some 4) (.bool true)).eval q3).run P w2 = .ok (.value (.slice none 0 0)) w2 := by simp only [execOp, p3, Sem.run_pure]; rfl
          rw [Oper.semAt_eq _ _ _ (fun c hc => by rw [p3] at hc; cases hc)]
          erw [hrun2]
          rw [Oper.uponIn_value, d3]
          refine wpIn_ret ?_
          let s' : Sg := ⟨none, 1, szOf P e, 0, false⟩
          have hp := hA3.stp.inv.push_stp (T := TB B0) (b := .rows (szOf P e) [] 1 true) (s := s') (Below.refl _ _) (fun k hk => by cases hk) ⟨rfl, rfl, fun h => absurd rfl h, fun r hr => by simp at hr, rfl⟩
          have hA4 := hA3.op (cv := .slice none 0 0) (v := .own (H.length + 1) 1 0) (some 2) hp (.own _ _ _ _ _ _ s' (by
            have := hA3.stp.inv.len
            simp at this
            rw [List.getElem?_append_right (by omega)]
            simp [this]) rfl (Nat.le_refl _) (fun _ => ⟨rfl, fun _ => ⟨rfl, rfl⟩, fun b hb => by cases hb⟩)) (Nat.le_refl _)
          refine fin _ _ _ _ _ hA4 ?_ ?_
          · show (H ++ [B.rows 0 [] 0 true]) ++ [B.rows (szOf P e) [] 1 true] = H ++ [.rows 0 [] 0 true, .rows (szOf P e) rs 1 true]
            rw [hrs0]; simp
          · show _ = some (V.own (H.length + 1) 1 rs.length)
            rw [hrs0]
            rfl
        | some ad =>
          -- not nil
          subst hA'
          refine wpIn_skip ?_
          have hcomp : execK cx (.seq (.region i3 #[q4, q5, q6, q7] false) .ret) none K ⟨putE (putE (env0.set 2 (.own H.length 0 0)) (some 3) x) (some 4) (.lit (.bool false)), H ++ [.rows 0 [] 0 true]⟩ = some r := by
            simp only [execK, Bool.false_eq_true, if_false]
            simp [opsK, Rg.none, strictOk, opV, d4, p4, g4, d5, p5, g5, d6, p6, g6, d7, p7, g7, mapO, vBuildSlice, he, hz, hsz, hzo, hzl, fillR, putE, env0, evO, evOs, bltV, vAppend,  rowsOf_push hrs, hok, hgr, hbig, cx, K, r]
          have hw := (execK_wp (P := P) (cx := cx) (T := T) rfl hC hY hD (ro := none) (fun _ => rfl) (n := 0) (r := r) (Nat.le_refl _) (.seq (.region i3 #[q4, q5, q6, q7] false) .ret)).1 K _ _ _ _ _ hcomp hA3
          refine Go.wpIn_mono hw ?_
          rintro e5 a5 w5 ⟨o5, s5, R5, σ5, rfl, hk5, hA5⟩
          cases o5 with
          | norm => cases hk5
          | exit => cases hk5
          | goto => cases hk5
          | ret =>
            simp only [K, Option.map_eq_some_iff] at hk5
            obtain ⟨v5, hv5, e5⟩ := hk5
            exact fin s5 R5 σ5 a5 w5 hA5 (by rw [← e5]) (by rw [← e5]; exact hv5)
    · cases h
  · cases h

end clone
end Go.Ab
