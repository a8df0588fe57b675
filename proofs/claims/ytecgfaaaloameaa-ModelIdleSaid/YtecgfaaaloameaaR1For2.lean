import Derived.Test.YtecgfaaaloameaaR1For1
set_option maxRecDepth 100000
set_option linter.unusedSimpArgs false
set_option linter.unusedVariables false
namespace Go.Ab
open Go.Proofs

/-- All tasks' kids, with who has them. -/
def kidsAt : Nat → List (Int × List Int) → List (Int × Int)
  | _, [] => []
  | i, x :: r => x.2.map (fun k => (k, (i : Int))) ++ kidsAt (i + 1) r
def kE (x : Int × List Int) : Hp := [.rows 0 [] 0 true, .box (taskV x)]

theorem runS_append {σ α : Type} (step : σ → α → Bool × σ) : ∀ (a b : List α) (s : σ), runS step (a ++ b) s = if (runS step a s).1 then runS step b (runS step a s).2 else runS step a s
  | [], b, s => rfl
  | x :: a, b, s => by
    simp -implicitDefEqProofs only [List.cons_append, runS]
    by_cases h : (step s x).1 = true
    · simp -implicitDefEqProofs only [h, if_true]
      exact runS_append step a b (step s x).2
    · simp [h]

section
variable {σ : Type} (k : Nat) (Hs : Bool → σ → Hp) (n : Nat) (t : List (Int × List Int)) (b l : Nat) (step : σ → Int × Int → Bool × σ)

/-- What is to be known of who is handed on to. -/
structure KidsOk : Prop where
  hn : ∀ f s, (Hs f s).length = n
  hc : ∀ s, cutH n (Hs true s) = Hs true s
  hcE : ∀ s x, cutH n (Hs true s ++ kE x) = Hs true s
  hc2 : ∀ s x, cutH (n + 2) (Hs true s ++ kE x) = Hs true s ++ kE x
  hb : b < n
  hl : l < n
  hbx : ∀ s, (Hs true s)[b]? = some (.box [tasksV t])
  hy : ∀ s x q (i : Nat), x ∈ t → q ∈ x.2 → i < t.length → evY Try.prog xM k 0 l [.lit (.int .i64 q), .lit (.int .i64 (i : Int))] (Hs true s ++ kE x) = some (.lit (.bool (step s (q, (i : Int))).1), Hs (step s (q, (i : Int))).1 (step s (q, (i : Int))).2 ++ kE x)
  hlen : t.length ≤ 9223372036854775807
  hlen2 : ∀ x ∈ t, x.2.length ≤ 9223372036854775807
  hk : 9223372036854775808 ≤ k
variable {k Hs n t b l step}

theorem kids_alloc (H : Hp) : opAlloc (xS k).P 40 H = some (.ptr (H.length + 1) 0 0 0, H ++ [.rows 0 [] 0 true, .box [.lit (.int .i64 0), .own H.length 0 0]]) := by
  rw [xal40]
  simp [matL]
theorem kids_store (H : Hp) (x : Int × List Int) : vStore (xS k).P 0 40 (.ptr (H.length + 1) 0 0 0) (.agg (taskV x)) (H ++ [.rows 0 [] 0 true, .box [.lit (.int .i64 0), .own H.length 0 0]]) = some (H ++ kE x) := by
  have h1 : (H ++ [B.rows 0 [] 0 true, .box [.lit (.int .i64 0), .own H.length 0 0]])[H.length + 1]? = some (.box [.lit (.int .i64 0), .own H.length 0 0]) := by simp
  have h2 : (H ++ [B.rows 0 [] 0 true, .box [.lit (.int .i64 0), .own H.length 0 0]]).set (H.length + 1) (.box (taskV x)) = H ++ kE x := by simp [kE]
  rw [vStore_ptr]
  simp -implicitDefEqProofs only [cells_agg, Option.bind_some, h1, stBk, xsz40]
  simp -implicitDefEqProofs only [taskV_eq, List.length_cons, List.length_nil, matL, spl, List.set_cons_zero, List.set_cons_succ, Nat.zero_add]
  simp -implicitDefEqProofs only [taskV_eq] at h2
  simp [h2, ble0]
theorem kids_field (H : Hp) (x : Int × List Int) : vLoad (xS k).P 23 (.ptr (H.length + 1) 0 0 1) (H ++ kE x) = some (.ro (x.2.map (intR .i64))) := by
  rw [vLoad_ptr]
  have h1 : (H ++ kE x)[H.length + 1]? = some (.box (taskV x)) := by simp [kE]
  rw [h1, ldB_box, taskV_eq]
  simp -implicitDefEqProofs only [nextK_ret, resO_1, resO_2, resO_3, ↓bm_some, ↓bm_none, ↓bp_some, ↓bp_none, ↓bs_some, ↓bs_none, bm_map, bm_bind, bp_map, bp_bind, bs_map, bs_bind, bm_bif, bp_bif, bs_bif, ↓cnd_b, ↓gd_b, ↓gd_u, ↓ck_true, ↓ck_false, ↓ob_some, ↓ob_none, vBin_add, vBin_sub, vBin_mul, vBin_eql, vBin_neq, vBin_lss, vBin_leq, vBin_gtr, vBin_geq, vBin_quo, vBin_rem, vBin_beql, vBin_bneq, vUn_not, vUn_neg, vPick_b, vExtract_0, vExtract_1, vExtract_2, vLoad_rp, vLoad_ptr, ldB_box, ldB_rows, vStore_ptr, stBk, ixB_rows, vLen_ro, vLen_nil, vLen_own, lnB_rows, opBox_int, opBox_bool, opBox_ro, opBox_agg, matL_nil, matL_lit, matL_ro, matL_own, matL_ptr, matL_fn, matL_none, cells_int, cells_bool, cells_ro, cells_own, cells_ptr, cells_fn, cells_nil, cells_agg, vNil_ptr, vNil_fn, vNil_rp, V.kill, killL, spl, V.shift, shiftL, V.scal, scalL, intsV_eq, intR, boolR, taskV_eq, threeV, tasksV, threesV, List.map_nil, List.map_cons, List.length_map, List.length_cons, List.length_nil, List.drop_succ_cons, List.drop_zero, List.take_succ_cons, List.take_zero, List.set_cons_zero, List.set_cons_succ, List.nil_append, List.cons_append, List.append_nil, List.getElem?_cons_zero, List.getElem?_cons_succ, List.take_nil, Option.map_some, Option.map_none, Option.bind_some, Option.bind_none, ↓cond_true, ↓cond_false, Nat.reduceAdd, Nat.reduceSub, Nat.reduceMul, Nat.reduceLT, Nat.reduceLeDiff, Nat.reduceEqDiff, Nat.reduceBEq, Nat.reduceBNe, Int.reduceBEq, Int.reduceBNe, Int.reduceLT, Int.reduceLE, Int.reduceAdd, Int.reduceSub, Int.reduceNeg, ble0, Nat.zero_add, Nat.add_zero, Bool.and_true, Bool.true_and, Bool.and_false, Bool.false_and, Bool.or_true, Bool.or_false, Bool.true_or, Bool.false_or, Bool.not_true, Bool.not_false, beq_self_eq_true, bne_self_eq_false, decide_true, decide_false, if_true, if_false, Bool.false_eq_true, setR_bool, setR_int, repR_bool, repR_int, getR_map, fzL_nil, fzL_lit, fzL_ro, fzL_none, xld3, xsz3, xld4, xsz4, xld22, xsz22, xld23, xsz23, xld25, xsz25, xld27, xsz27, xld40, xsz40, xld49, xsz49, xld55, xsz55, xld67, xsz67, xld74, xsz74, xld87, xsz87, xal3, xal4, xal25, xal40, xal49, xal55, xal67, xal74, xal87, xfa25_0, xfp25_0, xfa25_1, xfp25_1, xfa25_2, xfp25_2, xfa40_0, xfp40_0, xfa40_1, xfp40_1, xfa49_0, xfp49_0, xfa55_0, xfp55_0, xfa55_1, xfp55_1, xfa55_2, xfp55_2, xfa67_0, xfp67_0, xfa67_1, xfp67_1, xfa67_2, xfp67_2, xfv49_0, xix22, xio22, xix23, xio23, xix26, xio26, xix43, xio43, xix87, xio87, xlen22, xlen23, xlen26, xlen43, xap22_22, xao22_22, xan22_22, xap23_23, xao23_23, xan23_23, xap26_26, xao26_26, xan26_26, xap43_43, xao43_43, xan43_43, xsh26, xsl26, xsb26, xsh43, xsl43, xsb43, xmk23, xmk87, xbo4]

theorem lp_kids1 (ok : KidsOk k Hs n t b l step) (x : Int × List Int) (hx : x ∈ t) (i : Nat) (hi : i < t.length) (rest : List (Int × Int)) (m0 : Nat)
    (hout : ∀ s (t2 t3 t4 t5 t6 t10 t11 t12 t13 t14 t15 t16 t17 t18 t19 t20 t21 t22 t23 t24 t25 t26 t27 : V), ∃ E, itX (xX (xS k) 93 0 k false) xl93_0 n (runK (xX (xS k) 93 0 k false) (bodyK (xS k).P Try.f93) xk93_0) m0
      ⟨[.yld l, .ptr b 0 0 0, t2, t3, t4, t5, t6, tasksV t, .lit (.int .i64 t.length), .lit (.int .i64 ((i + 1 : Nat) : Int)), t10, t11, t12, t13, t14, t15, t16, t17, t18, t19, t20, t21, t22, t23, t24, t25, t26, t27], Hs true s⟩ = some (.tup [], Hs (runS step rest s).1 (runS step rest s).2 ++ E)) :
    ∀ r j m s (t2 t5 t6 t10 t11 t12 t13 t14 t18 t19 t20 t21 t22 t23 t24 t25 t26 t27 : V), x.2.drop j = r → r.length < m →
    ∃ E, itX (xX (xS k) 93 0 k false) xl93_1 (n + 2) (runK (xX (xS k) 93 0 k false) (nextK (xX (xS k) 93 0 k false) xl93_0 n (runK (xX (xS k) 93 0 k false) (bodyK (xS k).P Try.f93) xk93_0) m0) xk93_1) m
      ⟨[.yld l, .ptr b 0 0 0, t2, .lit (.int .i64 (i : Int)), .ptr (n + 1) 0 0 0, t5, t6, tasksV t, .lit (.int .i64 t.length), .lit (.int .i64 (i : Int)), t10, t11, t12, t13, t14, .ro (x.2.map (intR .i64)), .lit (.int .i64 x.2.length), .lit (.int .i64 (j : Int)), t18, t19, t20, t21, t22, t23, t24, t25, t26, t27], Hs true s ++ kE x⟩ =
      some (.tup [], Hs (runS step (r.map (fun q => (q, (i : Int))) ++ rest) s).1 (runS step (r.map (fun q => (q, (i : Int))) ++ rest) s).2 ++ E) := by
  intro r
  induction r with
  | nil =>
    intro j m s t2 t5 t6 t10 t11 t12 t13 t14 t18 t19 t20 t21 t22 t23 t24 t25 t26 t27 hr hm
    obtain ⟨m, rfl⟩ := fuel hm
    have hl1 := ok.hl
    have hb1 := ok.hb
    simp -implicitDefEqProofs only [nextK_ret, resO_1, resO_2, resO_3, ↓bm_some, ↓bm_none, ↓bp_some, ↓bp_none, ↓bs_some, ↓bs_none, bm_map, bm_bind, bp_map, bp_bind, bs_map, bs_bind, bm_bif, bp_bif, bs_bif, ↓cnd_b, ↓gd_b, ↓gd_u, ↓ck_true, ↓ck_false, ↓ob_some, ↓ob_none, vBin_add, vBin_sub, vBin_mul, vBin_eql, vBin_neq, vBin_lss, vBin_leq, vBin_gtr, vBin_geq, vBin_quo, vBin_rem, vBin_beql, vBin_bneq, vUn_not, vUn_neg, vPick_b, vExtract_0, vExtract_1, vExtract_2, vLoad_rp, vLoad_ptr, ldB_box, ldB_rows, vStore_ptr, stBk, ixB_rows, vLen_ro, vLen_nil, vLen_own, lnB_rows, opBox_int, opBox_bool, opBox_ro, opBox_agg, matL_nil, matL_lit, matL_ro, matL_own, matL_ptr, matL_fn, matL_none, cells_int, cells_bool, cells_ro, cells_own, cells_ptr, cells_fn, cells_nil, cells_agg, vNil_ptr, vNil_fn, vNil_rp, V.kill, killL, spl, V.shift, shiftL, V.scal, scalL, intsV_eq, intR, boolR, taskV_eq, threeV, tasksV, threesV, List.map_nil, List.map_cons, List.length_map, List.length_cons, List.length_nil, List.drop_succ_cons, List.drop_zero, List.take_succ_cons, List.take_zero, List.set_cons_zero, List.set_cons_succ, List.nil_append, List.cons_append, List.append_nil, List.getElem?_cons_zero, List.getElem?_cons_succ, List.take_nil, Option.map_some, Option.map_none, Option.bind_some, Option.bind_none, ↓cond_true, ↓cond_false, Nat.reduceAdd, Nat.reduceSub, Nat.reduceMul, Nat.reduceLT, Nat.reduceLeDiff, Nat.reduceEqDiff, Nat.reduceBEq, Nat.reduceBNe, Int.reduceBEq, Int.reduceBNe, Int.reduceLT, Int.reduceLE, Int.reduceAdd, Int.reduceSub, Int.reduceNeg, ble0, Nat.zero_add, Nat.add_zero, Bool.and_true, Bool.true_and, Bool.and_false, Bool.false_and, Bool.or_true, Bool.or_false, Bool.true_or, Bool.false_or, Bool.not_true, Bool.not_false, beq_self_eq_true, bne_self_eq_false, decide_true, decide_false, if_true, if_false, Bool.false_eq_true, setR_bool, setR_int, repR_bool, repR_int, getR_map, fzL_nil, fzL_lit, fzL_ro, fzL_none, xld3, xsz3, xld4, xsz4, xld22, xsz22, xld23, xsz23, xld25, xsz25, xld27, xsz27, xld40, xsz40, xld49, xsz49, xld55, xsz55, xld67, xsz67, xld74, xsz74, xld87, xsz87, xal3, xal4, xal25, xal40, xal49, xal55, xal67, xal74, xal87, xfa25_0, xfp25_0, xfa25_1, xfp25_1, xfa25_2, xfp25_2, xfa40_0, xfp40_0, xfa40_1, xfp40_1, xfa49_0, xfp49_0, xfa55_0, xfp55_0, xfa55_1, xfp55_1, xfa55_2, xfp55_2, xfa67_0, xfp67_0, xfa67_1, xfp67_1, xfa67_2, xfp67_2, xfv49_0, xix22, xio22, xix23, xio23, xix26, xio26, xix43, xio43, xix87, xio87, xlen22, xlen23, xlen26, xlen43, xap22_22, xao22_22, xan22_22, xap23_23, xao23_23, xan23_23, xap26_26, xao26_26, xan26_26, xap43_43, xao43_43, xan43_43, xsh26, xsl26, xsb26, xsh43, xsl43, xsb43, xmk23, xmk87, xbo4, xb93, xz93, xr93_0, xj93_0, xr93_1, xj93_1, xk93_0_ret, xk93_1_ret, ok.hc2, ok.hcE, ok.hc, ltF (show ((x.2.length : Nat) : Int) ≤ j by have := drop_nil hr; omega), wrapS (show i ≤ _ by have := ok.hlen; omega), show l < n + 2 by omega, show b < n + 2 by omega, show n + 1 < n + 2 by omega, ok.hl, ok.hb, show ¬ n + 1 < n by omega]
    have ho := hout s
    simp -implicitDefEqProofs only [tasksV] at ho
    exact ho ..
  | cons q r ih =>
    intro j m s t2 t5 t6 t10 t11 t12 t13 t14 t18 t19 t20 t21 t22 t23 t24 t25 t26 t27 hr hm
    obtain ⟨m, rfl⟩ := fuel hm
    obtain ⟨h1, h2, h3, h4, h5⟩ := drop_cons hr
    have hlen := ok.hlen2 x hx
    have hl1 := ok.hl
    have hb1 := ok.hb
    simp -implicitDefEqProofs only [List.length_cons] at hm
    have hy : (xX (xS k) 93 0 k false).yld (xX (xS k) 93 0 k false).wl l [.lit (.int .i64 q), .lit (.int .i64 (i : Int))] (Hs true s ++ kE x) = _ := ok.hy s x q i hx h4 hi
    have hns : ∀ (v : V) (f : Bool) (s s' : σ), noShorter (Hs true s ++ kE x) (v, Hs f s' ++ kE x) = some (v, Hs f s' ++ kE x) := fun v f s s' => by simp [noShorter, ok.hn]
    simp -implicitDefEqProofs only [nextK_ret, resO_1, resO_2, resO_3, ↓bm_some, ↓bm_none, ↓bp_some, ↓bp_none, ↓bs_some, ↓bs_none, bm_map, bm_bind, bp_map, bp_bind, bs_map, bs_bind, bm_bif, bp_bif, bs_bif, ↓cnd_b, ↓gd_b, ↓gd_u, ↓ck_true, ↓ck_false, ↓ob_some, ↓ob_none, vBin_add, vBin_sub, vBin_mul, vBin_eql, vBin_neq, vBin_lss, vBin_leq, vBin_gtr, vBin_geq, vBin_quo, vBin_rem, vBin_beql, vBin_bneq, vUn_not, vUn_neg, vPick_b, vExtract_0, vExtract_1, vExtract_2, vLoad_rp, vLoad_ptr, ldB_box, ldB_rows, vStore_ptr, stBk, ixB_rows, vLen_ro, vLen_nil, vLen_own, lnB_rows, opBox_int, opBox_bool, opBox_ro, opBox_agg, matL_nil, matL_lit, matL_ro, matL_own, matL_ptr, matL_fn, matL_none, cells_int, cells_bool, cells_ro, cells_own, cells_ptr, cells_fn, cells_nil, cells_agg, vNil_ptr, vNil_fn, vNil_rp, V.kill, killL, spl, V.shift, shiftL, V.scal, scalL, intsV_eq, intR, boolR, taskV_eq, threeV, tasksV, threesV, List.map_nil, List.map_cons, List.length_map, List.length_cons, List.length_nil, List.drop_succ_cons, List.drop_zero, List.take_succ_cons, List.take_zero, List.set_cons_zero, List.set_cons_succ, List.nil_append, List.cons_append, List.append_nil, List.getElem?_cons_zero, List.getElem?_cons_succ, List.take_nil, Option.map_some, Option.map_none, Option.bind_some, Option.bind_none, ↓cond_true, ↓cond_false, Nat.reduceAdd, Nat.reduceSub, Nat.reduceMul, Nat.reduceLT, Nat.reduceLeDiff, Nat.reduceEqDiff, Nat.reduceBEq, Nat.reduceBNe, Int.reduceBEq, Int.reduceBNe, Int.reduceLT, Int.reduceLE, Int.reduceAdd, Int.reduceSub, Int.reduceNeg, ble0, Nat.zero_add, Nat.add_zero, Bool.and_true, Bool.true_and, Bool.and_false, Bool.false_and, Bool.or_true, Bool.or_false, Bool.true_or, Bool.false_or, Bool.not_true, Bool.not_false, beq_self_eq_true, bne_self_eq_false, decide_true, decide_false, if_true, if_false, Bool.false_eq_true, setR_bool, setR_int, repR_bool, repR_int, getR_map, fzL_nil, fzL_lit, fzL_ro, fzL_none, xld3, xsz3, xld4, xsz4, xld22, xsz22, xld23, xsz23, xld25, xsz25, xld27, xsz27, xld40, xsz40, xld49, xsz49, xld55, xsz55, xld67, xsz67, xld74, xsz74, xld87, xsz87, xal3, xal4, xal25, xal40, xal49, xal55, xal67, xal74, xal87, xfa25_0, xfp25_0, xfa25_1, xfp25_1, xfa25_2, xfp25_2, xfa40_0, xfp40_0, xfa40_1, xfp40_1, xfa49_0, xfp49_0, xfa55_0, xfp55_0, xfa55_1, xfp55_1, xfa55_2, xfp55_2, xfa67_0, xfp67_0, xfa67_1, xfp67_1, xfa67_2, xfp67_2, xfv49_0, xix22, xio22, xix23, xio23, xix26, xio26, xix43, xio43, xix87, xio87, xlen22, xlen23, xlen26, xlen43, xap22_22, xao22_22, xan22_22, xap23_23, xao23_23, xan23_23, xap26_26, xao26_26, xan26_26, xap43_43, xao43_43, xan43_43, xsh26, xsl26, xsb26, xsh43, xsl43, xsb43, xmk23, xmk87, xbo4, xb93, xz93, xr93_0, xj93_0, xr93_1, xj93_1, xk93_0_ret, xk93_1_ret, ok.hc2, ok.hcE, ltT (show (j : Int) < (x.2.length : Nat) by omega), idx_of h2, wrapS (show j ≤ _ by omega), callV_yld, dataL, V.data, hy, hns, List.map_cons, List.cons_append, runS, show l < n + 2 by omega, show b < n + 2 by omega, show n + 1 < n + 2 by omega]
    cases hs : (step s (q, (i : Int))).1 with
    | false =>
      simp -implicitDefEqProofs only [Bool.not_false, cond_true, Bool.false_eq_true, if_false, nextK_ret, xb93, xz93, xr93_0, xj93_0, xr93_1, xj93_1, xk93_0_ret, xk93_1_ret]
      exact ⟨kE x, by rw [hs]⟩
    | true =>
      simp -implicitDefEqProofs only [Bool.not_true, cond_false, if_true, ok.hc2]
      have hi' := ih (j + 1) m (step s (q, (i : Int))).2
      simp -implicitDefEqProofs only [tasksV] at hi'
      exact hi' _ _ _ _ _ _ _ _ _ _ _ _ _ _ _ _ _ _ h3 (by omega)

theorem lp_kids0 (ok : KidsOk k Hs n t b l step) :
    ∀ r i m s (t2 t3 t4 t5 t6 t10 t11 t12 t13 t14 t15 t16 t17 t18 t19 t20 t21 t22 t23 t24 t25 t26 t27 : V), t.drop i = r → r.length < m →
    ∃ E, itX (xX (xS k) 93 0 k false) xl93_0 n (runK (xX (xS k) 93 0 k false) (bodyK (xS k).P Try.f93) xk93_0) m
      ⟨[.yld l, .ptr b 0 0 0, t2, t3, t4, t5, t6, tasksV t, .lit (.int .i64 t.length), .lit (.int .i64 (i : Int)), t10, t11, t12, t13, t14, t15, t16, t17, t18, t19, t20, t21, t22, t23, t24, t25, t26, t27], Hs true s⟩ = some (.tup [], Hs (runS step (kidsAt i r) s).1 (runS step (kidsAt i r) s).2 ++ E) := by
  intro r
  induction r with
  | nil =>
    intro i m s t2 t3 t4 t5 t6 t10 t11 t12 t13 t14 t15 t16 t17 t18 t19 t20 t21 t22 t23 t24 t25 t26 t27 hr hm
    obtain ⟨m, rfl⟩ := fuel hm
    simp -implicitDefEqProofs only [nextK_ret, resO_1, resO_2, resO_3, ↓bm_some, ↓bm_none, ↓bp_some, ↓bp_none, ↓bs_some, ↓bs_none, bm_map, bm_bind, bp_map, bp_bind, bs_map, bs_bind, bm_bif, bp_bif, bs_bif, ↓cnd_b, ↓gd_b, ↓gd_u, ↓ck_true, ↓ck_false, ↓ob_some, ↓ob_none, vBin_add, vBin_sub, vBin_mul, vBin_eql, vBin_neq, vBin_lss, vBin_leq, vBin_gtr, vBin_geq, vBin_quo, vBin_rem, vBin_beql, vBin_bneq, vUn_not, vUn_neg, vPick_b, vExtract_0, vExtract_1, vExtract_2, vLoad_rp, vLoad_ptr, ldB_box, ldB_rows, vStore_ptr, stBk, ixB_rows, vLen_ro, vLen_nil, vLen_own, lnB_rows, opBox_int, opBox_bool, opBox_ro, opBox_agg, matL_nil, matL_lit, matL_ro, matL_own, matL_ptr, matL_fn, matL_none, cells_int, cells_bool, cells_ro, cells_own, cells_ptr, cells_fn, cells_nil, cells_agg, vNil_ptr, vNil_fn, vNil_rp, V.kill, killL, spl, V.shift, shiftL, V.scal, scalL, intsV_eq, intR, boolR, taskV_eq, threeV, tasksV, threesV, List.map_nil, List.map_cons, List.length_map, List.length_cons, List.length_nil, List.drop_succ_cons, List.drop_zero, List.take_succ_cons, List.take_zero, List.set_cons_zero, List.set_cons_succ, List.nil_append, List.cons_append, List.append_nil, List.getElem?_cons_zero, List.getElem?_cons_succ, List.take_nil, Option.map_some, Option.map_none, Option.bind_some, Option.bind_none, ↓cond_true, ↓cond_false, Nat.reduceAdd, Nat.reduceSub, Nat.reduceMul, Nat.reduceLT, Nat.reduceLeDiff, Nat.reduceEqDiff, Nat.reduceBEq, Nat.reduceBNe, Int.reduceBEq, Int.reduceBNe, Int.reduceLT, Int.reduceLE, Int.reduceAdd, Int.reduceSub, Int.reduceNeg, ble0, Nat.zero_add, Nat.add_zero, Bool.and_true, Bool.true_and, Bool.and_false, Bool.false_and, Bool.or_true, Bool.or_false, Bool.true_or, Bool.false_or, Bool.not_true, Bool.not_false, beq_self_eq_true, bne_self_eq_false, decide_true, decide_false, if_true, if_false, Bool.false_eq_true, setR_bool, setR_int, repR_bool, repR_int, getR_map, fzL_nil, fzL_lit, fzL_ro, fzL_none, xld3, xsz3, xld4, xsz4, xld22, xsz22, xld23, xsz23, xld25, xsz25, xld27, xsz27, xld40, xsz40, xld49, xsz49, xld55, xsz55, xld67, xsz67, xld74, xsz74, xld87, xsz87, xal3, xal4, xal25, xal40, xal49, xal55, xal67, xal74, xal87, xfa25_0, xfp25_0, xfa25_1, xfp25_1, xfa25_2, xfp25_2, xfa40_0, xfp40_0, xfa40_1, xfp40_1, xfa49_0, xfp49_0, xfa55_0, xfp55_0, xfa55_1, xfp55_1, xfa55_2, xfp55_2, xfa67_0, xfp67_0, xfa67_1, xfp67_1, xfa67_2, xfp67_2, xfv49_0, xix22, xio22, xix23, xio23, xix26, xio26, xix43, xio43, xix87, xio87, xlen22, xlen23, xlen26, xlen43, xap22_22, xao22_22, xan22_22, xap23_23, xao23_23, xan23_23, xap26_26, xao26_26, xan26_26, xap43_43, xao43_43, xan43_43, xsh26, xsl26, xsb26, xsh43, xsl43, xsb43, xmk23, xmk87, xbo4, xb93, xz93, xr93_0, xj93_0, xr93_1, xj93_1, xk93_0_ret, xk93_1_ret, ok.hc, ltF (show ((t.length : Nat) : Int) ≤ i by have := drop_nil hr; omega)]
    exact ⟨[], by simp [kidsAt, runS]⟩
  | cons x r ih =>
    intro i m s t2 t3 t4 t5 t6 t10 t11 t12 t13 t14 t15 t16 t17 t18 t19 t20 t21 t22 t23 t24 t25 t26 t27 hr hm
    obtain ⟨m, rfl⟩ := fuel hm
    obtain ⟨h1, h2, h3, h4, h5⟩ := drop_cons hr
    have hlen := ok.hlen
    have hl1 := ok.hl
    have hb1 := ok.hb
    have hn := ok.hn
    simp -implicitDefEqProofs only [List.length_cons] at hm
    have h6 := lp_kids1 ok x h4 i h1 (kidsAt (i + 1) r) m (fun s t2 t3 t4 t5 t6 t10 t11 t12 t13 t14 t15 t16 t17 t18 t19 t20 t21 t22 t23 t24 t25 t26 t27 => ih (i + 1) m s _ _ _ _ _ _ _ _ _ _ _ _ _ _ _ _ _ _ _ _ _ _ _ h3 (by omega)) x.2 0 k s
    have ha := kids_alloc (k := k) (Hs true s)
    have hst := kids_store (k := k) (Hs true s) x
    have hf := kids_field (k := k) (Hs true s) x
    rw [hn] at ha hst hf
    have hE : (Hs true s ++ kE x).length = n + 2 := by simp [kE, ok.hn]
    have h7 := fun a1 a2 a3 a4 a5 a6 a7 a8 a9 b1 b2 b3 b4 b5 b6 b7 b8 b9 => h6 a1 a2 a3 a4 a5 a6 a7 a8 a9 b1 b2 b3 b4 b5 b6 b7 b8 b9 rfl (by have := ok.hlen2 x h4; have := ok.hk; omega)
    have hix : vIndexAddr (xS k).P 22 (tasksV t) (.lit (.int .i64 (i : Int))) (Hs true s) = some (.rp (taskV x)) := by
      rw [tasksV, xix22, idx_of h2]
      rfl
    have hld : vLoad (xS k).P 40 (.rp (taskV x)) (Hs true s) = some (.agg (taskV x)) := by
      simp -implicitDefEqProofs only [nextK_ret, resO_1, resO_2, resO_3, ↓bm_some, ↓bm_none, ↓bp_some, ↓bp_none, ↓bs_some, ↓bs_none, bm_map, bm_bind, bp_map, bp_bind, bs_map, bs_bind, bm_bif, bp_bif, bs_bif, ↓cnd_b, ↓gd_b, ↓gd_u, ↓ck_true, ↓ck_false, ↓ob_some, ↓ob_none, vBin_add, vBin_sub, vBin_mul, vBin_eql, vBin_neq, vBin_lss, vBin_leq, vBin_gtr, vBin_geq, vBin_quo, vBin_rem, vBin_beql, vBin_bneq, vUn_not, vUn_neg, vPick_b, vExtract_0, vExtract_1, vExtract_2, vLoad_rp, vLoad_ptr, ldB_box, ldB_rows, vStore_ptr, stBk, ixB_rows, vLen_ro, vLen_nil, vLen_own, lnB_rows, opBox_int, opBox_bool, opBox_ro, opBox_agg, matL_nil, matL_lit, matL_ro, matL_own, matL_ptr, matL_fn, matL_none, cells_int, cells_bool, cells_ro, cells_own, cells_ptr, cells_fn, cells_nil, cells_agg, vNil_ptr, vNil_fn, vNil_rp, V.kill, killL, spl, V.shift, shiftL, V.scal, scalL, intsV_eq, intR, boolR, taskV_eq, threeV, tasksV, threesV, List.map_nil, List.map_cons, List.length_map, List.length_cons, List.length_nil, List.drop_succ_cons, List.drop_zero, List.take_succ_cons, List.take_zero, List.set_cons_zero, List.set_cons_succ, List.nil_append, List.cons_append, List.append_nil, List.getElem?_cons_zero, List.getElem?_cons_succ, List.take_nil, Option.map_some, Option.map_none, Option.bind_some, Option.bind_none, ↓cond_true, ↓cond_false, Nat.reduceAdd, Nat.reduceSub, Nat.reduceMul, Nat.reduceLT, Nat.reduceLeDiff, Nat.reduceEqDiff, Nat.reduceBEq, Nat.reduceBNe, Int.reduceBEq, Int.reduceBNe, Int.reduceLT, Int.reduceLE, Int.reduceAdd, Int.reduceSub, Int.reduceNeg, ble0, Nat.zero_add, Nat.add_zero, Bool.and_true, Bool.true_and, Bool.and_false, Bool.false_and, Bool.or_true, Bool.or_false, Bool.true_or, Bool.false_or, Bool.not_true, Bool.not_false, beq_self_eq_true, bne_self_eq_false, decide_true, decide_false, if_true, if_false, Bool.false_eq_true, setR_bool, setR_int, repR_bool, repR_int, getR_map, fzL_nil, fzL_lit, fzL_ro, fzL_none, xld3, xsz3, xld4, xsz4, xld22, xsz22, xld23, xsz23, xld25, xsz25, xld27, xsz27, xld40, xsz40, xld49, xsz49, xld55, xsz55, xld67, xsz67, xld74, xsz74, xld87, xsz87, xal3, xal4, xal25, xal40, xal49, xal55, xal67, xal74, xal87, xfa25_0, xfp25_0, xfa25_1, xfp25_1, xfa25_2, xfp25_2, xfa40_0, xfp40_0, xfa40_1, xfp40_1, xfa49_0, xfp49_0, xfa55_0, xfp55_0, xfa55_1, xfp55_1, xfa55_2, xfp55_2, xfa67_0, xfp67_0, xfa67_1, xfp67_1, xfa67_2, xfp67_2, xfv49_0, xix22, xio22, xix23, xio23, xix26, xio26, xix43, xio43, xix87, xio87, xlen22, xlen23, xlen26, xlen43, xap22_22, xao22_22, xan22_22, xap23_23, xao23_23, xan23_23, xap26_26, xao26_26, xan26_26, xap43_43, xao43_43, xan43_43, xsh26, xsl26, xsb26, xsh43, xsl43, xsb43, xmk23, xmk87, xbo4]
    have hkt : V.kill (n + 2) (tasksV t) = tasksV t := rfl
    have hkt' : V.kill n (tasksV t) = tasksV t := rfl
    simp -implicitDefEqProofs only [xb93, xz93, xr93_0, xj93_0, xr93_1, xj93_1, xk93_0_ret, xk93_1_ret, bm_some, bp_some, bs_some, vBin_lss, ltT (show (i : Int) < (t.length : Nat) by omega), cnd_b, cond_true, hix, hld, ha, hst, xfp40_1, Nat.zero_add, hf, xlen23, vLen_ro, List.length_map, Option.map_some, hE, hkt, hkt', V.kill, show l < n + 2 by omega, show b < n + 2 by omega, show n + 1 < n + 2 by omega, ok.hc2, if_true]
    exact h7 ..

theorem sp_kids (ok : KidsOk k Hs n t b l step) (s : σ) : ∃ E, evF Try.prog xM (k + 1) 0 93 [.yld l, .ptr b 0 0 0] (Hs true s) = some (.tup [], Hs (runS step (kidsAt 0 t) s).1 (runS step (kidsAt 0 t) s).2 ++ E) := by
  have hl1 := ok.hl
  have hb1 := ok.hb
  have hld : vLoad (xS k).P 22 (.ptr b 0 0 0) (Hs true s) = some (tasksV t) := by
    rw [vLoad_ptr, ok.hbx s, ldB_box]
    simp -implicitDefEqProofs only [nextK_ret, resO_1, resO_2, resO_3, ↓bm_some, ↓bm_none, ↓bp_some, ↓bp_none, ↓bs_some, ↓bs_none, bm_map, bm_bind, bp_map, bp_bind, bs_map, bs_bind, bm_bif, bp_bif, bs_bif, ↓cnd_b, ↓gd_b, ↓gd_u, ↓ck_true, ↓ck_false, ↓ob_some, ↓ob_none, vBin_add, vBin_sub, vBin_mul, vBin_eql, vBin_neq, vBin_lss, vBin_leq, vBin_gtr, vBin_geq, vBin_quo, vBin_rem, vBin_beql, vBin_bneq, vUn_not, vUn_neg, vPick_b, vExtract_0, vExtract_1, vExtract_2, vLoad_rp, vLoad_ptr, ldB_box, ldB_rows, vStore_ptr, stBk, ixB_rows, vLen_ro, vLen_nil, vLen_own, lnB_rows, opBox_int, opBox_bool, opBox_ro, opBox_agg, matL_nil, matL_lit, matL_ro, matL_own, matL_ptr, matL_fn, matL_none, cells_int, cells_bool, cells_ro, cells_own, cells_ptr, cells_fn, cells_nil, cells_agg, vNil_ptr, vNil_fn, vNil_rp, V.kill, killL, spl, V.shift, shiftL, V.scal, scalL, intsV_eq, intR, boolR, taskV_eq, threeV, tasksV, threesV, List.map_nil, List.map_cons, List.length_map, List.length_cons, List.length_nil, List.drop_succ_cons, List.drop_zero, List.take_succ_cons, List.take_zero, List.set_cons_zero, List.set_cons_succ, List.nil_append, List.cons_append, List.append_nil, List.getElem?_cons_zero, List.getElem?_cons_succ, List.take_nil, Option.map_some, Option.map_none, Option.bind_some, Option.bind_none, ↓cond_true, ↓cond_false, Nat.reduceAdd, Nat.reduceSub, Nat.reduceMul, Nat.reduceLT, Nat.reduceLeDiff, Nat.reduceEqDiff, Nat.reduceBEq, Nat.reduceBNe, Int.reduceBEq, Int.reduceBNe, Int.reduceLT, Int.reduceLE, Int.reduceAdd, Int.reduceSub, Int.reduceNeg, ble0, Nat.zero_add, Nat.add_zero, Bool.and_true, Bool.true_and, Bool.and_false, Bool.false_and, Bool.or_true, Bool.or_false, Bool.true_or, Bool.false_or, Bool.not_true, Bool.not_false, beq_self_eq_true, bne_self_eq_false, decide_true, decide_false, if_true, if_false, Bool.false_eq_true, setR_bool, setR_int, repR_bool, repR_int, getR_map, fzL_nil, fzL_lit, fzL_ro, fzL_none, xld3, xsz3, xld4, xsz4, xld22, xsz22, xld23, xsz23, xld25, xsz25, xld27, xsz27, xld40, xsz40, xld49, xsz49, xld55, xsz55, xld67, xsz67, xld74, xsz74, xld87, xsz87, xal3, xal4, xal25, xal40, xal49, xal55, xal67, xal74, xal87, xfa25_0, xfp25_0, xfa25_1, xfp25_1, xfa25_2, xfp25_2, xfa40_0, xfp40_0, xfa40_1, xfp40_1, xfa49_0, xfp49_0, xfa55_0, xfp55_0, xfa55_1, xfp55_1, xfa55_2, xfp55_2, xfa67_0, xfp67_0, xfa67_1, xfp67_1, xfa67_2, xfp67_2, xfv49_0, xix22, xio22, xix23, xio23, xix26, xio26, xix43, xio43, xix87, xio87, xlen22, xlen23, xlen26, xlen43, xap22_22, xao22_22, xan22_22, xap23_23, xao23_23, xan23_23, xap26_26, xao26_26, xan26_26, xap43_43, xao43_43, xan43_43, xsh26, xsl26, xsb26, xsh43, xsl43, xsb43, xmk23, xmk87, xbo4]
  have h := lp_kids0 ok t 0 k s
  have h7 := fun a1 a2 a3 a4 a5 a6 a7 a8 a9 b1 b2 b3 b4 b5 b6 b7 b8 b9 c1 c2 c3 c4 c5 => h a1 a2 a3 a4 a5 a6 a7 a8 a9 b1 b2 b3 b4 b5 b6 b7 b8 b9 c1 c2 c3 c4 c5 rfl (by have := ok.hlen; have := ok.hk; omega)
  have hkt' : V.kill n (tasksV t) = tasksV t := rfl
  simp -implicitDefEqProofs only [xe93, xb93, xz93, xr93_0, xj93_0, xr93_1, xj93_1, xk93_0_ret, xk93_1_ret, hld, bm_some, xlen22, tasksV, vLen_ro, List.length_map, Option.map_some, bp_some, ok.hn, V.kill, hl1, hb1, if_true, ok.hc]
  simp -implicitDefEqProofs only [tasksV] at h7
  exact h7 ..
end
end Go.Ab
