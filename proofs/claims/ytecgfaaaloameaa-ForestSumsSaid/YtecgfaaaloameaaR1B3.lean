/- The program's code, point by point: printed by gen.py. -/
import Derived.Test.YtecgfaaaloameaaR1Seat
set_option maxRecDepth 100000
set_option linter.unusedVariables false
namespace Go.Ab
open Go.Proofs
/-! 25 poacher/model.Step: 0 t, 1 s, 2 e, 3 t, 4 s, 5 e, 8 own, 9 k, 10 r, 11 is -/
noncomputable def xg25_0 : Code := codeAt (bodyOf Try.f25) [1, 1, 1, 0, 0, 1, 1, 1, 1, 0]
noncomputable def xk25_0 : List Fr := [.seq (codeAt (bodyOf Try.f25) [1, 1, 1, 0, 0, 1, 1, 1, 1, 1]), .block 0, .seq (codeAt (bodyOf Try.f25) [1, 1, 1, 1])]
noncomputable def xg25_1 : Code := codeAt (bodyOf Try.f25) [1, 1, 1, 1, 0]
noncomputable def xg25_2 : Code := codeAt (bodyOf Try.f25) [1, 1, 1, 1, 1, 0, 0]
noncomputable def xk25_1 : List Fr := [.seq (codeAt (bodyOf Try.f25) [1, 1, 1, 1, 1, 0, 1]), .seq (codeAt (bodyOf Try.f25) [1, 1, 1, 1, 1, 1])]
theorem xo25_9 : orderIx (opsOf xg25_1) = [10, 0, 1, 2, 3, 4, 5, 6, 7, 8, 9, 11, 12] := by kernel_rfl
theorem xo25_9a : (rgOf (opsOf xg25_1)).any = false := by kernel_rfl
theorem xo25_9r : regOk (opsOf xg25_1) = true := by kernel_rfl
theorem xo25_10 : orderIx (opsOf xg25_2) = [0, 1, 2, 3, 4, 5, 6, 7, 8, 9, 10, 11, 12, 13, 14, 15, 16] := by kernel_rfl
theorem xo25_10a : (rgOf (opsOf xg25_2)).any = false := by kernel_rfl
theorem xo25_10r : regOk (opsOf xg25_2) = true := by kernel_rfl
theorem xb25 (s : Sys) (k wl : Nat) (t0 t1 t2 : V) (h : Hp) : bodyV (xX s 25 wl k false) Try.f25 [t0, t1, t2] h =
  bp (opBox t2 h) fun v1 h2 =>
  bp (some (.own h2.length 0 0, h2 ++ [.rows 0 [] 0 true])) fun v3 h4 =>
  bp (callV (xX s 25 wl k false) false true (.fn (.func 62) [] []) [t1] h4) fun v5 h6 =>
  bm (vFieldAddr s.P 25 v1 1) h6 fun v7 h8 =>
  bm (vLoad s.P 3 v7 h8) h8 fun v9 h10 =>
  bp (callV (xX s 25 wl k false) false true (.fn (.func 63) [] []) [t0, t1] h10) fun v11 h12 =>
  bm (vUn .not v11) h12 fun v13 h14 =>
  cnd v13 (
  some (.tup [v5, (V.lit (Value.bool false))], h14)) (
  bm (vFieldAddr s.P 25 v1 0) h14 fun v15 h16 =>
  bm (vLoad s.P 3 v15 h16) h16 fun v17 h18 =>
  bm (vBin s.P .eql 3 v17 (V.lit (Value.int .i64 5))) h18 fun v19 h20 =>
  cnd v19 (
  bp (callV (xX s 25 wl k false) false true (.fn (.func 35) [] []) [t1] h20) fun v21 h22 =>
  some (.tup [v5, v21], h22)) (
  bm (vBin s.P .lss 3 v9 (V.lit (Value.int .i64 0))) h20 fun v23 h24 =>
  gd v23 (
  opsP (xX s 25 wl k false) xg25_0 7 h20.length ([], []) (runK (xX s 25 wl k false) (bodyK s.P Try.f25) xk25_0) ⟨(t0 :: t1 :: t2 :: uu :: uu :: v1 :: v3 :: (V.lit (Value.bool false)) :: v5 :: v9 :: uu :: uu :: t1 :: v5 :: v7 :: v9 :: v13 :: t0 :: t1 :: v11 :: v13 :: uu :: v19 :: v15 :: v17 :: v19 :: uu :: uu :: uu :: uu :: v9 :: v23 :: (V.lit (Value.bool true)) :: uu :: uu :: uu :: uu :: uu :: uu :: uu :: uu :: uu :: uu :: uu :: uu :: uu :: uu :: uu :: uu :: uu :: uu :: uu :: uu :: uu :: uu :: uu :: uu :: uu :: uu :: uu :: uu :: uu :: uu :: uu :: uu :: uu :: uu :: uu :: uu :: uu :: uu :: uu :: uu :: []), h24⟩) (
  bp (opLen s.P 22 t0 h24) fun v25 h26 =>
  bm (vBin s.P .geq 3 v9 v25) h26 fun v27 h28 =>
  opsP (xX s 25 wl k false) xg25_0 7 h20.length ([], []) (runK (xX s 25 wl k false) (bodyK s.P Try.f25) xk25_0) ⟨(t0 :: t1 :: t2 :: uu :: uu :: v1 :: v3 :: (V.lit (Value.bool false)) :: v5 :: v9 :: uu :: uu :: t1 :: v5 :: v7 :: v9 :: v13 :: t0 :: t1 :: v11 :: v13 :: uu :: v19 :: v15 :: v17 :: v19 :: uu :: uu :: uu :: uu :: v9 :: v23 :: (V.lit (Value.bool false)) :: v9 :: t0 :: v25 :: v27 :: uu :: uu :: uu :: uu :: uu :: uu :: uu :: uu :: uu :: uu :: uu :: uu :: uu :: uu :: uu :: uu :: uu :: uu :: uu :: uu :: uu :: uu :: uu :: uu :: uu :: uu :: uu :: uu :: uu :: uu :: uu :: uu :: uu :: uu :: uu :: uu :: []), h28⟩) (
  opsP (xX s 25 wl k false) xg25_0 4 h20.length ([], []) (runK (xX s 25 wl k false) (bodyK s.P Try.f25) xk25_0) ⟨(t0 :: t1 :: t2 :: uu :: uu :: v1 :: v3 :: (V.lit (Value.bool false)) :: v5 :: v9 :: uu :: uu :: t1 :: v5 :: v7 :: v9 :: v13 :: t0 :: t1 :: v11 :: v13 :: uu :: v19 :: v15 :: v17 :: v19 :: uu :: uu :: uu :: uu :: v9 :: v23 :: v23 :: uu :: uu :: uu :: uu :: uu :: uu :: uu :: uu :: uu :: uu :: uu :: uu :: uu :: uu :: uu :: uu :: uu :: uu :: uu :: uu :: uu :: uu :: uu :: uu :: uu :: uu :: uu :: uu :: uu :: uu :: uu :: uu :: uu :: uu :: uu :: uu :: uu :: uu :: uu :: uu :: []), h24⟩))) :=
  bodyV_run rfl (go_seq (go_reg0
  (go_op0 rfl rfl (st_bp (by kernel_rfl) fun v1 h2 =>
  (go_op0 rfl rfl (st_bp (by kernel_rfl) fun v3 h4 =>
  (go_op0 rfl rfl (st_id (v := (V.lit (Value.bool false))) (H := h4) (by kernel_rfl)
  (go_end0 (by kernel_rfl)
  (go_seq (go_reg0
  (go_op0 rfl rfl (st_id (v := t1) (H := h4) (by kernel_rfl)
  (go_op0 rfl rfl (st_bp (by kernel_rfl) fun v5 h6 =>
  (go_op0 rfl rfl (st_id (v := v5) (H := h6) (by kernel_rfl)
  (go_end0 (by kernel_rfl)
  (go_seq (go_reg0
  (go_op0 rfl rfl (st_bm (by kernel_rfl) fun v7 h8 =>
  (go_op0 rfl rfl (st_bm (by kernel_rfl) fun v9 h10 =>
  (go_op0 rfl rfl (st_id (v := v9) (H := h10) (by kernel_rfl)
  (go_end0 (by kernel_rfl)
  (go_seq (go_block (go_seq (go_reg0
  (go_op0 rfl rfl (st_id (v := t0) (H := h10) (by kernel_rfl)
  (go_op0 rfl rfl (st_id (v := t1) (H := h10) (by kernel_rfl)
  (go_op0 rfl rfl (st_bp (by kernel_rfl) fun v11 h12 =>
  (go_op0 rfl rfl (st_bm (by kernel_rfl) fun v13 h14 =>
  (go_op0 rfl rfl (st_id (v := v13) (H := h14) (by kernel_rfl)
  (go_end0 (by kernel_rfl)
  (go_cond (by kernel_rfl)
  (go_seq (go_reg0
  (go_op0 rfl rfl (st_id (v := v5) (H := h14) (by kernel_rfl)
  (go_op0 rfl rfl (st_id (v := v5) (H := h14) (by kernel_rfl)
  (go_op0 rfl rfl (st_id (v := (V.lit (Value.bool false))) (H := h14) (by kernel_rfl)
  (go_end0 (by kernel_rfl)
  (go_ret (rt_block_ret (rt_seq_ret (by kernel_rfl)))))))))))))
  (go_seq (go_reg0
  (go_op0 rfl rfl (st_bm (by kernel_rfl) fun v15 h16 =>
  (go_op0 rfl rfl (st_bm (by kernel_rfl) fun v17 h18 =>
  (go_op0 rfl rfl (st_bm (by kernel_rfl) fun v19 h20 =>
  (go_op0 rfl rfl (st_id (v := v19) (H := h20) (by kernel_rfl)
  (go_end0 (by kernel_rfl)
  (go_cond (by kernel_rfl)
  (go_seq (go_reg0
  (go_op0 rfl rfl (st_id (v := v5) (H := h20) (by kernel_rfl)
  (go_op0 rfl rfl (st_id (v := t1) (H := h20) (by kernel_rfl)
  (go_op0 rfl rfl (st_bp (by kernel_rfl) fun v21 h22 =>
  (go_op0 rfl rfl (st_id (v := v5) (H := h22) (by kernel_rfl)
  (go_op0 rfl rfl (st_id (v := v21) (H := h22) (by kernel_rfl)
  (go_end0 (by kernel_rfl)
  (go_ret (rt_block_ret (rt_seq_ret (by kernel_rfl)))))))))))))))))
  (go_seq (go_reg0
  (go_op0 rfl rfl (st_id (v := v9) (H := h20) (by kernel_rfl)
  (go_op0 rfl rfl (st_bm (by kernel_rfl) fun v23 h24 =>
  (go_op0 rfl rfl (st_id (v := v23) (H := h24) (by kernel_rfl)
  (go_gdF0 rfl rfl rfl (by kernel_rfl)
  (go_skip0 rfl rfl rfl (by kernel_rfl)
  (go_skip0 rfl rfl rfl (by kernel_rfl)
  (go_skip0 rfl rfl rfl (by kernel_rfl)
  (by kernel_rfl))))
  (st_id (v := v9) (H := h24) (by kernel_rfl)
  (go_run0 rfl rfl rfl (by kernel_rfl) (st_id (v := t0) (H := h24) (by kernel_rfl)
  (go_run0 rfl rfl rfl (by kernel_rfl) (st_bp (by kernel_rfl) fun v25 h26 =>
  (go_run0 rfl rfl rfl (by kernel_rfl) (st_bm (by kernel_rfl) fun v27 h28 =>
  (by kernel_rfl))))))))
  (by kernel_rfl)))))))))))))))))))))))))))))))))))))))))))))))))))))))))))))))))
theorem xe25 (k wl : Nat) (t0 t1 t2 : V) (h : Hp) : evF Try.prog xM (k + 1) wl 25 [t0, t1, t2] h = bodyV (xX (xS k) 25 wl k false) Try.f25 [t0, t1, t2] h := by kernel_rfl
theorem xm25_0 (s : Sys) (k wl : Nat) (m0 : Nat) (ac : List Nat × List Nat) (t0 t1 t2 t3 t4 t5 t6 t7 t8 t9 t10 t11 t12 t13 t14 t15 t16 t17 t18 t19 t20 t21 t22 t23 t24 t25 t26 t27 t28 t29 t30 t31 t32 t33 t34 t35 t36 t37 t38 t39 t40 t41 t42 t43 t44 t45 t46 t47 t48 t49 t50 t51 t52 t53 t54 t55 t56 t57 t58 t59 t60 t61 t62 t63 t64 t65 t66 t67 t68 t69 t70 t71 t72 : V) (h : Hp) : opsP (xX s 25 wl k false) xg25_0 7 m0 ac (runK (xX s 25 wl k false) (bodyK s.P Try.f25) xk25_0) ⟨(t0 :: t1 :: t2 :: t3 :: t4 :: t5 :: t6 :: t7 :: t8 :: t9 :: t10 :: t11 :: t12 :: t13 :: t14 :: t15 :: t16 :: t17 :: t18 :: t19 :: t20 :: t21 :: t22 :: t23 :: t24 :: t25 :: t26 :: t27 :: t28 :: t29 :: t30 :: t31 :: t32 :: t33 :: t34 :: t35 :: t36 :: t37 :: t38 :: t39 :: t40 :: t41 :: t42 :: t43 :: t44 :: t45 :: t46 :: t47 :: t48 :: t49 :: t50 :: t51 :: t52 :: t53 :: t54 :: t55 :: t56 :: t57 :: t58 :: t59 :: t60 :: t61 :: t62 :: t63 :: t64 :: t65 :: t66 :: t67 :: t68 :: t69 :: t70 :: t71 :: t72 :: []), h⟩ =
  bm (vPick t32 (V.lit (Value.bool true)) t36) h fun v29 h30 =>
  cnd v29 (
  some (.tup [t8, (V.lit (Value.bool false))], h30)) (
  bp (opAlloc s.P 67 h30) fun v31 h32 =>
  bp (callV (xX s 25 wl k false) true true (.fn (.func 64) [] []) [t0, t1, t9] h32) fun v33 h34 =>
  bm (vFieldAddr s.P 25 t5 0) h34 fun v35 h36 =>
  stO h30.length v35 (
  bm (vLoad s.P 3 v35 h36) h36 fun v37 h38 =>
  bm (vLookup s.P 69 v33 v37 true h38) h38 fun v39 h40 =>
  bm (vExtract v39 0) h40 fun v41 h42 =>
  bm (vExtract v39 1) h42 fun v43 h44 =>
  bs (vStore s.P wl 67 v31 v41 h44) fun h45 =>
  bm (vUn .not v43) h45 fun v46 h47 =>
  gd v46 (
  opsP (xX s 25 wl k false) xg25_2 10 h45.length ([], []) (runK (xX s 25 wl k false) (bodyK s.P Try.f25) xk25_1) ⟨(t0 :: t1 :: t2 :: t3 :: t4 :: t5 :: t6 :: t7 :: t8 :: t9 :: v31 :: v43 :: t12 :: t13 :: t14 :: t15 :: t16 :: t17 :: t18 :: t19 :: t20 :: t21 :: t22 :: t23 :: t24 :: t25 :: t26 :: t27 :: t28 :: v29 :: t30 :: t31 :: t32 :: t33 :: t34 :: t35 :: t36 :: v29 :: t38 :: v39 :: t0 :: t1 :: t9 :: v33 :: v35 :: v37 :: v39 :: v41 :: v43 :: v43 :: v46 :: (V.lit (Value.bool true)) :: uu :: uu :: uu :: uu :: uu :: uu :: uu :: t59 :: t60 :: t61 :: t62 :: t63 :: t64 :: t65 :: t66 :: t67 :: t68 :: t69 :: t70 :: t71 :: t72 :: []), h47⟩) (
  bm (vIndexAddr s.P 23 t1 t9 h47) h47 fun v48 h49 =>
  bm (vLoad s.P 3 v48 h49) h49 fun v50 h51 =>
  bm (vFieldAddr s.P 67 v31 0) h51 fun v52 h53 =>
  bm (vLoad s.P 3 v52 h53) h53 fun v54 h55 =>
  bm (vBin s.P .neq 3 v50 v54) h55 fun v56 h57 =>
  opsP (xX s 25 wl k false) xg25_2 10 h45.length ([], []) (runK (xX s 25 wl k false) (bodyK s.P Try.f25) xk25_1) ⟨(t0 :: t1 :: t2 :: t3 :: t4 :: t5 :: t6 :: t7 :: t8 :: t9 :: v31 :: v43 :: t12 :: t13 :: t14 :: t15 :: t16 :: t17 :: t18 :: t19 :: t20 :: t21 :: t22 :: t23 :: t24 :: t25 :: t26 :: t27 :: t28 :: v29 :: t30 :: t31 :: t32 :: t33 :: t34 :: t35 :: t36 :: v29 :: t38 :: v39 :: t0 :: t1 :: t9 :: v33 :: v35 :: v37 :: v39 :: v41 :: v43 :: v43 :: v46 :: (V.lit (Value.bool false)) :: t1 :: t9 :: v48 :: v50 :: v52 :: v54 :: v56 :: t59 :: t60 :: t61 :: t62 :: t63 :: t64 :: t65 :: t66 :: t67 :: t68 :: t69 :: t70 :: t71 :: t72 :: []), h57⟩) (
  opsP (xX s 25 wl k false) xg25_2 4 h45.length ([], []) (runK (xX s 25 wl k false) (bodyK s.P Try.f25) xk25_1) ⟨(t0 :: t1 :: t2 :: t3 :: t4 :: t5 :: t6 :: t7 :: t8 :: t9 :: v31 :: v43 :: t12 :: t13 :: t14 :: t15 :: t16 :: t17 :: t18 :: t19 :: t20 :: t21 :: t22 :: t23 :: t24 :: t25 :: t26 :: t27 :: t28 :: v29 :: t30 :: t31 :: t32 :: t33 :: t34 :: t35 :: t36 :: v29 :: t38 :: v39 :: t0 :: t1 :: t9 :: v33 :: v35 :: v37 :: v39 :: v41 :: v43 :: v43 :: v46 :: v46 :: uu :: t53 :: t54 :: t55 :: t56 :: t57 :: t58 :: t59 :: t60 :: t61 :: t62 :: t63 :: t64 :: t65 :: t66 :: t67 :: t68 :: t69 :: t70 :: t71 :: t72 :: []), h47⟩))) :=
  (go_op0 rfl rfl (st_bm (by kernel_rfl) fun v29 h30 =>
  (go_op0 rfl rfl (st_id (v := v29) (H := h30) (by kernel_rfl)
  (go_end0 (by kernel_rfl)
  (go_cond (by kernel_rfl)
  (go_seq (go_reg0
  (go_op0 rfl rfl (st_id (v := t8) (H := h30) (by kernel_rfl)
  (go_op0 rfl rfl (st_id (v := t8) (H := h30) (by kernel_rfl)
  (go_op0 rfl rfl (st_id (v := (V.lit (Value.bool false))) (H := h30) (by kernel_rfl)
  (go_end0 (by kernel_rfl)
  (go_ret (rt_block_ret (rt_seq_ret (by kernel_rfl)))))))))))))
  (go_skip (rt_block_norm (go_seq (go_reg1 xo25_9r
  (go_op1 xo25_9 xo25_9a rfl rfl rfl (st_no (by kernel_rfl) (st_bp (by kernel_rfl) fun v31 h32 =>
  (go_op1 xo25_9 xo25_9a rfl rfl rfl (st_no (by kernel_rfl) (st_id (v := t0) (H := h32) (by kernel_rfl)
  (go_op1 xo25_9 xo25_9a rfl rfl rfl (st_no (by kernel_rfl) (st_id (v := t1) (H := h32) (by kernel_rfl)
  (go_op1 xo25_9 xo25_9a rfl rfl rfl (st_no (by kernel_rfl) (st_id (v := t9) (H := h32) (by kernel_rfl)
  (go_op1 xo25_9 xo25_9a rfl rfl rfl (st_no (by kernel_rfl) (st_bp (by kernel_rfl) fun v33 h34 =>
  (go_op1 xo25_9 xo25_9a rfl rfl rfl (st_no (by kernel_rfl) (st_bm (by kernel_rfl) fun v35 h36 =>
  (go_op1 xo25_9 xo25_9a rfl rfl rfl (st_yes (by kernel_rfl) (st_bm (by kernel_rfl) fun v37 h38 =>
  (go_op1 xo25_9 xo25_9a rfl rfl rfl (st_no (by kernel_rfl) (st_bm (by kernel_rfl) fun v39 h40 =>
  (go_op1 xo25_9 xo25_9a rfl rfl rfl (st_no (by kernel_rfl) (st_id (v := v39) (H := h40) (by kernel_rfl)
  (go_op1 xo25_9 xo25_9a rfl rfl rfl (st_no (by kernel_rfl) (st_bm (by kernel_rfl) fun v41 h42 =>
  (go_op1 xo25_9 xo25_9a rfl rfl rfl (st_no (by kernel_rfl) (st_bm (by kernel_rfl) fun v43 h44 =>
  (go_op1 xo25_9 xo25_9a rfl rfl rfl (st_no (by kernel_rfl) (st_bs (by kernel_rfl) fun h45 =>
  (go_op1 xo25_9 xo25_9a rfl rfl rfl (st_no (by kernel_rfl) (st_id (v := v43) (H := h45) (by kernel_rfl)
  (go_end1 xo25_9 (by kernel_rfl) xo25_9a
  (go_seq (go_seq (go_reg1 xo25_10r
  (go_op1 xo25_10 xo25_10a rfl rfl rfl (st_no (by kernel_rfl) (st_id (v := v43) (H := h45) (by kernel_rfl)
  (go_op1 xo25_10 xo25_10a rfl rfl rfl (st_no (by kernel_rfl) (st_bm (by kernel_rfl) fun v46 h47 =>
  (go_op1 xo25_10 xo25_10a rfl rfl rfl (st_no (by kernel_rfl) (st_id (v := v46) (H := h47) (by kernel_rfl)
  (go_gdF1 xo25_10 xo25_10a rfl rfl rfl rfl (by kernel_rfl)
  (go_skip1 xo25_10 rfl rfl rfl rfl (by kernel_rfl)
  (go_skip1 xo25_10 rfl rfl rfl rfl (by kernel_rfl)
  (go_skip1 xo25_10 rfl rfl rfl rfl (by kernel_rfl)
  (go_skip1 xo25_10 rfl rfl rfl rfl (by kernel_rfl)
  (go_skip1 xo25_10 rfl rfl rfl rfl (by kernel_rfl)
  (go_skip1 xo25_10 rfl rfl rfl rfl (by kernel_rfl)
  (by kernel_rfl)))))))
  (st_no (by kernel_rfl) (st_id (v := t1) (H := h47) (by kernel_rfl)
  (go_run1 xo25_10 xo25_10a rfl rfl rfl rfl (by kernel_rfl) (st_no (by kernel_rfl) (st_id (v := t9) (H := h47) (by kernel_rfl)
  (go_run1 xo25_10 xo25_10a rfl rfl rfl rfl (by kernel_rfl) (st_no (by kernel_rfl) (st_bm (by kernel_rfl) fun v48 h49 =>
  (go_run1 xo25_10 xo25_10a rfl rfl rfl rfl (by kernel_rfl) (st_no (by kernel_rfl) (st_bm (by kernel_rfl) fun v50 h51 =>
  (go_run1 xo25_10 xo25_10a rfl rfl rfl rfl (by kernel_rfl) (st_no (by kernel_rfl) (st_bm (by kernel_rfl) fun v52 h53 =>
  (go_run1 xo25_10 xo25_10a rfl rfl rfl rfl (by kernel_rfl) (st_no (by kernel_rfl) (st_bm (by kernel_rfl) fun v54 h55 =>
  (go_run1 xo25_10 xo25_10a rfl rfl rfl rfl (by kernel_rfl) (st_no (by kernel_rfl) (st_bm (by kernel_rfl) fun v56 h57 =>
  (by kernel_rfl)))))))))))))))))))))
  (by kernel_rfl))))))))))))))))))))))))))))))))))))))))))))))))))))))))))))))))
theorem xm25_1 (s : Sys) (k wl : Nat) (m0 : Nat) (ac : List Nat × List Nat) (t0 t1 t2 t3 t4 t5 t6 t7 t8 t9 t10 t11 t12 t13 t14 t15 t16 t17 t18 t19 t20 t21 t22 t23 t24 t25 t26 t27 t28 t29 t30 t31 t32 t33 t34 t35 t36 t37 t38 t39 t40 t41 t42 t43 t44 t45 t46 t47 t48 t49 t50 t51 t52 t53 t54 t55 t56 t57 t58 t59 t60 t61 t62 t63 t64 t65 t66 t67 t68 t69 t70 t71 t72 : V) (h : Hp) : opsP (xX s 25 wl k false) xg25_2 10 m0 ac (runK (xX s 25 wl k false) (bodyK s.P Try.f25) xk25_1) ⟨(t0 :: t1 :: t2 :: t3 :: t4 :: t5 :: t6 :: t7 :: t8 :: t9 :: t10 :: t11 :: t12 :: t13 :: t14 :: t15 :: t16 :: t17 :: t18 :: t19 :: t20 :: t21 :: t22 :: t23 :: t24 :: t25 :: t26 :: t27 :: t28 :: t29 :: t30 :: t31 :: t32 :: t33 :: t34 :: t35 :: t36 :: t37 :: t38 :: t39 :: t40 :: t41 :: t42 :: t43 :: t44 :: t45 :: t46 :: t47 :: t48 :: t49 :: t50 :: t51 :: t52 :: t53 :: t54 :: t55 :: t56 :: t57 :: t58 :: t59 :: t60 :: t61 :: t62 :: t63 :: t64 :: t65 :: t66 :: t67 :: t68 :: t69 :: t70 :: t71 :: t72 :: []), h⟩ =
  bm (vPick t51 (V.lit (Value.bool true)) t58) h fun v58 h59 =>
  gd v58 (
  opsP (xX s 25 wl k false) xg25_2 16 m0 ac (runK (xX s 25 wl k false) (bodyK s.P Try.f25) xk25_1) ⟨(t0 :: t1 :: t2 :: t3 :: t4 :: t5 :: t6 :: t7 :: t8 :: t9 :: t10 :: t11 :: t12 :: t13 :: t14 :: t15 :: t16 :: t17 :: t18 :: t19 :: t20 :: t21 :: t22 :: t23 :: t24 :: t25 :: t26 :: t27 :: t28 :: t29 :: t30 :: t31 :: t32 :: t33 :: t34 :: t35 :: t36 :: t37 :: t38 :: t39 :: t40 :: t41 :: t42 :: t43 :: t44 :: t45 :: t46 :: t47 :: t48 :: t49 :: t50 :: t51 :: t52 :: t53 :: t54 :: t55 :: t56 :: t57 :: t58 :: v58 :: (V.lit (Value.bool true)) :: uu :: uu :: uu :: uu :: t65 :: t66 :: t67 :: t68 :: t69 :: t70 :: t71 :: t72 :: []), h59⟩) (
  bm (vFieldAddr s.P 67 t10 2) h59 fun v60 h61 =>
  bm (vLoad s.P 27 v60 h61) h61 fun v62 h63 =>
  bp (callV (xX s 25 wl k false) false true v62 [] h63) fun v64 h65 =>
  bm (vUn .not v64) h65 fun v66 h67 =>
  opsP (xX s 25 wl k false) xg25_2 16 m0 ac (runK (xX s 25 wl k false) (bodyK s.P Try.f25) xk25_1) ⟨(t0 :: t1 :: t2 :: t3 :: t4 :: t5 :: t6 :: t7 :: t8 :: t9 :: t10 :: t11 :: t12 :: t13 :: t14 :: t15 :: t16 :: t17 :: t18 :: t19 :: t20 :: t21 :: t22 :: t23 :: t24 :: t25 :: t26 :: t27 :: t28 :: t29 :: t30 :: t31 :: t32 :: t33 :: t34 :: t35 :: t36 :: t37 :: t38 :: t39 :: t40 :: t41 :: t42 :: t43 :: t44 :: t45 :: t46 :: t47 :: t48 :: t49 :: t50 :: t51 :: t52 :: t53 :: t54 :: t55 :: t56 :: t57 :: t58 :: v58 :: (V.lit (Value.bool false)) :: v60 :: v62 :: v64 :: v66 :: t65 :: t66 :: t67 :: t68 :: t69 :: t70 :: t71 :: t72 :: []), h67⟩) (
  opsP (xX s 25 wl k false) xg25_2 13 m0 ac (runK (xX s 25 wl k false) (bodyK s.P Try.f25) xk25_1) ⟨(t0 :: t1 :: t2 :: t3 :: t4 :: t5 :: t6 :: t7 :: t8 :: t9 :: t10 :: t11 :: t12 :: t13 :: t14 :: t15 :: t16 :: t17 :: t18 :: t19 :: t20 :: t21 :: t22 :: t23 :: t24 :: t25 :: t26 :: t27 :: t28 :: t29 :: t30 :: t31 :: t32 :: t33 :: t34 :: t35 :: t36 :: t37 :: t38 :: t39 :: t40 :: t41 :: t42 :: t43 :: t44 :: t45 :: t46 :: t47 :: t48 :: t49 :: t50 :: t51 :: t52 :: t53 :: t54 :: t55 :: t56 :: t57 :: t58 :: v58 :: v58 :: uu :: t62 :: t63 :: t64 :: t65 :: t66 :: t67 :: t68 :: t69 :: t70 :: t71 :: t72 :: []), h59⟩) :=
  (go_op1 xo25_10 xo25_10a rfl rfl rfl (st_no (by kernel_rfl) (st_bm (by kernel_rfl) fun v58 h59 =>
  (go_op1 xo25_10 xo25_10a rfl rfl rfl (st_no (by kernel_rfl) (st_id (v := v58) (H := h59) (by kernel_rfl)
  (go_gdF1 xo25_10 xo25_10a rfl rfl rfl rfl (by kernel_rfl)
  (go_skip1 xo25_10 rfl rfl rfl rfl (by kernel_rfl)
  (go_skip1 xo25_10 rfl rfl rfl rfl (by kernel_rfl)
  (go_skip1 xo25_10 rfl rfl rfl rfl (by kernel_rfl)
  (by kernel_rfl))))
  (st_no (by kernel_rfl) (st_bm (by kernel_rfl) fun v60 h61 =>
  (go_run1 xo25_10 xo25_10a rfl rfl rfl rfl (by kernel_rfl) (st_no (by kernel_rfl) (st_bm (by kernel_rfl) fun v62 h63 =>
  (go_run1 xo25_10 xo25_10a rfl rfl rfl rfl (by kernel_rfl) (st_no (by kernel_rfl) (st_bp (by kernel_rfl) fun v64 h65 =>
  (go_run1 xo25_10 xo25_10a rfl rfl rfl rfl (by kernel_rfl) (st_no (by kernel_rfl) (st_bm (by kernel_rfl) fun v66 h67 =>
  (by kernel_rfl))))))))))))
  (by kernel_rfl))))))))
theorem xm25_2 (s : Sys) (k wl : Nat) (m0 : Nat) (ac : List Nat × List Nat) (t0 t1 t2 t3 t4 t5 t6 t7 t8 t9 t10 t11 t12 t13 t14 t15 t16 t17 t18 t19 t20 t21 t22 t23 t24 t25 t26 t27 t28 t29 t30 t31 t32 t33 t34 t35 t36 t37 t38 t39 t40 t41 t42 t43 t44 t45 t46 t47 t48 t49 t50 t51 t52 t53 t54 t55 t56 t57 t58 t59 t60 t61 t62 t63 t64 t65 t66 t67 t68 t69 t70 t71 t72 : V) (h : Hp) : opsP (xX s 25 wl k false) xg25_2 16 m0 ac (runK (xX s 25 wl k false) (bodyK s.P Try.f25) xk25_1) ⟨(t0 :: t1 :: t2 :: t3 :: t4 :: t5 :: t6 :: t7 :: t8 :: t9 :: t10 :: t11 :: t12 :: t13 :: t14 :: t15 :: t16 :: t17 :: t18 :: t19 :: t20 :: t21 :: t22 :: t23 :: t24 :: t25 :: t26 :: t27 :: t28 :: t29 :: t30 :: t31 :: t32 :: t33 :: t34 :: t35 :: t36 :: t37 :: t38 :: t39 :: t40 :: t41 :: t42 :: t43 :: t44 :: t45 :: t46 :: t47 :: t48 :: t49 :: t50 :: t51 :: t52 :: t53 :: t54 :: t55 :: t56 :: t57 :: t58 :: t59 :: t60 :: t61 :: t62 :: t63 :: t64 :: t65 :: t66 :: t67 :: t68 :: t69 :: t70 :: t71 :: t72 :: []), h⟩ =
  bm (vPick t60 (V.lit (Value.bool true)) t64) h fun v68 h69 =>
  cnd v68 (
  some (.tup [t8, (V.lit (Value.bool false))], h69)) (
  bm (vFieldAddr s.P 67 t10 1) h69 fun v70 h71 =>
  bm (vLoad s.P 3 v70 h71) h71 fun v72 h73 =>
  bm (vIndexAddr s.P 23 t8 t9 h73) h73 fun v74 h75 =>
  bs (vStore s.P wl 3 v74 v72 h75) fun h76 =>
  some (.tup [t8, (V.lit (Value.bool true))], h76)) :=
  (go_op1 xo25_10 xo25_10a rfl rfl rfl (st_no (by kernel_rfl) (st_bm (by kernel_rfl) fun v68 h69 =>
  (go_end1 xo25_10 (by kernel_rfl) xo25_10a
  (go_cond (by kernel_rfl)
  (go_seq (go_reg0
  (go_op0 rfl rfl (st_id (v := t8) (H := h69) (by kernel_rfl)
  (go_op0 rfl rfl (st_id (v := t8) (H := h69) (by kernel_rfl)
  (go_op0 rfl rfl (st_id (v := (V.lit (Value.bool false))) (H := h69) (by kernel_rfl)
  (go_end0 (by kernel_rfl)
  (go_ret (rt_seq_ret (by kernel_rfl))))))))))))
  (go_skip (go_seq (go_reg0
  (go_op0 rfl rfl (st_id (v := t8) (H := h69) (by kernel_rfl)
  (go_op0 rfl rfl (st_id (v := t9) (H := h69) (by kernel_rfl)
  (go_op0 rfl rfl (st_bm (by kernel_rfl) fun v70 h71 =>
  (go_op0 rfl rfl (st_bm (by kernel_rfl) fun v72 h73 =>
  (go_op0 rfl rfl (st_bm (by kernel_rfl) fun v74 h75 =>
  (go_op0 rfl rfl (st_bs (by kernel_rfl) fun h76 =>
  (go_end0 (by kernel_rfl)
  (go_seq (go_reg0
  (go_op0 rfl rfl (st_id (v := t8) (H := h76) (by kernel_rfl)
  (go_op0 rfl rfl (st_id (v := t8) (H := h76) (by kernel_rfl)
  (go_op0 rfl rfl (st_id (v := (V.lit (Value.bool true))) (H := h76) (by kernel_rfl)
  (go_end0 (by kernel_rfl)
  (go_ret (by kernel_rfl))))))))))))))))))))))))))))))))
theorem xk25_0_ret (cx : Cx) (K : Out → St → Option (V × Hp)) (s : St) : runK cx K xk25_0 .ret s = K .ret s := by kernel_rfl
theorem xk25_1_ret (cx : Cx) (K : Out → St → Option (V × Hp)) (s : St) : runK cx K xk25_1 .ret s = K .ret s := by kernel_rfl
-- names: xb25, xm25_0, xm25_1, xm25_2, xk25_0_ret, xk25_1_ret
/-! 28 poacher/model.New: 0 t, 1 t -/

theorem xb28 (s : Sys) (k wl : Nat) (t0 : V) (h : Hp) : bodyV (xX s 28 wl k false) Try.f28 [t0] h =
  bp (some (.own h.length 0 0, h ++ [.rows 0 [] 0 true])) fun v1 h2 =>
  bp (callV (xX s 28 wl k false) false true (.fn (.func 50) [] []) [t0] h2) fun v3 h4 =>
  bm (vUn .not v3) h4 fun v5 h6 =>
  cnd v5 (
  bp (some (.own h6.length 0 0, h6 ++ [.rows 0 [] 0 true])) fun v7 h8 =>
  some (v7, h8)) (
  bp (opLen s.P 22 t0 h6) fun v9 h10 =>
  bp (vMakeSlice s.P 23 v9 v9 h10) fun v11 h12 =>
  some (v11, h12)) :=
  bodyV_run rfl (go_seq (go_reg0
  (go_op0 rfl rfl (st_bp (by kernel_rfl) fun v1 h2 =>
  (go_end0 (by kernel_rfl)
  (go_seq (go_seq (go_reg0
  (go_op0 rfl rfl (st_id (v := t0) (H := h2) (by kernel_rfl)
  (go_op0 rfl rfl (st_bp (by kernel_rfl) fun v3 h4 =>
  (go_op0 rfl rfl (st_bm (by kernel_rfl) fun v5 h6 =>
  (go_end0 (by kernel_rfl)
  (go_cond (by kernel_rfl)
  (go_seq (go_reg0
  (go_op0 rfl rfl (st_bp (by kernel_rfl) fun v7 h8 =>
  (go_end0 (by kernel_rfl)
  (go_ret (rt_seq_ret (by kernel_rfl))))))))
  (go_skip (go_seq (go_reg0
  (go_op0 rfl rfl (st_id (v := t0) (H := h6) (by kernel_rfl)
  (go_op0 rfl rfl (st_bp (by kernel_rfl) fun v9 h10 =>
  (go_op0 rfl rfl (st_bp (by kernel_rfl) fun v11 h12 =>
  (go_op0 rfl rfl (st_id (v := v11) (H := h12) (by kernel_rfl)
  (go_end0 (by kernel_rfl)
  (go_ret (by kernel_rfl))))))))))))))))))))))))))))))
theorem xe28 (k wl : Nat) (t0 : V) (h : Hp) : evF Try.prog xM (k + 1) wl 28 [t0] h = bodyV (xX (xS k) 28 wl k false) Try.f28 [t0] h := by kernel_rfl
-- names: xb28, 
/-! 30 poacher/model.End: 0 t, 1 l, 2 t, 3 l, 5 s, 6 _ -/

theorem xb30 (s : Sys) (k wl : Nat) (t0 t1 : V) (h : Hp) : bodyV (xX s 30 wl k false) Try.f30 [t0, t1] h =
  bp (some (.own h.length 0 0, h ++ [.rows 0 [] 0 true])) fun v1 h2 =>
  bp (callV (xX s 30 wl k false) false true (.fn (.func 67) [] []) [t0, t1] h2) fun v3 h4 =>
  bm (vExtract v3 0) h4 fun v5 h6 =>
  bm (vExtract v3 1) h6 fun v7 h8 =>
  some (v5, h8) :=
  bodyV_run rfl (go_seq (go_reg0
  (go_op0 rfl rfl (st_bp (by kernel_rfl) fun v1 h2 =>
  (go_end0 (by kernel_rfl)
  (go_seq (go_reg0
  (go_op0 rfl rfl (st_id (v := t0) (H := h2) (by kernel_rfl)
  (go_op0 rfl rfl (st_id (v := t1) (H := h2) (by kernel_rfl)
  (go_op0 rfl rfl (st_bp (by kernel_rfl) fun v3 h4 =>
  (go_op0 rfl rfl (st_id (v := v3) (H := h4) (by kernel_rfl)
  (go_op0 rfl rfl (st_bm (by kernel_rfl) fun v5 h6 =>
  (go_op0 rfl rfl (st_bm (by kernel_rfl) fun v7 h8 =>
  (go_op0 rfl rfl (st_id (v := v5) (H := h8) (by kernel_rfl)
  (go_op0 rfl rfl (st_id (v := v7) (H := h8) (by kernel_rfl)
  (go_end0 (by kernel_rfl)
  (go_seq (go_reg0
  (go_op0 rfl rfl (st_id (v := v5) (H := h8) (by kernel_rfl)
  (go_op0 rfl rfl (st_id (v := v5) (H := h8) (by kernel_rfl)
  (go_end0 (by kernel_rfl)
  (go_ret (by kernel_rfl)))))))))))))))))))))))))))))))))
theorem xe30 (k wl : Nat) (t0 t1 : V) (h : Hp) : evF Try.prog xM (k + 1) wl 30 [t0, t1] h = bodyV (xX (xS k) 30 wl k false) Try.f30 [t0, t1] h := by kernel_rfl
-- names: xb30, 
/-! 34 poacher/model.Accepts: 0 t, 1 l, 2 t, 3 l, 5 _, 6 is -/
noncomputable def xg34_0 : Code := codeAt (bodyOf Try.f34) [1, 1, 0]
noncomputable def xk34_0 : List Fr := [.seq (codeAt (bodyOf Try.f34) [1, 1, 1])]
theorem xb34 (s : Sys) (k wl : Nat) (t0 t1 : V) (h : Hp) : bodyV (xX s 34 wl k false) Try.f34 [t0, t1] h =
  bp (callV (xX s 34 wl k false) false true (.fn (.func 67) [] []) [t0, t1] h) fun v1 h2 =>
  bm (vExtract v1 0) h2 fun v3 h4 =>
  bm (vExtract v1 1) h4 fun v5 h6 =>
  gd v5 (
  bp (callV (xX s 34 wl k false) false true (.fn (.func 50) [] []) [t0] h6) fun v7 h8 =>
  opsP (xX s 34 wl k false) xg34_0 4 h6.length ([], []) (runK (xX s 34 wl k false) (bodyK s.P Try.f34) xk34_0) ⟨[t0, t1, uu, uu, (V.lit (Value.bool false)), v3, v5, v1, t0, t1, v1, v3, v5, v5, (V.lit (Value.bool true)), t0, v7, uu], h8⟩) (
  opsP (xX s 34 wl k false) xg34_0 4 h6.length ([], []) (runK (xX s 34 wl k false) (bodyK s.P Try.f34) xk34_0) ⟨[t0, t1, uu, uu, (V.lit (Value.bool false)), v3, v5, v1, t0, t1, v1, v3, v5, v5, (V.lit (Value.bool false)), uu, uu, uu], h6⟩) (
  opsP (xX s 34 wl k false) xg34_0 3 h6.length ([], []) (runK (xX s 34 wl k false) (bodyK s.P Try.f34) xk34_0) ⟨[t0, t1, uu, uu, (V.lit (Value.bool false)), v3, v5, v1, t0, t1, v1, v3, v5, v5, v5, uu, uu, uu], h6⟩) :=
  bodyV_run rfl (go_seq (go_reg0
  (go_op0 rfl rfl (st_id (v := (V.lit (Value.bool false))) (H := h) (by kernel_rfl)
  (go_end0 (by kernel_rfl)
  (go_seq (go_reg0
  (go_op0 rfl rfl (st_id (v := t0) (H := h) (by kernel_rfl)
  (go_op0 rfl rfl (st_id (v := t1) (H := h) (by kernel_rfl)
  (go_op0 rfl rfl (st_bp (by kernel_rfl) fun v1 h2 =>
  (go_op0 rfl rfl (st_id (v := v1) (H := h2) (by kernel_rfl)
  (go_op0 rfl rfl (st_bm (by kernel_rfl) fun v3 h4 =>
  (go_op0 rfl rfl (st_bm (by kernel_rfl) fun v5 h6 =>
  (go_op0 rfl rfl (st_id (v := v3) (H := h6) (by kernel_rfl)
  (go_op0 rfl rfl (st_id (v := v5) (H := h6) (by kernel_rfl)
  (go_end0 (by kernel_rfl)
  (go_seq (go_reg0
  (go_op0 rfl rfl (st_id (v := v5) (H := h6) (by kernel_rfl)
  (go_op0 rfl rfl (st_id (v := v5) (H := h6) (by kernel_rfl)
  (go_gdT0 rfl rfl rfl (by kernel_rfl)
  (st_id (v := t0) (H := h6) (by kernel_rfl)
  (go_run0 rfl rfl rfl (by kernel_rfl) (st_bp (by kernel_rfl) fun v7 h8 =>
  (by kernel_rfl))))
  (go_skip0 rfl rfl rfl (by kernel_rfl)
  (by kernel_rfl))
  (by kernel_rfl))))))))))))))))))))))))))))))))
theorem xe34 (k wl : Nat) (t0 t1 : V) (h : Hp) : evF Try.prog xM (k + 1) wl 34 [t0, t1] h = bodyV (xX (xS k) 34 wl k false) Try.f34 [t0, t1] h := by kernel_rfl
theorem xm34_0 (s : Sys) (k wl : Nat) (m0 : Nat) (ac : List Nat × List Nat) (t0 t1 t2 t3 t4 t5 t6 t7 t8 t9 t10 t11 t12 t13 t14 t15 t16 t17 : V) (h : Hp) : opsP (xX s 34 wl k false) xg34_0 4 m0 ac (runK (xX s 34 wl k false) (bodyK s.P Try.f34) xk34_0) ⟨[t0, t1, t2, t3, t4, t5, t6, t7, t8, t9, t10, t11, t12, t13, t14, t15, t16, t17], h⟩ =
  bm (vPick t14 t16 (V.lit (Value.bool false))) h fun v9 h10 =>
  some (v9, h10) :=
  (go_op0 rfl rfl (st_bm (by kernel_rfl) fun v9 h10 =>
  (go_op0 rfl rfl (st_id (v := v9) (H := h10) (by kernel_rfl)
  (go_end0 (by kernel_rfl)
  (go_ret (by kernel_rfl)))))))
theorem xk34_0_ret (cx : Cx) (K : Out → St → Option (V × Hp)) (s : St) : runK cx K xk34_0 .ret s = K .ret s := by kernel_rfl
-- names: xb34, xm34_0, xk34_0_ret
/-! 35 poacher/model.Calm: 0 s, 1 s -/

theorem xb35 (s : Sys) (k wl : Nat) (t0 : V) (h : Hp) : bodyV (xX s 35 wl k false) Try.f35 [t0] h =
  bp (callV (xX s 35 wl k false) false true (.fn (.func 68) [] []) [t0, (.fn (.func 69) [] [])] h) fun v1 h2 =>
  bm (vUn .not v1) h2 fun v3 h4 =>
  some (v3, h4) :=
  bodyV_run rfl (go_seq (go_reg0
  (go_op0 rfl rfl (st_id (v := (V.lit (Value.bool false))) (H := h) (by kernel_rfl)
  (go_end0 (by kernel_rfl)
  (go_seq (go_reg0
  (go_op0 rfl rfl (st_id (v := t0) (H := h) (by kernel_rfl)
  (go_op0 rfl rfl (st_bp (by kernel_rfl) fun v1 h2 =>
  (go_op0 rfl rfl (st_bm (by kernel_rfl) fun v3 h4 =>
  (go_op0 rfl rfl (st_id (v := v3) (H := h4) (by kernel_rfl)
  (go_end0 (by kernel_rfl)
  (go_ret (by kernel_rfl))))))))))))))))))
theorem xe35 (k wl : Nat) (t0 : V) (h : Hp) : evF Try.prog xM (k + 1) wl 35 [t0] h = bodyV (xX (xS k) 35 wl k false) Try.f35 [t0] h := by kernel_rfl
-- names: xb35, 
/-! 63 poacher/model.fits: 0 t, 1 s, 2 t, 3 s -/
noncomputable def xg63_0 : Code := codeAt (bodyOf Try.f63) [1, 0]
noncomputable def xk63_0 : List Fr := [.seq (codeAt (bodyOf Try.f63) [1, 1])]
theorem xb63 (s : Sys) (k wl : Nat) (t0 t1 : V) (h : Hp) : bodyV (xX s 63 wl k false) Try.f63 [t0, t1] h =
  bp (callV (xX s 63 wl k false) false true (.fn (.func 50) [] []) [t0] h) fun v1 h2 =>
  gd v1 (
  bp (opLen s.P 23 t1 h2) fun v3 h4 =>
  bp (opLen s.P 22 t0 h4) fun v5 h6 =>
  bm (vBin s.P .eql 3 v3 v5) h6 fun v7 h8 =>
  opsP (xX s 63 wl k false) xg63_0 8 h.length ([], []) (runK (xX s 63 wl k false) (bodyK s.P Try.f63) xk63_0) ⟨[t0, t1, uu, uu, (V.lit (Value.bool false)), t0, v1, (V.lit (Value.bool true)), t1, v3, t0, v5, v7, uu, uu, uu, uu, uu, uu], h8⟩) (
  opsP (xX s 63 wl k false) xg63_0 8 h.length ([], []) (runK (xX s 63 wl k false) (bodyK s.P Try.f63) xk63_0) ⟨[t0, t1, uu, uu, (V.lit (Value.bool false)), t0, v1, (V.lit (Value.bool false)), uu, uu, uu, uu, uu, uu, uu, uu, uu, uu, uu], h2⟩) (
  opsP (xX s 63 wl k false) xg63_0 4 h.length ([], []) (runK (xX s 63 wl k false) (bodyK s.P Try.f63) xk63_0) ⟨[t0, t1, uu, uu, (V.lit (Value.bool false)), t0, v1, v1, uu, uu, uu, uu, uu, uu, uu, uu, uu, uu, uu], h2⟩) :=
  bodyV_run rfl (go_seq (go_reg0
  (go_op0 rfl rfl (st_id (v := (V.lit (Value.bool false))) (H := h) (by kernel_rfl)
  (go_end0 (by kernel_rfl)
  (go_seq (go_reg0
  (go_op0 rfl rfl (st_id (v := t0) (H := h) (by kernel_rfl)
  (go_op0 rfl rfl (st_bp (by kernel_rfl) fun v1 h2 =>
  (go_op0 rfl rfl (st_id (v := v1) (H := h2) (by kernel_rfl)
  (go_gdT0 rfl rfl rfl (by kernel_rfl)
  (st_id (v := t1) (H := h2) (by kernel_rfl)
  (go_run0 rfl rfl rfl (by kernel_rfl) (st_bp (by kernel_rfl) fun v3 h4 =>
  (go_run0 rfl rfl rfl (by kernel_rfl) (st_id (v := t0) (H := h4) (by kernel_rfl)
  (go_run0 rfl rfl rfl (by kernel_rfl) (st_bp (by kernel_rfl) fun v5 h6 =>
  (go_run0 rfl rfl rfl (by kernel_rfl) (st_bm (by kernel_rfl) fun v7 h8 =>
  (by kernel_rfl))))))))))
  (go_skip0 rfl rfl rfl (by kernel_rfl)
  (go_skip0 rfl rfl rfl (by kernel_rfl)
  (go_skip0 rfl rfl rfl (by kernel_rfl)
  (go_skip0 rfl rfl rfl (by kernel_rfl)
  (by kernel_rfl)))))
  (by kernel_rfl)))))))))))))))
theorem xe63 (k wl : Nat) (t0 t1 : V) (h : Hp) : evF Try.prog xM (k + 1) wl 63 [t0, t1] h = bodyV (xX (xS k) 63 wl k false) Try.f63 [t0, t1] h := by kernel_rfl
theorem xm63_0 (s : Sys) (k wl : Nat) (m0 : Nat) (ac : List Nat × List Nat) (t0 t1 t2 t3 t4 t5 t6 t7 t8 t9 t10 t11 t12 t13 t14 t15 t16 t17 t18 : V) (h : Hp) : opsP (xX s 63 wl k false) xg63_0 8 m0 ac (runK (xX s 63 wl k false) (bodyK s.P Try.f63) xk63_0) ⟨[t0, t1, t2, t3, t4, t5, t6, t7, t8, t9, t10, t11, t12, t13, t14, t15, t16, t17, t18], h⟩ =
  bm (vPick t7 t12 (V.lit (Value.bool false))) h fun v9 h10 =>
  gd v9 (
  bp (callV (xX s 63 wl k false) false true (.fn (.func 68) [] []) [t1, (.fn (.func 86) [] [])] h10) fun v11 h12 =>
  bm (vUn .not v11) h12 fun v13 h14 =>
  opsP (xX s 63 wl k false) xg63_0 13 m0 ac (runK (xX s 63 wl k false) (bodyK s.P Try.f63) xk63_0) ⟨[t0, t1, t2, t3, t4, t5, t6, t7, t8, t9, t10, t11, t12, v9, (V.lit (Value.bool true)), t1, v11, v13, t18], h14⟩) (
  opsP (xX s 63 wl k false) xg63_0 13 m0 ac (runK (xX s 63 wl k false) (bodyK s.P Try.f63) xk63_0) ⟨[t0, t1, t2, t3, t4, t5, t6, t7, t8, t9, t10, t11, t12, v9, (V.lit (Value.bool false)), uu, uu, uu, t18], h10⟩) (
  opsP (xX s 63 wl k false) xg63_0 11 m0 ac (runK (xX s 63 wl k false) (bodyK s.P Try.f63) xk63_0) ⟨[t0, t1, t2, t3, t4, t5, t6, t7, t8, t9, t10, t11, t12, v9, v9, uu, t16, t17, t18], h10⟩) :=
  (go_op0 rfl rfl (st_bm (by kernel_rfl) fun v9 h10 =>
  (go_op0 rfl rfl (st_id (v := v9) (H := h10) (by kernel_rfl)
  (go_gdT0 rfl rfl rfl (by kernel_rfl)
  (st_id (v := t1) (H := h10) (by kernel_rfl)
  (go_run0 rfl rfl rfl (by kernel_rfl) (st_bp (by kernel_rfl) fun v11 h12 =>
  (go_run0 rfl rfl rfl (by kernel_rfl) (st_bm (by kernel_rfl) fun v13 h14 =>
  (by kernel_rfl))))))
  (go_skip0 rfl rfl rfl (by kernel_rfl)
  (go_skip0 rfl rfl rfl (by kernel_rfl)
  (by kernel_rfl)))
  (by kernel_rfl))))))
theorem xm63_1 (s : Sys) (k wl : Nat) (m0 : Nat) (ac : List Nat × List Nat) (t0 t1 t2 t3 t4 t5 t6 t7 t8 t9 t10 t11 t12 t13 t14 t15 t16 t17 t18 : V) (h : Hp) : opsP (xX s 63 wl k false) xg63_0 13 m0 ac (runK (xX s 63 wl k false) (bodyK s.P Try.f63) xk63_0) ⟨[t0, t1, t2, t3, t4, t5, t6, t7, t8, t9, t10, t11, t12, t13, t14, t15, t16, t17, t18], h⟩ =
  bm (vPick t14 t17 (V.lit (Value.bool false))) h fun v15 h16 =>
  some (v15, h16) :=
  (go_op0 rfl rfl (st_bm (by kernel_rfl) fun v15 h16 =>
  (go_op0 rfl rfl (st_id (v := v15) (H := h16) (by kernel_rfl)
  (go_end0 (by kernel_rfl)
  (go_ret (by kernel_rfl)))))))
theorem xk63_0_ret (cx : Cx) (K : Out → St → Option (V × Hp)) (s : St) : runK cx K xk63_0 .ret s = K .ret s := by kernel_rfl
-- names: xb63, xm63_0, xm63_1, xk63_0_ret
/-! 64 poacher/model.rules: 0 t, 1 s, 2 k, 3 t, 4 s, 5 k, 7 up, 8 root -/

theorem xb64 (s : Sys) (k wl : Nat) (t0 t1 t2 : V) (h : Hp) : bodyV (xX s 64 wl k false) Try.f64 [t0, t1, t2] h =
  bp (opBox t0 h) fun v1 h2 =>
  bp (opBox t1 h2) fun v3 h4 =>
  bp (opBox t2 h4) fun v5 h6 =>
  bm (vLoad s.P 22 v1 h6) h6 fun v7 h8 =>
  bm (vLoad s.P 3 v5 h8) h8 fun v9 h10 =>
  bp (callV (xX s 64 wl k false) false true (.fn (.func 36) [] []) [v7, v9] h10) fun v11 h12 =>
  bp (opAlloc s.P 3 h12) fun v13 h14 =>
  bs (vStore s.P wl 3 v13 v11 h14) fun h15 =>
  bp (some (.map h15.length, h15 ++ [.map []])) fun v16 h17 =>
  bm (vBuild s.P 67 [(0, (V.lit (Value.int .i64 0))), (1, (V.lit (Value.int .i64 1))), (2, (.fn (.func 87) [] [v13]))]) h17 fun v18 h19 =>
  bs (vInsert s.P wl 69 v16 (V.lit (Value.int .i64 0)) v18 h19) fun h20 =>
  bm (vBuild s.P 67 [(0, (V.lit (Value.int .i64 0))), (1, (V.lit (Value.int .i64 0))), (2, (.fn (.func 87) [] [v13]))]) h20 fun v21 h22 =>
  bs (vInsert s.P wl 69 v16 (V.lit (Value.int .i64 1)) v21 h22) fun h23 =>
  bm (vBuild s.P 67 [(0, (V.lit (Value.int .i64 0))), (1, (V.lit (Value.int .i64 1))), (2, (.fn (.func 88) [] [v13, v3]))]) h23 fun v24 h25 =>
  bs (vInsert s.P wl 69 v16 (V.lit (Value.int .i64 3)) v24 h25) fun h26 =>
  bm (vBuild s.P 67 [(0, (V.lit (Value.int .i64 1))), (1, (V.lit (Value.int .i64 2))), (2, (.fn (.func 89) [] []))]) h26 fun v27 h28 =>
  bs (vInsert s.P wl 69 v16 (V.lit (Value.int .i64 2)) v27 h28) fun h29 =>
  bm (vBuild s.P 67 [(0, (V.lit (Value.int .i64 2))), (1, (V.lit (Value.int .i64 3))), (2, (.fn (.func 90) [] [v1, v5, v3]))]) h29 fun v30 h31 =>
  bs (vInsert s.P wl 69 v16 (V.lit (Value.int .i64 4)) v30 h31) fun h32 =>
  some (v16, h32) :=
  bodyV_run rfl (go_seq (go_reg0
  (go_op0 rfl rfl (st_bp (by kernel_rfl) fun v1 h2 =>
  (go_op0 rfl rfl (st_bp (by kernel_rfl) fun v3 h4 =>
  (go_op0 rfl rfl (st_bp (by kernel_rfl) fun v5 h6 =>
  (go_op0 rfl rfl (st_id (v := (constV (Value.map none))) (H := h6) (by kernel_rfl)
  (go_end0 (by kernel_rfl)
  (go_seq (go_reg0
  (go_op0 rfl rfl (st_bm (by kernel_rfl) fun v7 h8 =>
  (go_op0 rfl rfl (st_bm (by kernel_rfl) fun v9 h10 =>
  (go_op0 rfl rfl (st_bp (by kernel_rfl) fun v11 h12 =>
  (go_op0 rfl rfl (st_bp (by kernel_rfl) fun v13 h14 =>
  (go_op0 rfl rfl (st_bs (by kernel_rfl) fun h15 =>
  (go_end0 (by kernel_rfl)
  (go_seq (go_reg0
  (go_op0 rfl rfl (st_id (v := (.fn (.func 87) [] [v13])) (H := h15) (by kernel_rfl)
  (go_op0 rfl rfl (st_id (v := (.fn (.func 87) [] [v13])) (H := h15) (by kernel_rfl)
  (go_end0 (by kernel_rfl)
  (go_seq (go_reg0
  (go_op0 rfl rfl (st_bp (by kernel_rfl) fun v16 h17 =>
  (go_op0 rfl rfl (st_id (v := (.fn (.func 87) [] [v13])) (H := h17) (by kernel_rfl)
  (go_op0 rfl rfl (st_bm (by kernel_rfl) fun v18 h19 =>
  (go_op0 rfl rfl (st_bs (by kernel_rfl) fun h20 =>
  (go_op0 rfl rfl (st_id (v := (.fn (.func 87) [] [v13])) (H := h20) (by kernel_rfl)
  (go_op0 rfl rfl (st_bm (by kernel_rfl) fun v21 h22 =>
  (go_op0 rfl rfl (st_bs (by kernel_rfl) fun h23 =>
  (go_op0 rfl rfl (st_id (v := (.fn (.func 88) [] [v13, v3])) (H := h23) (by kernel_rfl)
  (go_op0 rfl rfl (st_bm (by kernel_rfl) fun v24 h25 =>
  (go_op0 rfl rfl (st_bs (by kernel_rfl) fun h26 =>
  (go_op0 rfl rfl (st_bm (by kernel_rfl) fun v27 h28 =>
  (go_op0 rfl rfl (st_bs (by kernel_rfl) fun h29 =>
  (go_op0 rfl rfl (st_id (v := (.fn (.func 90) [] [v1, v5, v3])) (H := h29) (by kernel_rfl)
  (go_op0 rfl rfl (st_bm (by kernel_rfl) fun v30 h31 =>
  (go_op0 rfl rfl (st_bs (by kernel_rfl) fun h32 =>
  (go_op0 rfl rfl (st_id (v := v16) (H := h32) (by kernel_rfl)
  (go_op0 rfl rfl (st_id (v := v16) (H := h32) (by kernel_rfl)
  (go_end0 (by kernel_rfl)
  (go_ret (by kernel_rfl))))))))))))))))))))))))))))))))))))))))))))))))))))))))))))))))))))))
theorem xe64 (k wl : Nat) (t0 t1 t2 : V) (h : Hp) : evF Try.prog xM (k + 1) wl 64 [t0, t1, t2] h = bodyV (xX (xS k) 64 wl k false) Try.f64 [t0, t1, t2] h := by kernel_rfl
-- names: xb64, 
/-! 67 poacher/model.run: 0 t, 1 l, 2 t, 3 l, 6 s, 7 is, 8 _, 9 e -/
noncomputable def xl67_0 : Code := codeAt (bodyOf Try.f67) [1, 0, 1, 1, 0, 1, 0, 0]
noncomputable def xk67_0 : List Fr := [.block 0, .seq (codeAt (bodyOf Try.f67) [1, 0, 1, 1, 1]), .scope (codeAt (bodyOf Try.f67) [1, 0])]
theorem xb67 (s : Sys) (k wl : Nat) (t0 t1 : V) (h : Hp) : bodyV (xX s 67 wl k false) Try.f67 [t0, t1] h =
  bp (some (.own h.length 0 0, h ++ [.rows 0 [] 0 true])) fun v1 h2 =>
  bp (callV (xX s 67 wl k false) false true (.fn (.func 28) [] []) [t0] h2) fun v3 h4 =>
  bp (opLen s.P 26 t1 h4) fun v5 h6 =>
  itX (xX s 67 wl k false) xl67_0 h6.length (runK (xX s 67 wl k false) (bodyK s.P Try.f67) xk67_0) k ⟨[(V.kill h6.length t0), (V.kill h6.length t1), (V.kill h6.length uu), (V.kill h6.length uu), (V.kill h6.length v1), (V.lit (Value.bool false)), (V.kill h6.length v3), (V.lit (Value.bool true)), (V.kill h6.length uu), (V.kill h6.length uu), (V.kill h6.length t0), (V.kill h6.length v3), (V.kill h6.length t1), (V.kill h6.length v5), (V.lit (Value.int .i64 0)), .junk, .junk, .junk, .junk, .junk, .junk, .junk, .junk, .junk, .junk, .junk, .junk, .junk, (V.kill h6.length uu), (V.kill h6.length uu)], cutH h6.length h6⟩ :=
  bodyV_run rfl (go_seq (go_reg0
  (go_op0 rfl rfl (st_bp (by kernel_rfl) fun v1 h2 =>
  (go_op0 rfl rfl (st_id (v := (V.lit (Value.bool false))) (H := h2) (by kernel_rfl)
  (go_end0 (by kernel_rfl)
  (go_scope (go_seq (go_reg0
  (go_op0 rfl rfl (st_id (v := t0) (H := h2) (by kernel_rfl)
  (go_op0 rfl rfl (st_bp (by kernel_rfl) fun v3 h4 =>
  (go_op0 rfl rfl (st_id (v := v3) (H := h4) (by kernel_rfl)
  (go_op0 rfl rfl (st_id (v := (V.lit (Value.bool true))) (H := h4) (by kernel_rfl)
  (go_end0 (by kernel_rfl)
  (go_seq (go_label (go_seq (go_seq (go_reg0
  (go_op0 rfl rfl (st_id (v := t1) (H := h4) (by kernel_rfl)
  (go_op0 rfl rfl (st_bp (by kernel_rfl) fun v5 h6 =>
  (go_op0 rfl rfl (st_id (v := (V.lit (Value.int .i64 0))) (H := h6) (by kernel_rfl)
  (go_end0 (by kernel_rfl)
  (go_block (by kernel_rfl)))))))))))))))))))))))))))))))))
theorem xe67 (k wl : Nat) (t0 t1 : V) (h : Hp) : evF Try.prog xM (k + 1) wl 67 [t0, t1] h = bodyV (xX (xS k) 67 wl k false) Try.f67 [t0, t1] h := by kernel_rfl
theorem xz67 (P : Program) (t0 t1 t2 t3 t4 t5 t6 t7 t8 t9 t10 t11 t12 t13 t14 t15 t16 t17 t18 t19 t20 t21 t22 t23 t24 t25 t26 t27 t28 t29 : V) (h : Hp) : bodyK P Try.f67 .ret ⟨[t0, t1, t2, t3, t4, t5, t6, t7, t8, t9, t10, t11, t12, t13, t14, t15, t16, t17, t18, t19, t20, t21, t22, t23, t24, t25, t26, t27, t28, t29], h⟩ = some (.tup [t4, t5], h) := by kernel_rfl
theorem xr67_0 (s : Sys) (K : Out → St → Option (V × Hp)) (k wl : Nat) (rd : Bool) (n n0 : Nat) (t0 t1 t2 t3 t4 t5 t6 t7 t8 t9 t10 t11 t12 t13 t14 t15 t16 t17 t18 t19 t20 t21 t22 t23 t24 t25 t26 t27 t28 t29 : V) (h : Hp) : itX (xX s 67 wl k rd) xl67_0 n0 K (n + 1) ⟨[t0, t1, t2, t3, t4, t5, t6, t7, t8, t9, t10, t11, t12, t13, t14, t15, t16, t17, t18, t19, t20, t21, t22, t23, t24, t25, t26, t27, t28, t29], h⟩ =
  bm (vBin s.P .lss 3 t14 t13) h fun v7 h8 =>
  cnd v7 (
  bm (vIndexAddr s.P 26 t12 t14 h8) h8 fun v9 h10 =>
  bm (vLoad s.P 25 v9 h10) h10 fun v11 h12 =>
  bp (opAlloc s.P 25 h12) fun v13 h14 =>
  bs (vStore s.P wl 25 v13 v11 h14) fun h15 =>
  bm (vLoad s.P 25 v13 h15) h15 fun v16 h17 =>
  bp (callV (xX s 67 wl k rd) false true (.fn (.func 25) [] []) [t0, t6, v16] h17) fun v18 h19 =>
  bm (vExtract v18 0) h19 fun v20 h21 =>
  bm (vExtract v18 1) h21 fun v22 h23 =>
  bm (vUn .not v22) h23 fun v24 h25 =>
  cnd v24 (
  K (.exit 0) ⟨[(V.kill n0 t0), (V.kill n0 t1), (V.kill n0 t2), (V.kill n0 t3), (V.kill n0 t4), (V.kill n0 t5), (V.kill n0 v20), (V.kill n0 v22), (V.kill n0 t8), (V.kill n0 v13), (V.kill n0 t10), (V.kill n0 t11), (V.kill n0 t12), (V.kill n0 t13), .junk, .junk, .junk, .junk, .junk, .junk, .junk, .junk, .junk, .junk, .junk, .junk, .junk, .junk, (V.kill n0 t28), (V.kill n0 t29)], cutH n0 h25⟩) (
  bm (vBin s.P .add 3 t14 (V.lit (Value.int .i64 1))) h25 fun v26 h27 =>
  itX (xX s 67 wl k rd) xl67_0 n0 K n ⟨[(V.kill n0 t0), (V.kill n0 t1), (V.kill n0 t2), (V.kill n0 t3), (V.kill n0 t4), (V.kill n0 t5), (V.kill n0 v20), (V.kill n0 v22), (V.kill n0 t8), (V.kill n0 v13), (V.kill n0 t10), (V.kill n0 t11), (V.kill n0 t12), (V.kill n0 t13), (V.kill n0 v26), .junk, .junk, .junk, .junk, .junk, .junk, .junk, .junk, .junk, .junk, .junk, .junk, .junk, (V.kill n0 t28), (V.kill n0 t29)], cutH n0 h27⟩)) (
  K (.exit 0) ⟨[(V.kill n0 t0), (V.kill n0 t1), (V.kill n0 t2), (V.kill n0 t3), (V.kill n0 t4), (V.kill n0 t5), (V.kill n0 t6), (V.kill n0 t7), (V.kill n0 t8), (V.kill n0 t9), (V.kill n0 t10), (V.kill n0 t11), (V.kill n0 t12), (V.kill n0 t13), .junk, .junk, .junk, .junk, .junk, .junk, .junk, .junk, .junk, .junk, .junk, .junk, .junk, .junk, (V.kill n0 t28), (V.kill n0 t29)], cutH n0 h8⟩) :=
  itX_step (go_seq (go_reg0
  (go_op0 rfl rfl (st_bm (by kernel_rfl) fun v7 h8 =>
  (go_end0 (by kernel_rfl)
  (go_seq (go_cond (by kernel_rfl)
  (go_skip (go_seq (go_block (go_seq (go_reg0
  (go_op0 rfl rfl (st_bm (by kernel_rfl) fun v9 h10 =>
  (go_op0 rfl rfl (st_bm (by kernel_rfl) fun v11 h12 =>
  (go_op0 rfl rfl (st_bp (by kernel_rfl) fun v13 h14 =>
  (go_op0 rfl rfl (st_bs (by kernel_rfl) fun h15 =>
  (go_end0 (by kernel_rfl)
  (go_seq (go_reg0
  (go_op0 rfl rfl (st_id (v := t0) (H := h15) (by kernel_rfl)
  (go_op0 rfl rfl (st_id (v := t6) (H := h15) (by kernel_rfl)
  (go_op0 rfl rfl (st_bm (by kernel_rfl) fun v16 h17 =>
  (go_op0 rfl rfl (st_bp (by kernel_rfl) fun v18 h19 =>
  (go_op0 rfl rfl (st_id (v := v18) (H := h19) (by kernel_rfl)
  (go_op0 rfl rfl (st_bm (by kernel_rfl) fun v20 h21 =>
  (go_op0 rfl rfl (st_bm (by kernel_rfl) fun v22 h23 =>
  (go_op0 rfl rfl (st_id (v := v20) (H := h23) (by kernel_rfl)
  (go_op0 rfl rfl (st_id (v := v22) (H := h23) (by kernel_rfl)
  (go_end0 (by kernel_rfl)
  (go_seq (go_reg0
  (go_op0 rfl rfl (st_id (v := v22) (H := h23) (by kernel_rfl)
  (go_op0 rfl rfl (st_bm (by kernel_rfl) fun v24 h25 =>
  (go_end0 (by kernel_rfl)
  (go_cond (by kernel_rfl)
  (go_exit (rt_block_ne rfl (rt_seq_exit (by kernel_rfl))))
  (go_skip (rt_block_norm (go_reg0
  (go_op0 rfl rfl (st_bm (by kernel_rfl) fun v26 h27 =>
  (go_op0 rfl rfl (st_id (v := v26) (H := h27) (by kernel_rfl)
  (go_end0 (by kernel_rfl)
  (by kernel_rfl))))))))))))))))))))))))))))))))))))))))))))))))))))
  (go_exit (rt_seq_exit (by kernel_rfl))))))))))
theorem xj67_0 (s : Sys) (k wl : Nat) (t0 t1 t2 t3 t4 t5 t6 t7 t8 t9 t10 t11 t12 t13 t14 t15 t16 t17 t18 t19 t20 t21 t22 t23 t24 t25 t26 t27 t28 t29 : V) (h : Hp) : runK (xX s 67 wl k false) (bodyK s.P Try.f67) xk67_0 (.exit 0) ⟨[t0, t1, t2, t3, t4, t5, t6, t7, t8, t9, t10, t11, t12, t13, t14, t15, t16, t17, t18, t19, t20, t21, t22, t23, t24, t25, t26, t27, t28, t29], h⟩ =
  some (.tup [t6, t7], h) :=
  (rt_block_eq (go_seq (go_reg0
  (go_op0 rfl rfl (st_id (v := t6) (H := h) (by kernel_rfl)
  (go_op0 rfl rfl (st_id (v := t7) (H := h) (by kernel_rfl)
  (go_op0 rfl rfl (st_id (v := t6) (H := h) (by kernel_rfl)
  (go_op0 rfl rfl (st_id (v := t7) (H := h) (by kernel_rfl)
  (go_end0 (by kernel_rfl)
  (go_ret (rt_scope_ret (by kernel_rfl)))))))))))))))
theorem xk67_0_ret (cx : Cx) (K : Out → St → Option (V × Hp)) (s : St) : runK cx K xk67_0 .ret s = K .ret s := by kernel_rfl
-- names: xb67, xz67, xr67_0, xj67_0, xk67_0_ret
/-! 68 slices.ContainsFunc[[]int,int]: 0 s, 1 f, 2 s, 3 f -/

theorem xb68 (s : Sys) (k wl : Nat) (t0 t1 : V) (h : Hp) : bodyV (xX s 68 wl k false) Try.f68 [t0, t1] h =
  bp (callV (xX s 68 wl k false) false true (.fn (.func 92) [] []) [t0, t1] h) fun v1 h2 =>
  bm (vBin s.P .geq 3 v1 (V.lit (Value.int .i64 0))) h2 fun v3 h4 =>
  some (v3, h4) :=
  bodyV_run rfl (go_seq (go_reg0
  (go_op0 rfl rfl (st_id (v := (V.lit (Value.bool false))) (H := h) (by kernel_rfl)
  (go_end0 (by kernel_rfl)
  (go_seq (go_reg0
  (go_op0 rfl rfl (st_id (v := t0) (H := h) (by kernel_rfl)
  (go_op0 rfl rfl (st_id (v := t1) (H := h) (by kernel_rfl)
  (go_op0 rfl rfl (st_bp (by kernel_rfl) fun v1 h2 =>
  (go_op0 rfl rfl (st_bm (by kernel_rfl) fun v3 h4 =>
  (go_op0 rfl rfl (st_id (v := v3) (H := h4) (by kernel_rfl)
  (go_end0 (by kernel_rfl)
  (go_ret (by kernel_rfl))))))))))))))))))))
theorem xe68 (k wl : Nat) (t0 t1 : V) (h : Hp) : evF Try.prog xM (k + 1) wl 68 [t0, t1] h = bodyV (xX (xS k) 68 wl k false) Try.f68 [t0, t1] h := by kernel_rfl
-- names: xb68, 
/-! 69 poacher/model.Calm$1: 0 n, 1 n -/
noncomputable def xg69_0 : Code := codeAt (bodyOf Try.f69) [1, 0]
noncomputable def xk69_0 : List Fr := [.seq (codeAt (bodyOf Try.f69) [1, 1])]
theorem xb69 (s : Sys) (k wl : Nat) (t0 : V) (h : Hp) : bodyV (xX s 69 wl k false) Try.f69 [t0] h =
  bm (vBin s.P .eql 3 t0 (V.lit (Value.int .i64 1))) h fun v1 h2 =>
  gd v1 (
  opsP (xX s 69 wl k false) xg69_0 5 h.length ([], []) (runK (xX s 69 wl k false) (bodyK s.P Try.f69) xk69_0) ⟨[t0, uu, (V.lit (Value.bool false)), t0, v1, (V.lit (Value.bool true)), uu, uu, uu], h2⟩) (
  bm (vBin s.P .eql 3 t0 (V.lit (Value.int .i64 2))) h2 fun v3 h4 =>
  opsP (xX s 69 wl k false) xg69_0 5 h.length ([], []) (runK (xX s 69 wl k false) (bodyK s.P Try.f69) xk69_0) ⟨[t0, uu, (V.lit (Value.bool false)), t0, v1, (V.lit (Value.bool false)), t0, v3, uu], h4⟩) (
  opsP (xX s 69 wl k false) xg69_0 4 h.length ([], []) (runK (xX s 69 wl k false) (bodyK s.P Try.f69) xk69_0) ⟨[t0, uu, (V.lit (Value.bool false)), t0, v1, v1, uu, uu, uu], h2⟩) :=
  bodyV_run rfl (go_seq (go_reg0
  (go_op0 rfl rfl (st_id (v := (V.lit (Value.bool false))) (H := h) (by kernel_rfl)
  (go_end0 (by kernel_rfl)
  (go_seq (go_reg0
  (go_op0 rfl rfl (st_id (v := t0) (H := h) (by kernel_rfl)
  (go_op0 rfl rfl (st_bm (by kernel_rfl) fun v1 h2 =>
  (go_op0 rfl rfl (st_id (v := v1) (H := h2) (by kernel_rfl)
  (go_gdF0 rfl rfl rfl (by kernel_rfl)
  (go_skip0 rfl rfl rfl (by kernel_rfl)
  (by kernel_rfl))
  (st_id (v := t0) (H := h2) (by kernel_rfl)
  (go_run0 rfl rfl rfl (by kernel_rfl) (st_bm (by kernel_rfl) fun v3 h4 =>
  (by kernel_rfl))))
  (by kernel_rfl)))))))))))))))
theorem xe69 (k wl : Nat) (t0 : V) (h : Hp) : evF Try.prog xM (k + 1) wl 69 [t0] h = bodyV (xX (xS k) 69 wl k false) Try.f69 [t0] h := by kernel_rfl
theorem xm69_0 (s : Sys) (k wl : Nat) (m0 : Nat) (ac : List Nat × List Nat) (t0 t1 t2 t3 t4 t5 t6 t7 t8 : V) (h : Hp) : opsP (xX s 69 wl k false) xg69_0 5 m0 ac (runK (xX s 69 wl k false) (bodyK s.P Try.f69) xk69_0) ⟨[t0, t1, t2, t3, t4, t5, t6, t7, t8], h⟩ =
  bm (vPick t5 (V.lit (Value.bool true)) t7) h fun v5 h6 =>
  some (v5, h6) :=
  (go_op0 rfl rfl (st_bm (by kernel_rfl) fun v5 h6 =>
  (go_op0 rfl rfl (st_id (v := v5) (H := h6) (by kernel_rfl)
  (go_end0 (by kernel_rfl)
  (go_ret (by kernel_rfl)))))))
theorem xk69_0_ret (cx : Cx) (K : Out → St → Option (V × Hp)) (s : St) : runK cx K xk69_0 .ret s = K .ret s := by kernel_rfl
-- names: xb69, xm69_0, xk69_0_ret
/-! 86 poacher/model.fits$1: 0 n, 1 n -/
noncomputable def xg86_0 : Code := codeAt (bodyOf Try.f86) [1, 0]
noncomputable def xk86_0 : List Fr := [.seq (codeAt (bodyOf Try.f86) [1, 1])]
theorem xb86 (s : Sys) (k wl : Nat) (t0 : V) (h : Hp) : bodyV (xX s 86 wl k false) Try.f86 [t0] h =
  bm (vBin s.P .lss 3 t0 (V.lit (Value.int .i64 0))) h fun v1 h2 =>
  gd v1 (
  opsP (xX s 86 wl k false) xg86_0 5 h.length ([], []) (runK (xX s 86 wl k false) (bodyK s.P Try.f86) xk86_0) ⟨[t0, uu, (V.lit (Value.bool false)), t0, v1, (V.lit (Value.bool true)), uu, uu, uu], h2⟩) (
  bm (vBin s.P .gtr 3 t0 (V.lit (Value.int .i64 3))) h2 fun v3 h4 =>
  opsP (xX s 86 wl k false) xg86_0 5 h.length ([], []) (runK (xX s 86 wl k false) (bodyK s.P Try.f86) xk86_0) ⟨[t0, uu, (V.lit (Value.bool false)), t0, v1, (V.lit (Value.bool false)), t0, v3, uu], h4⟩) (
  opsP (xX s 86 wl k false) xg86_0 4 h.length ([], []) (runK (xX s 86 wl k false) (bodyK s.P Try.f86) xk86_0) ⟨[t0, uu, (V.lit (Value.bool false)), t0, v1, v1, uu, uu, uu], h2⟩) :=
  bodyV_run rfl (go_seq (go_reg0
  (go_op0 rfl rfl (st_id (v := (V.lit (Value.bool false))) (H := h) (by kernel_rfl)
  (go_end0 (by kernel_rfl)
  (go_seq (go_reg0
  (go_op0 rfl rfl (st_id (v := t0) (H := h) (by kernel_rfl)
  (go_op0 rfl rfl (st_bm (by kernel_rfl) fun v1 h2 =>
  (go_op0 rfl rfl (st_id (v := v1) (H := h2) (by kernel_rfl)
  (go_gdF0 rfl rfl rfl (by kernel_rfl)
  (go_skip0 rfl rfl rfl (by kernel_rfl)
  (by kernel_rfl))
  (st_id (v := t0) (H := h2) (by kernel_rfl)
  (go_run0 rfl rfl rfl (by kernel_rfl) (st_bm (by kernel_rfl) fun v3 h4 =>
  (by kernel_rfl))))
  (by kernel_rfl)))))))))))))))
theorem xe86 (k wl : Nat) (t0 : V) (h : Hp) : evF Try.prog xM (k + 1) wl 86 [t0] h = bodyV (xX (xS k) 86 wl k false) Try.f86 [t0] h := by kernel_rfl
theorem xm86_0 (s : Sys) (k wl : Nat) (m0 : Nat) (ac : List Nat × List Nat) (t0 t1 t2 t3 t4 t5 t6 t7 t8 : V) (h : Hp) : opsP (xX s 86 wl k false) xg86_0 5 m0 ac (runK (xX s 86 wl k false) (bodyK s.P Try.f86) xk86_0) ⟨[t0, t1, t2, t3, t4, t5, t6, t7, t8], h⟩ =
  bm (vPick t5 (V.lit (Value.bool true)) t7) h fun v5 h6 =>
  some (v5, h6) :=
  (go_op0 rfl rfl (st_bm (by kernel_rfl) fun v5 h6 =>
  (go_op0 rfl rfl (st_id (v := v5) (H := h6) (by kernel_rfl)
  (go_end0 (by kernel_rfl)
  (go_ret (by kernel_rfl)))))))
theorem xk86_0_ret (cx : Cx) (K : Out → St → Option (V × Hp)) (s : St) : runK cx K xk86_0 .ret s = K .ret s := by kernel_rfl
-- names: xb86, xm86_0, xk86_0_ret
/-! 87 poacher/model.rules$1:  -/

theorem xb87 (s : Sys) (k wl : Nat) (t0 : V) (h : Hp) : bodyV (xX s 87 wl k false) Try.f87 [t0] h =
  bm (vLoad s.P 3 t0 h) h fun v1 h2 =>
  bm (vBin s.P .lss 3 v1 (V.lit (Value.int .i64 0))) h2 fun v3 h4 =>
  some (v3, h4) :=
  bodyV_run rfl (go_seq (go_reg0
  (go_op0 rfl rfl (st_id (v := (V.lit (Value.bool false))) (H := h) (by kernel_rfl)
  (go_end0 (by kernel_rfl)
  (go_seq (go_reg0
  (go_op0 rfl rfl (st_bm (by kernel_rfl) fun v1 h2 =>
  (go_op0 rfl rfl (st_bm (by kernel_rfl) fun v3 h4 =>
  (go_op0 rfl rfl (st_id (v := v3) (H := h4) (by kernel_rfl)
  (go_end0 (by kernel_rfl)
  (go_ret (by kernel_rfl))))))))))))))))
theorem xe87 (k wl : Nat) (t0 : V) (h : Hp) : evF Try.prog xM (k + 1) wl 87 [t0] h = bodyV (xX (xS k) 87 wl k false) Try.f87 [t0] h := by kernel_rfl
-- names: xb87, 
/-! 88 poacher/model.rules$2:  -/
noncomputable def xg88_0 : Code := codeAt (bodyOf Try.f88) [1, 0]
noncomputable def xk88_0 : List Fr := [.seq (codeAt (bodyOf Try.f88) [1, 1])]
theorem xb88 (s : Sys) (k wl : Nat) (t0 t1 : V) (h : Hp) : bodyV (xX s 88 wl k false) Try.f88 [t0, t1] h =
  bm (vLoad s.P 3 t0 h) h fun v1 h2 =>
  bm (vBin s.P .geq 3 v1 (V.lit (Value.int .i64 0))) h2 fun v3 h4 =>
  gd v3 (
  bm (vLoad s.P 23 t1 h4) h4 fun v5 h6 =>
  bm (vLoad s.P 3 t0 h6) h6 fun v7 h8 =>
  bm (vIndexAddr s.P 23 v5 v7 h8) h8 fun v9 h10 =>
  bm (vLoad s.P 3 v9 h10) h10 fun v11 h12 =>
  bm (vBin s.P .eql 3 v11 (V.lit (Value.int .i64 2))) h12 fun v13 h14 =>
  opsP (xX s 88 wl k false) xg88_0 8 h.length ([], []) (runK (xX s 88 wl k false) (bodyK s.P Try.f88) xk88_0) ⟨[t0, t1, (V.lit (Value.bool false)), v1, v3, (V.lit (Value.bool true)), v5, v7, v9, v11, v13, uu], h14⟩) (
  opsP (xX s 88 wl k false) xg88_0 8 h.length ([], []) (runK (xX s 88 wl k false) (bodyK s.P Try.f88) xk88_0) ⟨[t0, t1, (V.lit (Value.bool false)), v1, v3, (V.lit (Value.bool false)), uu, uu, uu, uu, uu, uu], h4⟩) (
  opsP (xX s 88 wl k false) xg88_0 4 h.length ([], []) (runK (xX s 88 wl k false) (bodyK s.P Try.f88) xk88_0) ⟨[t0, t1, (V.lit (Value.bool false)), v1, v3, v3, uu, uu, uu, uu, uu, uu], h4⟩) :=
  bodyV_run rfl (go_seq (go_reg0
  (go_op0 rfl rfl (st_id (v := (V.lit (Value.bool false))) (H := h) (by kernel_rfl)
  (go_end0 (by kernel_rfl)
  (go_seq (go_reg0
  (go_op0 rfl rfl (st_bm (by kernel_rfl) fun v1 h2 =>
  (go_op0 rfl rfl (st_bm (by kernel_rfl) fun v3 h4 =>
  (go_op0 rfl rfl (st_id (v := v3) (H := h4) (by kernel_rfl)
  (go_gdT0 rfl rfl rfl (by kernel_rfl)
  (st_bm (by kernel_rfl) fun v5 h6 =>
  (go_run0 rfl rfl rfl (by kernel_rfl) (st_bm (by kernel_rfl) fun v7 h8 =>
  (go_run0 rfl rfl rfl (by kernel_rfl) (st_bm (by kernel_rfl) fun v9 h10 =>
  (go_run0 rfl rfl rfl (by kernel_rfl) (st_bm (by kernel_rfl) fun v11 h12 =>
  (go_run0 rfl rfl rfl (by kernel_rfl) (st_bm (by kernel_rfl) fun v13 h14 =>
  (by kernel_rfl))))))))))
  (go_skip0 rfl rfl rfl (by kernel_rfl)
  (go_skip0 rfl rfl rfl (by kernel_rfl)
  (go_skip0 rfl rfl rfl (by kernel_rfl)
  (go_skip0 rfl rfl rfl (by kernel_rfl)
  (by kernel_rfl)))))
  (by kernel_rfl)))))))))))))))
theorem xe88 (k wl : Nat) (t0 t1 : V) (h : Hp) : evF Try.prog xM (k + 1) wl 88 [t0, t1] h = bodyV (xX (xS k) 88 wl k false) Try.f88 [t0, t1] h := by kernel_rfl
theorem xm88_0 (s : Sys) (k wl : Nat) (m0 : Nat) (ac : List Nat × List Nat) (t0 t1 t2 t3 t4 t5 t6 t7 t8 t9 t10 t11 : V) (h : Hp) : opsP (xX s 88 wl k false) xg88_0 8 m0 ac (runK (xX s 88 wl k false) (bodyK s.P Try.f88) xk88_0) ⟨[t0, t1, t2, t3, t4, t5, t6, t7, t8, t9, t10, t11], h⟩ =
  bm (vPick t5 t10 (V.lit (Value.bool false))) h fun v15 h16 =>
  some (v15, h16) :=
  (go_op0 rfl rfl (st_bm (by kernel_rfl) fun v15 h16 =>
  (go_op0 rfl rfl (st_id (v := v15) (H := h16) (by kernel_rfl)
  (go_end0 (by kernel_rfl)
  (go_ret (by kernel_rfl)))))))
theorem xk88_0_ret (cx : Cx) (K : Out → St → Option (V × Hp)) (s : St) : runK cx K xk88_0 .ret s = K .ret s := by kernel_rfl
-- names: xb88, xm88_0, xk88_0_ret
/-! 89 poacher/model.rules$3:  -/

theorem xb89 (s : Sys) (k wl : Nat) (h : Hp) : bodyV (xX s 89 wl k false) Try.f89 [] h =
  some ((V.lit (Value.bool true)), h) :=
  bodyV_run rfl (go_seq (go_reg0
  (go_op0 rfl rfl (st_id (v := (V.lit (Value.bool false))) (H := h) (by kernel_rfl)
  (go_end0 (by kernel_rfl)
  (go_seq (go_reg0
  (go_op0 rfl rfl (st_id (v := (V.lit (Value.bool true))) (H := h) (by kernel_rfl)
  (go_end0 (by kernel_rfl)
  (go_ret (by kernel_rfl))))))))))))
theorem xe89 (k wl : Nat) (h : Hp) : evF Try.prog xM (k + 1) wl 89 [] h = bodyV (xX (xS k) 89 wl k false) Try.f89 [] h := by kernel_rfl
-- names: xb89, 
/-! 90 poacher/model.rules$4:  -/

theorem xb90 (s : Sys) (k wl : Nat) (t0 t1 t2 : V) (h : Hp) : bodyV (xX s 90 wl k false) Try.f90 [t0, t1, t2] h =
  bm (vLoad s.P 22 t0 h) h fun v1 h2 =>
  bm (vLoad s.P 3 t1 h2) h2 fun v3 h4 =>
  bm (vIndexAddr s.P 22 v1 v3 h4) h4 fun v5 h6 =>
  bm (vFieldAddr s.P 40 v5 1) h6 fun v7 h8 =>
  bm (vLoad s.P 23 v7 h8) h8 fun v9 h10 =>
  bp (callV (xX s 90 wl k false) false true (.fn (.func 68) [] []) [v9, (.fn (.func 91) [] [t2])] h10) fun v11 h12 =>
  bm (vUn .not v11) h12 fun v13 h14 =>
  some (v13, h14) :=
  bodyV_run rfl (go_seq (go_reg0
  (go_op0 rfl rfl (st_id (v := (V.lit (Value.bool false))) (H := h) (by kernel_rfl)
  (go_end0 (by kernel_rfl)
  (go_seq (go_reg0
  (go_op0 rfl rfl (st_bm (by kernel_rfl) fun v1 h2 =>
  (go_op0 rfl rfl (st_bm (by kernel_rfl) fun v3 h4 =>
  (go_op0 rfl rfl (st_bm (by kernel_rfl) fun v5 h6 =>
  (go_op0 rfl rfl (st_bm (by kernel_rfl) fun v7 h8 =>
  (go_op0 rfl rfl (st_bm (by kernel_rfl) fun v9 h10 =>
  (go_op0 rfl rfl (st_id (v := (.fn (.func 91) [] [t2])) (H := h10) (by kernel_rfl)
  (go_op0 rfl rfl (st_bp (by kernel_rfl) fun v11 h12 =>
  (go_op0 rfl rfl (st_bm (by kernel_rfl) fun v13 h14 =>
  (go_op0 rfl rfl (st_id (v := v13) (H := h14) (by kernel_rfl)
  (go_end0 (by kernel_rfl)
  (go_ret (by kernel_rfl))))))))))))))))))))))))))))
theorem xe90 (k wl : Nat) (t0 t1 t2 : V) (h : Hp) : evF Try.prog xM (k + 1) wl 90 [t0, t1, t2] h = bodyV (xX (xS k) 90 wl k false) Try.f90 [t0, t1, t2] h := by kernel_rfl
-- names: xb90, 
/-! 91 poacher/model.rules$4$1: 0 i, 2 i -/

theorem xb91 (s : Sys) (k wl : Nat) (t0 t1 : V) (h : Hp) : bodyV (xX s 91 wl k false) Try.f91 [t0, t1] h =
  bm (vLoad s.P 23 t1 h) h fun v1 h2 =>
  bm (vIndexAddr s.P 23 v1 t0 h2) h2 fun v3 h4 =>
  bm (vLoad s.P 3 v3 h4) h4 fun v5 h6 =>
  bm (vBin s.P .eql 3 v5 (V.lit (Value.int .i64 0))) h6 fun v7 h8 =>
  some (v7, h8) :=
  bodyV_run rfl (go_seq (go_reg0
  (go_op0 rfl rfl (st_id (v := (V.lit (Value.bool false))) (H := h) (by kernel_rfl)
  (go_end0 (by kernel_rfl)
  (go_seq (go_reg0
  (go_op0 rfl rfl (st_bm (by kernel_rfl) fun v1 h2 =>
  (go_op0 rfl rfl (st_id (v := t0) (H := h2) (by kernel_rfl)
  (go_op0 rfl rfl (st_bm (by kernel_rfl) fun v3 h4 =>
  (go_op0 rfl rfl (st_bm (by kernel_rfl) fun v5 h6 =>
  (go_op0 rfl rfl (st_bm (by kernel_rfl) fun v7 h8 =>
  (go_op0 rfl rfl (st_id (v := v7) (H := h8) (by kernel_rfl)
  (go_end0 (by kernel_rfl)
  (go_ret (by kernel_rfl))))))))))))))))))))))
theorem xe91 (k wl : Nat) (t0 t1 : V) (h : Hp) : evF Try.prog xM (k + 1) wl 91 [t0, t1] h = bodyV (xX (xS k) 91 wl k false) Try.f91 [t0, t1] h := by kernel_rfl
-- names: xb91, 
/-! 92 slices.IndexFunc[[]int,int]: 0 s, 1 f, 2 s, 3 f, 5 i -/
noncomputable def xl92_0 : Code := codeAt (bodyOf Try.f92) [1, 0, 1, 0, 0]
noncomputable def xk92_0 : List Fr := [.block 0, .seq (codeAt (bodyOf Try.f92) [1, 1])]
theorem xb92 (s : Sys) (k wl : Nat) (t0 t1 : V) (h : Hp) : bodyV (xX s 92 wl k false) Try.f92 [t0, t1] h =
  bp (opLen s.P 23 t0 h) fun v1 h2 =>
  itX (xX s 92 wl k false) xl92_0 h2.length (runK (xX s 92 wl k false) (bodyK s.P Try.f92) xk92_0) k ⟨[(V.kill h2.length t0), (V.kill h2.length t1), (V.kill h2.length uu), (V.kill h2.length uu), (V.lit (Value.int .i64 0)), (V.kill h2.length uu), (V.kill h2.length t0), (V.kill h2.length v1), (V.lit (Value.int .i64 0)), .junk, .junk, .junk, .junk, .junk, .junk, .junk, .junk, .junk, .junk], cutH h2.length h2⟩ :=
  bodyV_run rfl (go_seq (go_reg0
  (go_op0 rfl rfl (st_id (v := (V.lit (Value.int .i64 0))) (H := h) (by kernel_rfl)
  (go_end0 (by kernel_rfl)
  (go_seq (go_seq (go_reg0
  (go_op0 rfl rfl (st_id (v := t0) (H := h) (by kernel_rfl)
  (go_op0 rfl rfl (st_bp (by kernel_rfl) fun v1 h2 =>
  (go_op0 rfl rfl (st_id (v := (V.lit (Value.int .i64 0))) (H := h2) (by kernel_rfl)
  (go_end0 (by kernel_rfl)
  (go_block (by kernel_rfl)))))))))))))))))
theorem xe92 (k wl : Nat) (t0 t1 : V) (h : Hp) : evF Try.prog xM (k + 1) wl 92 [t0, t1] h = bodyV (xX (xS k) 92 wl k false) Try.f92 [t0, t1] h := by kernel_rfl
theorem xz92 (P : Program) (t0 t1 t2 t3 t4 t5 t6 t7 t8 t9 t10 t11 t12 t13 t14 t15 t16 t17 t18 : V) (h : Hp) : bodyK P Try.f92 .ret ⟨[t0, t1, t2, t3, t4, t5, t6, t7, t8, t9, t10, t11, t12, t13, t14, t15, t16, t17, t18], h⟩ = some (t4, h) := by kernel_rfl
theorem xr92_0 (s : Sys) (K : Out → St → Option (V × Hp)) (k wl : Nat) (rd : Bool) (n n0 : Nat) (t0 t1 t2 t3 t4 t5 t6 t7 t8 t9 t10 t11 t12 t13 t14 t15 t16 t17 t18 : V) (h : Hp) : itX (xX s 92 wl k rd) xl92_0 n0 K (n + 1) ⟨[t0, t1, t2, t3, t4, t5, t6, t7, t8, t9, t10, t11, t12, t13, t14, t15, t16, t17, t18], h⟩ =
  bm (vBin s.P .lss 3 t8 t7) h fun v3 h4 =>
  cnd v3 (
  bm (vIndexAddr s.P 23 t0 t8 h4) h4 fun v5 h6 =>
  bm (vLoad s.P 3 v5 h6) h6 fun v7 h8 =>
  bp (callV (xX s 92 wl k rd) false true t1 [v7] h8) fun v9 h10 =>
  cnd v9 (
  K .ret ⟨[t0, t1, t2, t3, t8, t8, t6, t7, t8, v3, t8, t1, t0, t8, v5, v7, v9, t8, t18], h10⟩) (
  bm (vBin s.P .add 3 t8 (V.lit (Value.int .i64 1))) h10 fun v11 h12 =>
  itX (xX s 92 wl k rd) xl92_0 n0 K n ⟨[(V.kill n0 t0), (V.kill n0 t1), (V.kill n0 t2), (V.kill n0 t3), (V.kill n0 t4), (V.kill n0 t8), (V.kill n0 t6), (V.kill n0 t7), (V.kill n0 v11), .junk, .junk, .junk, .junk, .junk, .junk, .junk, .junk, .junk, .junk], cutH n0 h12⟩)) (
  K (.exit 0) ⟨[(V.kill n0 t0), (V.kill n0 t1), (V.kill n0 t2), (V.kill n0 t3), (V.kill n0 t4), (V.kill n0 t5), (V.kill n0 t6), (V.kill n0 t7), .junk, .junk, .junk, .junk, .junk, .junk, .junk, .junk, .junk, .junk, .junk], cutH n0 h4⟩) :=
  itX_step (go_seq (go_reg0
  (go_op0 rfl rfl (st_bm (by kernel_rfl) fun v3 h4 =>
  (go_end0 (by kernel_rfl)
  (go_seq (go_cond (by kernel_rfl)
  (go_skip (go_seq (go_block (go_seq (go_reg0
  (go_op0 rfl rfl (st_id (v := t8) (H := h4) (by kernel_rfl)
  (go_op0 rfl rfl (st_id (v := t8) (H := h4) (by kernel_rfl)
  (go_end0 (by kernel_rfl)
  (go_seq (go_reg0
  (go_op0 rfl rfl (st_id (v := t1) (H := h4) (by kernel_rfl)
  (go_op0 rfl rfl (st_id (v := t0) (H := h4) (by kernel_rfl)
  (go_op0 rfl rfl (st_id (v := t8) (H := h4) (by kernel_rfl)
  (go_op0 rfl rfl (st_bm (by kernel_rfl) fun v5 h6 =>
  (go_op0 rfl rfl (st_bm (by kernel_rfl) fun v7 h8 =>
  (go_op0 rfl rfl (st_bp (by kernel_rfl) fun v9 h10 =>
  (go_end0 (by kernel_rfl)
  (go_cond (by kernel_rfl)
  (go_seq (go_reg0
  (go_op0 rfl rfl (st_id (v := t8) (H := h10) (by kernel_rfl)
  (go_op0 rfl rfl (st_id (v := t8) (H := h10) (by kernel_rfl)
  (go_end0 (by kernel_rfl)
  (go_ret (rt_block_ret (rt_seq_ret (by kernel_rfl)))))))))))
  (go_skip (rt_block_norm (go_reg0
  (go_op0 rfl rfl (st_bm (by kernel_rfl) fun v11 h12 =>
  (go_op0 rfl rfl (st_id (v := v11) (H := h12) (by kernel_rfl)
  (go_end0 (by kernel_rfl)
  (by kernel_rfl)))))))))))))))))))))))))))))))))))
  (go_exit (rt_seq_exit (by kernel_rfl))))))))))
theorem xj92_0 (s : Sys) (k wl : Nat) (t0 t1 t2 t3 t4 t5 t6 t7 t8 t9 t10 t11 t12 t13 t14 t15 t16 t17 t18 : V) (h : Hp) : runK (xX s 92 wl k false) (bodyK s.P Try.f92) xk92_0 (.exit 0) ⟨[t0, t1, t2, t3, t4, t5, t6, t7, t8, t9, t10, t11, t12, t13, t14, t15, t16, t17, t18], h⟩ =
  some ((V.lit (Value.int .i64 (-1))), h) :=
  (rt_block_eq (go_seq (go_reg0
  (go_op0 rfl rfl (st_id (v := (V.lit (Value.int .i64 (-1)))) (H := h) (by kernel_rfl)
  (go_end0 (by kernel_rfl)
  (go_ret (by kernel_rfl))))))))
theorem xk92_0_ret (cx : Cx) (K : Out → St → Option (V × Hp)) (s : St) : runK cx K xk92_0 .ret s = K .ret s := by kernel_rfl
-- names: xb92, xz92, xr92_0, xj92_0, xk92_0_ret
end Go.Ab
