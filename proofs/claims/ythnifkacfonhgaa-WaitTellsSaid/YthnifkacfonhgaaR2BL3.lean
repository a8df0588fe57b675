/- The program's code, point by point: printed by gen.py. -/
import Derived.Test.YthnifkacfonhgaaR2Seat
set_option maxRecDepth 100000
set_option linter.unusedVariables false
namespace Go.Ab
open Go.Proofs
/-! 3 poacher/poacherlaw14.WaitTells: 0 c, 1 m, 2 f, 3 c, 4 m, 5 f, 7 up, 8 a, 9 g, 10 b, 11 h, 12 same, 13 parked, 14 waits -/
noncomputable def xg3_0 : Code := codeAt (bodyOf Try.f3) [1, 1, 0, 0]
noncomputable def xk3_0 : List Fr := [.seq (codeAt (bodyOf Try.f3) [1, 1, 0, 1]), .seq (codeAt (bodyOf Try.f3) [1, 1, 1])]
noncomputable def xg3_1 : Code := codeAt (bodyOf Try.f3) [1, 1, 1, 1, 1, 1, 1, 1, 0]
noncomputable def xk3_1 : List Fr := [.seq (codeAt (bodyOf Try.f3) [1, 1, 1, 1, 1, 1, 1, 1, 1])]
theorem xb3 (s : Sys) (k wl : Nat) (t0 t1 t2 : V) (h : Hp) : bodyV (xX s 3 wl k false) Try.f3 [t0, t1, t2] h =
  bp (opBox t0 h) fun v1 h2 =>
  bp (opBox t2 h2) fun v3 h4 =>
  bp (callV (xX s 3 wl k false) false true (.fn (.func 20) [] []) [] h4) fun v5 h6 =>
  bm (vUn .not v5) h6 fun v7 h8 =>
  gd v7 (
  opsP (xX s 3 wl k false) xg3_0 6 h6.length ([], []) (runK (xX s 3 wl k false) (bodyK s.P Try.f3) xk3_0) ⟨(t0 :: t1 :: t2 :: v1 :: uu :: v3 :: (V.lit (Value.bool false)) :: v5 :: uu :: uu :: uu :: uu :: uu :: uu :: uu :: v5 :: v5 :: v7 :: (V.lit (Value.bool true)) :: uu :: uu :: uu :: uu :: uu :: uu :: uu :: uu :: uu :: uu :: uu :: uu :: uu :: uu :: uu :: uu :: uu :: uu :: uu :: uu :: uu :: uu :: uu :: uu :: uu :: uu :: uu :: uu :: uu :: uu :: uu :: uu :: uu :: uu :: uu :: uu :: uu :: uu :: uu :: uu :: uu :: uu :: uu :: uu :: uu :: uu :: uu :: uu :: uu :: uu :: []), h8⟩) (
  bp (opLen s.P 25 t1 h8) fun v9 h10 =>
  bm (vBin s.P .gtr 3 v9 (V.lit (Value.int .i64 500))) h10 fun v11 h12 =>
  opsP (xX s 3 wl k false) xg3_0 6 h6.length ([], []) (runK (xX s 3 wl k false) (bodyK s.P Try.f3) xk3_0) ⟨(t0 :: t1 :: t2 :: v1 :: uu :: v3 :: (V.lit (Value.bool false)) :: v5 :: uu :: uu :: uu :: uu :: uu :: uu :: uu :: v5 :: v5 :: v7 :: (V.lit (Value.bool false)) :: t1 :: v9 :: v11 :: uu :: uu :: uu :: uu :: uu :: uu :: uu :: uu :: uu :: uu :: uu :: uu :: uu :: uu :: uu :: uu :: uu :: uu :: uu :: uu :: uu :: uu :: uu :: uu :: uu :: uu :: uu :: uu :: uu :: uu :: uu :: uu :: uu :: uu :: uu :: uu :: uu :: uu :: uu :: uu :: uu :: uu :: uu :: uu :: uu :: uu :: uu :: []), h12⟩) (
  opsP (xX s 3 wl k false) xg3_0 4 h6.length ([], []) (runK (xX s 3 wl k false) (bodyK s.P Try.f3) xk3_0) ⟨(t0 :: t1 :: t2 :: v1 :: uu :: v3 :: (V.lit (Value.bool false)) :: v5 :: uu :: uu :: uu :: uu :: uu :: uu :: uu :: v5 :: v5 :: v7 :: v7 :: uu :: uu :: uu :: uu :: uu :: uu :: uu :: uu :: uu :: uu :: uu :: uu :: uu :: uu :: uu :: uu :: uu :: uu :: uu :: uu :: uu :: uu :: uu :: uu :: uu :: uu :: uu :: uu :: uu :: uu :: uu :: uu :: uu :: uu :: uu :: uu :: uu :: uu :: uu :: uu :: uu :: uu :: uu :: uu :: uu :: uu :: uu :: uu :: uu :: uu :: []), h8⟩) :=
  bodyV_run rfl (go_seq (go_reg0
  (go_op0 rfl rfl (st_bp (by kernel_rfl) fun v1 h2 =>
  (go_op0 rfl rfl (st_bp (by kernel_rfl) fun v3 h4 =>
  (go_op0 rfl rfl (st_id (v := (V.lit (Value.bool false))) (H := h4) (by kernel_rfl)
  (go_end0 (by kernel_rfl)
  (go_seq (go_reg0
  (go_op0 rfl rfl (st_bp (by kernel_rfl) fun v5 h6 =>
  (go_op0 rfl rfl (st_id (v := v5) (H := h6) (by kernel_rfl)
  (go_end0 (by kernel_rfl)
  (go_seq (go_seq (go_reg0
  (go_op0 rfl rfl (st_id (v := v5) (H := h6) (by kernel_rfl)
  (go_op0 rfl rfl (st_bm (by kernel_rfl) fun v7 h8 =>
  (go_op0 rfl rfl (st_id (v := v7) (H := h8) (by kernel_rfl)
  (go_gdF0 rfl rfl rfl (by kernel_rfl)
  (go_skip0 rfl rfl rfl (by kernel_rfl)
  (go_skip0 rfl rfl rfl (by kernel_rfl)
  (by kernel_rfl)))
  (st_id (v := t1) (H := h8) (by kernel_rfl)
  (go_run0 rfl rfl rfl (by kernel_rfl) (st_bp (by kernel_rfl) fun v9 h10 =>
  (go_run0 rfl rfl rfl (by kernel_rfl) (st_bm (by kernel_rfl) fun v11 h12 =>
  (by kernel_rfl))))))
  (by kernel_rfl)))))))))))))))))))))))))))
theorem xe3 (k wl : Nat) (t0 t1 t2 : V) (h : Hp) : evF Try.prog xM (k + 1) wl 3 [t0, t1, t2] h = bodyV (xX (xS k) 3 wl k false) Try.f3 [t0, t1, t2] h := by kernel_rfl
theorem xm3_0 (s : Sys) (k wl : Nat) (m0 : Nat) (ac : List Nat × List Nat) (t0 t1 t2 t3 t4 t5 t6 t7 t8 t9 t10 t11 t12 t13 t14 t15 t16 t17 t18 t19 t20 t21 t22 t23 t24 t25 t26 t27 t28 t29 t30 t31 t32 t33 t34 t35 t36 t37 t38 t39 t40 t41 t42 t43 t44 t45 t46 t47 t48 t49 t50 t51 t52 t53 t54 t55 t56 t57 t58 t59 t60 t61 t62 t63 t64 t65 t66 t67 t68 : V) (h : Hp) : opsP (xX s 3 wl k false) xg3_0 6 m0 ac (runK (xX s 3 wl k false) (bodyK s.P Try.f3) xk3_0) ⟨(t0 :: t1 :: t2 :: t3 :: t4 :: t5 :: t6 :: t7 :: t8 :: t9 :: t10 :: t11 :: t12 :: t13 :: t14 :: t15 :: t16 :: t17 :: t18 :: t19 :: t20 :: t21 :: t22 :: t23 :: t24 :: t25 :: t26 :: t27 :: t28 :: t29 :: t30 :: t31 :: t32 :: t33 :: t34 :: t35 :: t36 :: t37 :: t38 :: t39 :: t40 :: t41 :: t42 :: t43 :: t44 :: t45 :: t46 :: t47 :: t48 :: t49 :: t50 :: t51 :: t52 :: t53 :: t54 :: t55 :: t56 :: t57 :: t58 :: t59 :: t60 :: t61 :: t62 :: t63 :: t64 :: t65 :: t66 :: t67 :: t68 :: []), h⟩ =
  bm (vPick t18 (V.lit (Value.bool true)) t21) h fun v13 h14 =>
  cnd v13 (
  some (t7, h14)) (
  bm (vLoad s.P 23 t3 h14) h14 fun v15 h16 =>
  bm (vLoad s.P 28 t5 h16) h16 fun v17 h18 =>
  bp (callV (xX s 3 wl k false) false true (.fn (.func 21) [] []) [v15, t1, v17] h18) fun v19 h20 =>
  bm (vExtract v19 0) h20 fun v21 h22 =>
  bm (vExtract v19 1) h22 fun v23 h24 =>
  bp (opAlloc s.P 28 h24) fun v25 h26 =>
  bs (vStore s.P wl 28 v25 v23 h26) fun h27 =>
  bm (vLoad s.P 23 t3 h27) h27 fun v28 h29 =>
  bm (vLoad s.P 28 t5 h29) h29 fun v30 h31 =>
  bp (callV (xX s 3 wl k false) false true (.fn (.func 22) [] []) [v28, t1, v30] h31) fun v32 h33 =>
  bm (vExtract v32 0) h33 fun v34 h35 =>
  bm (vExtract v32 1) h35 fun v36 h37 =>
  bp (opAlloc s.P 28 h37) fun v38 h39 =>
  bs (vStore s.P wl 28 v38 v36 h39) fun h40 =>
  bp (callV (xX s 3 wl k false) false true (.fn (.func 23) [] []) [v21, v34] h40) fun v41 h42 =>
  bm (vLoad s.P 28 t5 h42) h42 fun v43 h44 =>
  bp (callV (xX s 3 wl k false) false true (.fn (.func 24) [] []) [v43] h44) fun v45 h46 =>
  bm (vLoad s.P 23 t3 h46) h46 fun v47 h48 =>
  bm (vFieldAddr s.P 28 t5 2) h48 fun v49 h50 =>
  bm (vLoad s.P 3 v49 h50) h50 fun v51 h52 =>
  bp (callV (xX s 3 wl k false) false true (.fn (.func 25) [] []) [v47, t1, v51] h52) fun v53 h54 =>
  gd v41 (
  bm (vLoad s.P 28 v25 h54) h54 fun v55 h56 =>
  bm (vLoad s.P 28 v38 h56) h56 fun v57 h58 =>
  bm (vBin s.P .eql 28 v55 v57) h58 fun v59 h60 =>
  opsP (xX s 3 wl k false) xg3_1 5 h54.length ([], []) (runK (xX s 3 wl k false) (bodyK s.P Try.f3) xk3_1) ⟨(t0 :: t1 :: t2 :: t3 :: t4 :: t5 :: t6 :: t7 :: v21 :: v25 :: v34 :: v38 :: v41 :: v45 :: v53 :: t15 :: t16 :: t17 :: t18 :: t19 :: t20 :: t21 :: v13 :: t23 :: v19 :: v15 :: t1 :: v17 :: v19 :: v21 :: v23 :: v32 :: v28 :: t1 :: v30 :: v32 :: v34 :: v36 :: v21 :: v34 :: v41 :: v43 :: v45 :: v47 :: t1 :: v49 :: v51 :: v53 :: v41 :: (V.lit (Value.bool true)) :: v55 :: v57 :: v59 :: t53 :: t54 :: t55 :: t56 :: t57 :: t58 :: t59 :: t60 :: t61 :: t62 :: t63 :: t64 :: t65 :: t66 :: t67 :: t68 :: []), h60⟩) (
  opsP (xX s 3 wl k false) xg3_1 5 h54.length ([], []) (runK (xX s 3 wl k false) (bodyK s.P Try.f3) xk3_1) ⟨(t0 :: t1 :: t2 :: t3 :: t4 :: t5 :: t6 :: t7 :: v21 :: v25 :: v34 :: v38 :: v41 :: v45 :: v53 :: t15 :: t16 :: t17 :: t18 :: t19 :: t20 :: t21 :: v13 :: t23 :: v19 :: v15 :: t1 :: v17 :: v19 :: v21 :: v23 :: v32 :: v28 :: t1 :: v30 :: v32 :: v34 :: v36 :: v21 :: v34 :: v41 :: v43 :: v45 :: v47 :: t1 :: v49 :: v51 :: v53 :: v41 :: (V.lit (Value.bool false)) :: uu :: uu :: uu :: t53 :: t54 :: t55 :: t56 :: t57 :: t58 :: t59 :: t60 :: t61 :: t62 :: t63 :: t64 :: t65 :: t66 :: t67 :: t68 :: []), h54⟩) (
  opsP (xX s 3 wl k false) xg3_1 3 h54.length ([], []) (runK (xX s 3 wl k false) (bodyK s.P Try.f3) xk3_1) ⟨(t0 :: t1 :: t2 :: t3 :: t4 :: t5 :: t6 :: t7 :: v21 :: v25 :: v34 :: v38 :: v41 :: v45 :: v53 :: t15 :: t16 :: t17 :: t18 :: t19 :: t20 :: t21 :: v13 :: t23 :: v19 :: v15 :: t1 :: v17 :: v19 :: v21 :: v23 :: v32 :: v28 :: t1 :: v30 :: v32 :: v34 :: v36 :: v21 :: v34 :: v41 :: v43 :: v45 :: v47 :: t1 :: v49 :: v51 :: v53 :: v41 :: v41 :: uu :: t51 :: t52 :: t53 :: t54 :: t55 :: t56 :: t57 :: t58 :: t59 :: t60 :: t61 :: t62 :: t63 :: t64 :: t65 :: t66 :: t67 :: t68 :: []), h54⟩)) :=
  (go_op0 rfl rfl (st_bm (by kernel_rfl) fun v13 h14 =>
  (go_end0 (by kernel_rfl)
  (go_cond (by kernel_rfl)
  (go_seq (go_reg0
  (go_op0 rfl rfl (st_id (v := t7) (H := h14) (by kernel_rfl)
  (go_op0 rfl rfl (st_id (v := t7) (H := h14) (by kernel_rfl)
  (go_end0 (by kernel_rfl)
  (go_ret (rt_seq_ret (by kernel_rfl))))))))))
  (go_skip (go_seq (go_reg0
  (go_op0 rfl rfl (st_bm (by kernel_rfl) fun v15 h16 =>
  (go_op0 rfl rfl (st_id (v := t1) (H := h16) (by kernel_rfl)
  (go_op0 rfl rfl (st_bm (by kernel_rfl) fun v17 h18 =>
  (go_op0 rfl rfl (st_bp (by kernel_rfl) fun v19 h20 =>
  (go_op0 rfl rfl (st_id (v := v19) (H := h20) (by kernel_rfl)
  (go_op0 rfl rfl (st_bm (by kernel_rfl) fun v21 h22 =>
  (go_op0 rfl rfl (st_bm (by kernel_rfl) fun v23 h24 =>
  (go_op0 rfl rfl (st_bp (by kernel_rfl) fun v25 h26 =>
  (go_op0 rfl rfl (st_id (v := v21) (H := h26) (by kernel_rfl)
  (go_op0 rfl rfl (st_bs (by kernel_rfl) fun h27 =>
  (go_end0 (by kernel_rfl)
  (go_seq (go_reg0
  (go_op0 rfl rfl (st_bm (by kernel_rfl) fun v28 h29 =>
  (go_op0 rfl rfl (st_id (v := t1) (H := h29) (by kernel_rfl)
  (go_op0 rfl rfl (st_bm (by kernel_rfl) fun v30 h31 =>
  (go_op0 rfl rfl (st_bp (by kernel_rfl) fun v32 h33 =>
  (go_op0 rfl rfl (st_id (v := v32) (H := h33) (by kernel_rfl)
  (go_op0 rfl rfl (st_bm (by kernel_rfl) fun v34 h35 =>
  (go_op0 rfl rfl (st_bm (by kernel_rfl) fun v36 h37 =>
  (go_op0 rfl rfl (st_bp (by kernel_rfl) fun v38 h39 =>
  (go_op0 rfl rfl (st_id (v := v34) (H := h39) (by kernel_rfl)
  (go_op0 rfl rfl (st_bs (by kernel_rfl) fun h40 =>
  (go_end0 (by kernel_rfl)
  (go_seq (go_reg0
  (go_op0 rfl rfl (st_id (v := v21) (H := h40) (by kernel_rfl)
  (go_op0 rfl rfl (st_id (v := v34) (H := h40) (by kernel_rfl)
  (go_op0 rfl rfl (st_bp (by kernel_rfl) fun v41 h42 =>
  (go_op0 rfl rfl (st_id (v := v41) (H := h42) (by kernel_rfl)
  (go_end0 (by kernel_rfl)
  (go_seq (go_reg0
  (go_op0 rfl rfl (st_bm (by kernel_rfl) fun v43 h44 =>
  (go_op0 rfl rfl (st_bp (by kernel_rfl) fun v45 h46 =>
  (go_op0 rfl rfl (st_id (v := v45) (H := h46) (by kernel_rfl)
  (go_end0 (by kernel_rfl)
  (go_seq (go_reg0
  (go_op0 rfl rfl (st_bm (by kernel_rfl) fun v47 h48 =>
  (go_op0 rfl rfl (st_id (v := t1) (H := h48) (by kernel_rfl)
  (go_op0 rfl rfl (st_bm (by kernel_rfl) fun v49 h50 =>
  (go_op0 rfl rfl (st_bm (by kernel_rfl) fun v51 h52 =>
  (go_op0 rfl rfl (st_bp (by kernel_rfl) fun v53 h54 =>
  (go_op0 rfl rfl (st_id (v := v53) (H := h54) (by kernel_rfl)
  (go_end0 (by kernel_rfl)
  (go_seq (go_reg0
  (go_op0 rfl rfl (st_id (v := v41) (H := h54) (by kernel_rfl)
  (go_op0 rfl rfl (st_id (v := v41) (H := h54) (by kernel_rfl)
  (go_gdT0 rfl rfl rfl (by kernel_rfl)
  (st_bm (by kernel_rfl) fun v55 h56 =>
  (go_run0 rfl rfl rfl (by kernel_rfl) (st_bm (by kernel_rfl) fun v57 h58 =>
  (go_run0 rfl rfl rfl (by kernel_rfl) (st_bm (by kernel_rfl) fun v59 h60 =>
  (by kernel_rfl))))))
  (go_skip0 rfl rfl rfl (by kernel_rfl)
  (go_skip0 rfl rfl rfl (by kernel_rfl)
  (by kernel_rfl)))
  (by kernel_rfl))))))))))))))))))))))))))))))))))))))))))))))))))))))))))))))))))))))))))))))))))))))))))))))
theorem xm3_1 (s : Sys) (k wl : Nat) (m0 : Nat) (ac : List Nat × List Nat) (t0 t1 t2 t3 t4 t5 t6 t7 t8 t9 t10 t11 t12 t13 t14 t15 t16 t17 t18 t19 t20 t21 t22 t23 t24 t25 t26 t27 t28 t29 t30 t31 t32 t33 t34 t35 t36 t37 t38 t39 t40 t41 t42 t43 t44 t45 t46 t47 t48 t49 t50 t51 t52 t53 t54 t55 t56 t57 t58 t59 t60 t61 t62 t63 t64 t65 t66 t67 t68 : V) (h : Hp) : opsP (xX s 3 wl k false) xg3_1 5 m0 ac (runK (xX s 3 wl k false) (bodyK s.P Try.f3) xk3_1) ⟨(t0 :: t1 :: t2 :: t3 :: t4 :: t5 :: t6 :: t7 :: t8 :: t9 :: t10 :: t11 :: t12 :: t13 :: t14 :: t15 :: t16 :: t17 :: t18 :: t19 :: t20 :: t21 :: t22 :: t23 :: t24 :: t25 :: t26 :: t27 :: t28 :: t29 :: t30 :: t31 :: t32 :: t33 :: t34 :: t35 :: t36 :: t37 :: t38 :: t39 :: t40 :: t41 :: t42 :: t43 :: t44 :: t45 :: t46 :: t47 :: t48 :: t49 :: t50 :: t51 :: t52 :: t53 :: t54 :: t55 :: t56 :: t57 :: t58 :: t59 :: t60 :: t61 :: t62 :: t63 :: t64 :: t65 :: t66 :: t67 :: t68 :: []), h⟩ =
  bm (vPick t49 t52 (V.lit (Value.bool false))) h fun v61 h62 =>
  gd v61 (
  bm (vLoad s.P 28 t5 h62) h62 fun v63 h64 =>
  bp (callV (xX s 3 wl k false) false true (.fn (.func 26) [] []) [v63] h64) fun v65 h66 =>
  bm (vBin s.P .eql 4 v65 t13) h66 fun v67 h68 =>
  opsP (xX s 3 wl k false) xg3_1 11 m0 ac (runK (xX s 3 wl k false) (bodyK s.P Try.f3) xk3_1) ⟨(t0 :: t1 :: t2 :: t3 :: t4 :: t5 :: t6 :: t7 :: t8 :: t9 :: t10 :: t11 :: t12 :: t13 :: t14 :: t15 :: t16 :: t17 :: t18 :: t19 :: t20 :: t21 :: t22 :: t23 :: t24 :: t25 :: t26 :: t27 :: t28 :: t29 :: t30 :: t31 :: t32 :: t33 :: t34 :: t35 :: t36 :: t37 :: t38 :: t39 :: t40 :: t41 :: t42 :: t43 :: t44 :: t45 :: t46 :: t47 :: t48 :: t49 :: t50 :: t51 :: t52 :: v61 :: (V.lit (Value.bool true)) :: v63 :: v65 :: t13 :: v67 :: t59 :: t60 :: t61 :: t62 :: t63 :: t64 :: t65 :: t66 :: t67 :: t68 :: []), h68⟩) (
  opsP (xX s 3 wl k false) xg3_1 11 m0 ac (runK (xX s 3 wl k false) (bodyK s.P Try.f3) xk3_1) ⟨(t0 :: t1 :: t2 :: t3 :: t4 :: t5 :: t6 :: t7 :: t8 :: t9 :: t10 :: t11 :: t12 :: t13 :: t14 :: t15 :: t16 :: t17 :: t18 :: t19 :: t20 :: t21 :: t22 :: t23 :: t24 :: t25 :: t26 :: t27 :: t28 :: t29 :: t30 :: t31 :: t32 :: t33 :: t34 :: t35 :: t36 :: t37 :: t38 :: t39 :: t40 :: t41 :: t42 :: t43 :: t44 :: t45 :: t46 :: t47 :: t48 :: t49 :: t50 :: t51 :: t52 :: v61 :: (V.lit (Value.bool false)) :: uu :: uu :: uu :: uu :: t59 :: t60 :: t61 :: t62 :: t63 :: t64 :: t65 :: t66 :: t67 :: t68 :: []), h62⟩) (
  opsP (xX s 3 wl k false) xg3_1 8 m0 ac (runK (xX s 3 wl k false) (bodyK s.P Try.f3) xk3_1) ⟨(t0 :: t1 :: t2 :: t3 :: t4 :: t5 :: t6 :: t7 :: t8 :: t9 :: t10 :: t11 :: t12 :: t13 :: t14 :: t15 :: t16 :: t17 :: t18 :: t19 :: t20 :: t21 :: t22 :: t23 :: t24 :: t25 :: t26 :: t27 :: t28 :: t29 :: t30 :: t31 :: t32 :: t33 :: t34 :: t35 :: t36 :: t37 :: t38 :: t39 :: t40 :: t41 :: t42 :: t43 :: t44 :: t45 :: t46 :: t47 :: t48 :: t49 :: t50 :: t51 :: t52 :: v61 :: v61 :: uu :: t56 :: t57 :: t58 :: t59 :: t60 :: t61 :: t62 :: t63 :: t64 :: t65 :: t66 :: t67 :: t68 :: []), h62⟩) :=
  (go_op0 rfl rfl (st_bm (by kernel_rfl) fun v61 h62 =>
  (go_op0 rfl rfl (st_id (v := v61) (H := h62) (by kernel_rfl)
  (go_gdT0 rfl rfl rfl (by kernel_rfl)
  (st_bm (by kernel_rfl) fun v63 h64 =>
  (go_run0 rfl rfl rfl (by kernel_rfl) (st_bp (by kernel_rfl) fun v65 h66 =>
  (go_run0 rfl rfl rfl (by kernel_rfl) (st_id (v := t13) (H := h66) (by kernel_rfl)
  (go_run0 rfl rfl rfl (by kernel_rfl) (st_bm (by kernel_rfl) fun v67 h68 =>
  (by kernel_rfl))))))))
  (go_skip0 rfl rfl rfl (by kernel_rfl)
  (go_skip0 rfl rfl rfl (by kernel_rfl)
  (go_skip0 rfl rfl rfl (by kernel_rfl)
  (by kernel_rfl))))
  (by kernel_rfl))))))
theorem xm3_2 (s : Sys) (k wl : Nat) (m0 : Nat) (ac : List Nat × List Nat) (t0 t1 t2 t3 t4 t5 t6 t7 t8 t9 t10 t11 t12 t13 t14 t15 t16 t17 t18 t19 t20 t21 t22 t23 t24 t25 t26 t27 t28 t29 t30 t31 t32 t33 t34 t35 t36 t37 t38 t39 t40 t41 t42 t43 t44 t45 t46 t47 t48 t49 t50 t51 t52 t53 t54 t55 t56 t57 t58 t59 t60 t61 t62 t63 t64 t65 t66 t67 t68 : V) (h : Hp) : opsP (xX s 3 wl k false) xg3_1 11 m0 ac (runK (xX s 3 wl k false) (bodyK s.P Try.f3) xk3_1) ⟨(t0 :: t1 :: t2 :: t3 :: t4 :: t5 :: t6 :: t7 :: t8 :: t9 :: t10 :: t11 :: t12 :: t13 :: t14 :: t15 :: t16 :: t17 :: t18 :: t19 :: t20 :: t21 :: t22 :: t23 :: t24 :: t25 :: t26 :: t27 :: t28 :: t29 :: t30 :: t31 :: t32 :: t33 :: t34 :: t35 :: t36 :: t37 :: t38 :: t39 :: t40 :: t41 :: t42 :: t43 :: t44 :: t45 :: t46 :: t47 :: t48 :: t49 :: t50 :: t51 :: t52 :: t53 :: t54 :: t55 :: t56 :: t57 :: t58 :: t59 :: t60 :: t61 :: t62 :: t63 :: t64 :: t65 :: t66 :: t67 :: t68 :: []), h⟩ =
  bm (vPick t54 t58 (V.lit (Value.bool false))) h fun v69 h70 =>
  gd v69 (
  bm (vLoad s.P 23 t3 h70) h70 fun v71 h72 =>
  bm (vFieldAddr s.P 28 t5 2) h72 fun v73 h74 =>
  bm (vLoad s.P 3 v73 h74) h74 fun v75 h76 =>
  bp (callV (xX s 3 wl k false) false true (.fn (.func 27) [] []) [v71, t1, v75] h76) fun v77 h78 =>
  bm (vBin s.P .eql 4 v77 t14) h78 fun v79 h80 =>
  opsP (xX s 3 wl k false) xg3_1 20 m0 ac (runK (xX s 3 wl k false) (bodyK s.P Try.f3) xk3_1) ⟨(t0 :: t1 :: t2 :: t3 :: t4 :: t5 :: t6 :: t7 :: t8 :: t9 :: t10 :: t11 :: t12 :: t13 :: t14 :: t15 :: t16 :: t17 :: t18 :: t19 :: t20 :: t21 :: t22 :: t23 :: t24 :: t25 :: t26 :: t27 :: t28 :: t29 :: t30 :: t31 :: t32 :: t33 :: t34 :: t35 :: t36 :: t37 :: t38 :: t39 :: t40 :: t41 :: t42 :: t43 :: t44 :: t45 :: t46 :: t47 :: t48 :: t49 :: t50 :: t51 :: t52 :: t53 :: t54 :: t55 :: t56 :: t57 :: t58 :: v69 :: (V.lit (Value.bool true)) :: v71 :: t1 :: v73 :: v75 :: v77 :: t14 :: v79 :: t68 :: []), h80⟩) (
  opsP (xX s 3 wl k false) xg3_1 20 m0 ac (runK (xX s 3 wl k false) (bodyK s.P Try.f3) xk3_1) ⟨(t0 :: t1 :: t2 :: t3 :: t4 :: t5 :: t6 :: t7 :: t8 :: t9 :: t10 :: t11 :: t12 :: t13 :: t14 :: t15 :: t16 :: t17 :: t18 :: t19 :: t20 :: t21 :: t22 :: t23 :: t24 :: t25 :: t26 :: t27 :: t28 :: t29 :: t30 :: t31 :: t32 :: t33 :: t34 :: t35 :: t36 :: t37 :: t38 :: t39 :: t40 :: t41 :: t42 :: t43 :: t44 :: t45 :: t46 :: t47 :: t48 :: t49 :: t50 :: t51 :: t52 :: t53 :: t54 :: t55 :: t56 :: t57 :: t58 :: v69 :: (V.lit (Value.bool false)) :: uu :: uu :: uu :: uu :: uu :: uu :: uu :: t68 :: []), h70⟩) (
  opsP (xX s 3 wl k false) xg3_1 14 m0 ac (runK (xX s 3 wl k false) (bodyK s.P Try.f3) xk3_1) ⟨(t0 :: t1 :: t2 :: t3 :: t4 :: t5 :: t6 :: t7 :: t8 :: t9 :: t10 :: t11 :: t12 :: t13 :: t14 :: t15 :: t16 :: t17 :: t18 :: t19 :: t20 :: t21 :: t22 :: t23 :: t24 :: t25 :: t26 :: t27 :: t28 :: t29 :: t30 :: t31 :: t32 :: t33 :: t34 :: t35 :: t36 :: t37 :: t38 :: t39 :: t40 :: t41 :: t42 :: t43 :: t44 :: t45 :: t46 :: t47 :: t48 :: t49 :: t50 :: t51 :: t52 :: t53 :: t54 :: t55 :: t56 :: t57 :: t58 :: v69 :: v69 :: uu :: t62 :: t63 :: t64 :: t65 :: t66 :: t67 :: t68 :: []), h70⟩) :=
  (go_op0 rfl rfl (st_bm (by kernel_rfl) fun v69 h70 =>
  (go_op0 rfl rfl (st_id (v := v69) (H := h70) (by kernel_rfl)
  (go_gdT0 rfl rfl rfl (by kernel_rfl)
  (st_bm (by kernel_rfl) fun v71 h72 =>
  (go_run0 rfl rfl rfl (by kernel_rfl) (st_id (v := t1) (H := h72) (by kernel_rfl)
  (go_run0 rfl rfl rfl (by kernel_rfl) (st_bm (by kernel_rfl) fun v73 h74 =>
  (go_run0 rfl rfl rfl (by kernel_rfl) (st_bm (by kernel_rfl) fun v75 h76 =>
  (go_run0 rfl rfl rfl (by kernel_rfl) (st_bp (by kernel_rfl) fun v77 h78 =>
  (go_run0 rfl rfl rfl (by kernel_rfl) (st_id (v := t14) (H := h78) (by kernel_rfl)
  (go_run0 rfl rfl rfl (by kernel_rfl) (st_bm (by kernel_rfl) fun v79 h80 =>
  (by kernel_rfl))))))))))))))
  (go_skip0 rfl rfl rfl (by kernel_rfl)
  (go_skip0 rfl rfl rfl (by kernel_rfl)
  (go_skip0 rfl rfl rfl (by kernel_rfl)
  (go_skip0 rfl rfl rfl (by kernel_rfl)
  (go_skip0 rfl rfl rfl (by kernel_rfl)
  (go_skip0 rfl rfl rfl (by kernel_rfl)
  (by kernel_rfl)))))))
  (by kernel_rfl))))))
theorem xm3_3 (s : Sys) (k wl : Nat) (m0 : Nat) (ac : List Nat × List Nat) (t0 t1 t2 t3 t4 t5 t6 t7 t8 t9 t10 t11 t12 t13 t14 t15 t16 t17 t18 t19 t20 t21 t22 t23 t24 t25 t26 t27 t28 t29 t30 t31 t32 t33 t34 t35 t36 t37 t38 t39 t40 t41 t42 t43 t44 t45 t46 t47 t48 t49 t50 t51 t52 t53 t54 t55 t56 t57 t58 t59 t60 t61 t62 t63 t64 t65 t66 t67 t68 : V) (h : Hp) : opsP (xX s 3 wl k false) xg3_1 20 m0 ac (runK (xX s 3 wl k false) (bodyK s.P Try.f3) xk3_1) ⟨(t0 :: t1 :: t2 :: t3 :: t4 :: t5 :: t6 :: t7 :: t8 :: t9 :: t10 :: t11 :: t12 :: t13 :: t14 :: t15 :: t16 :: t17 :: t18 :: t19 :: t20 :: t21 :: t22 :: t23 :: t24 :: t25 :: t26 :: t27 :: t28 :: t29 :: t30 :: t31 :: t32 :: t33 :: t34 :: t35 :: t36 :: t37 :: t38 :: t39 :: t40 :: t41 :: t42 :: t43 :: t44 :: t45 :: t46 :: t47 :: t48 :: t49 :: t50 :: t51 :: t52 :: t53 :: t54 :: t55 :: t56 :: t57 :: t58 :: t59 :: t60 :: t61 :: t62 :: t63 :: t64 :: t65 :: t66 :: t67 :: t68 :: []), h⟩ =
  bm (vPick t60 t67 (V.lit (Value.bool false))) h fun v81 h82 =>
  some (v81, h82) :=
  (go_op0 rfl rfl (st_bm (by kernel_rfl) fun v81 h82 =>
  (go_op0 rfl rfl (st_id (v := v81) (H := h82) (by kernel_rfl)
  (go_end0 (by kernel_rfl)
  (go_ret (by kernel_rfl)))))))
theorem xk3_0_ret (cx : Cx) (K : Out → St → Option (V × Hp)) (s : St) : runK cx K xk3_0 .ret s = K .ret s := by kernel_rfl
theorem xk3_1_ret (cx : Cx) (K : Out → St → Option (V × Hp)) (s : St) : runK cx K xk3_1 .ret s = K .ret s := by kernel_rfl
-- names: xb3, xm3_0, xm3_1, xm3_2, xm3_3, xk3_0_ret, xk3_1_ret
end Go.Ab
