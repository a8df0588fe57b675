/- The program's code, point by point: printed by gen.py. -/
import Derived.Test.YthnifkacfonhgaaR2Seat
set_option maxRecDepth 100000
set_option linter.unusedVariables false
namespace Go.Ab
open Go.Proofs
/-! 13 poacher/poacherlaw15.NoteBetween: 0 c, 1 m, 2 all, 3 w, 4 c, 5 m, 6 all, 7 w, 9 up, 10 op, 11 f, 12 n, 13 g -/
noncomputable def xk13_0 : List Fr := [.seq (codeAt (bodyOf Try.f13) [1, 1, 1, 1])]
noncomputable def xg13_0 : Code := codeAt (bodyOf Try.f13) [1, 1, 1, 1, 1, 0, 0]
noncomputable def xk13_1 : List Fr := [.seq (codeAt (bodyOf Try.f13) [1, 1, 1, 1, 1, 0, 1]), .seq (codeAt (bodyOf Try.f13) [1, 1, 1, 1, 1, 1])]
noncomputable def xg13_1 : Code := codeAt (bodyOf Try.f13) [1, 1, 1, 1, 1, 1, 0]
noncomputable def xg13_2 : Code := codeAt (bodyOf Try.f13) [1, 1, 1, 1, 1, 1, 1, 1, 1, 0]
noncomputable def xk13_2 : List Fr := [.seq (codeAt (bodyOf Try.f13) [1, 1, 1, 1, 1, 1, 1, 1, 1, 1])]
theorem xo13_8 : orderIx (opsOf xg13_1) = [8, 0, 1, 2, 3, 4, 5, 6, 7, 9, 10] := by kernel_rfl
theorem xo13_8a : (rgOf (opsOf xg13_1)).any = false := by kernel_rfl
theorem xo13_8r : regOk (opsOf xg13_1) = true := by kernel_rfl
theorem xb13 (s : Sys) (k wl : Nat) (t0 t1 t2 t3 : V) (h : Hp) : bodyV (xX s 13 wl k false) Try.f13 [t0, t1, t2, t3] h =
  bp (opBox t0 h) fun v1 h2 =>
  bp (callV (xX s 13 wl k false) false true (.fn (.func 36) [] []) [] h2) fun v3 h4 =>
  cnd t2 (
  runK (xX s 13 wl k false) (bodyK s.P Try.f13) xk13_0 .norm ⟨(t0 :: t1 :: t2 :: t3 :: v1 :: uu :: uu :: uu :: (V.lit (Value.bool false)) :: v3 :: (V.lit (Value.int .i64 7)) :: uu :: uu :: uu :: v3 :: t2 :: uu :: uu :: uu :: uu :: uu :: uu :: uu :: uu :: uu :: uu :: uu :: uu :: uu :: uu :: uu :: uu :: uu :: uu :: uu :: uu :: uu :: uu :: uu :: uu :: uu :: uu :: uu :: uu :: uu :: uu :: uu :: uu :: uu :: uu :: uu :: uu :: uu :: uu :: uu :: uu :: uu :: uu :: uu :: uu :: uu :: uu :: uu :: uu :: uu :: uu :: uu :: uu :: uu :: uu :: uu :: uu :: []), h4⟩) (
  runK (xX s 13 wl k false) (bodyK s.P Try.f13) xk13_0 .norm ⟨(t0 :: t1 :: t2 :: t3 :: v1 :: uu :: uu :: uu :: (V.lit (Value.bool false)) :: v3 :: (V.lit (Value.int .i64 6)) :: uu :: uu :: uu :: v3 :: t2 :: uu :: uu :: uu :: uu :: uu :: uu :: uu :: uu :: uu :: uu :: uu :: uu :: uu :: uu :: uu :: uu :: uu :: uu :: uu :: uu :: uu :: uu :: uu :: uu :: uu :: uu :: uu :: uu :: uu :: uu :: uu :: uu :: uu :: uu :: uu :: uu :: uu :: uu :: uu :: uu :: uu :: uu :: uu :: uu :: uu :: uu :: uu :: uu :: uu :: uu :: uu :: uu :: uu :: uu :: uu :: uu :: []), h4⟩) :=
  bodyV_run rfl (go_seq (go_reg0
  (go_op0 rfl rfl (st_bp (by kernel_rfl) fun v1 h2 =>
  (go_op0 rfl rfl (st_id (v := (V.lit (Value.bool false))) (H := h2) (by kernel_rfl)
  (go_end0 (by kernel_rfl)
  (go_seq (go_reg0
  (go_op0 rfl rfl (st_bp (by kernel_rfl) fun v3 h4 =>
  (go_op0 rfl rfl (st_id (v := v3) (H := h4) (by kernel_rfl)
  (go_end0 (by kernel_rfl)
  (go_seq (go_reg0
  (go_op0 rfl rfl (st_id (v := (V.lit (Value.int .i64 6))) (H := h4) (by kernel_rfl)
  (go_end0 (by kernel_rfl)
  (go_seq (go_seq (go_reg0
  (go_op0 rfl rfl (st_id (v := t2) (H := h4) (by kernel_rfl)
  (go_end0 (by kernel_rfl)
  (go_cond (by kernel_rfl)
  (go_reg0
  (go_op0 rfl rfl (st_id (v := (V.lit (Value.int .i64 7))) (H := h4) (by kernel_rfl)
  (go_end0 (by kernel_rfl)
  (by kernel_rfl)))))
  (go_skip (by kernel_rfl))))))))))))))))))))))))))))
theorem xe13 (k wl : Nat) (t0 t1 t2 t3 : V) (h : Hp) : evF Try.prog xM (k + 1) wl 13 [t0, t1, t2, t3] h = bodyV (xX (xS k) 13 wl k false) Try.f13 [t0, t1, t2, t3] h := by kernel_rfl
theorem xj13_0 (s : Sys) (k wl : Nat) (t0 t1 t2 t3 t4 t5 t6 t7 t8 t9 t10 t11 t12 t13 t14 t15 t16 t17 t18 t19 t20 t21 t22 t23 t24 t25 t26 t27 t28 t29 t30 t31 t32 t33 t34 t35 t36 t37 t38 t39 t40 t41 t42 t43 t44 t45 t46 t47 t48 t49 t50 t51 t52 t53 t54 t55 t56 t57 t58 t59 t60 t61 t62 t63 t64 t65 t66 t67 t68 t69 t70 t71 : V) (h : Hp) : runK (xX s 13 wl k false) (bodyK s.P Try.f13) xk13_0 .norm ⟨(t0 :: t1 :: t2 :: t3 :: t4 :: t5 :: t6 :: t7 :: t8 :: t9 :: t10 :: t11 :: t12 :: t13 :: t14 :: t15 :: t16 :: t17 :: t18 :: t19 :: t20 :: t21 :: t22 :: t23 :: t24 :: t25 :: t26 :: t27 :: t28 :: t29 :: t30 :: t31 :: t32 :: t33 :: t34 :: t35 :: t36 :: t37 :: t38 :: t39 :: t40 :: t41 :: t42 :: t43 :: t44 :: t45 :: t46 :: t47 :: t48 :: t49 :: t50 :: t51 :: t52 :: t53 :: t54 :: t55 :: t56 :: t57 :: t58 :: t59 :: t60 :: t61 :: t62 :: t63 :: t64 :: t65 :: t66 :: t67 :: t68 :: t69 :: t70 :: t71 :: []), h⟩ =
  bp (callV (xX s 13 wl k false) false true (.fn (.func 31) [] []) [t10, (V.lit (Value.int .i64 0)), (V.lit (Value.int .u64 0))] h) fun v5 h6 =>
  bp (opAlloc s.P 28 h6) fun v7 h8 =>
  bs (vStore s.P wl 28 v7 v5 h8) fun h9 =>
  bm (vUn .not t9) h9 fun v10 h11 =>
  gd v10 (
  opsP (xX s 13 wl k false) xg13_0 6 h9.length ([], []) (runK (xX s 13 wl k false) (bodyK s.P Try.f13) xk13_1) ⟨(t0 :: t1 :: t2 :: t3 :: t4 :: t5 :: t6 :: t7 :: t8 :: t9 :: t10 :: v7 :: t12 :: t13 :: t14 :: t15 :: t10 :: v5 :: t9 :: v10 :: (V.lit (Value.bool true)) :: uu :: uu :: uu :: t24 :: t25 :: t26 :: t27 :: t28 :: t29 :: t30 :: t31 :: t32 :: t33 :: t34 :: t35 :: t36 :: t37 :: t38 :: t39 :: t40 :: t41 :: t42 :: t43 :: t44 :: t45 :: t46 :: t47 :: t48 :: t49 :: t50 :: t51 :: t52 :: t53 :: t54 :: t55 :: t56 :: t57 :: t58 :: t59 :: t60 :: t61 :: t62 :: t63 :: t64 :: t65 :: t66 :: t67 :: t68 :: t69 :: t70 :: t71 :: []), h11⟩) (
  bp (opLen s.P 25 t1 h11) fun v12 h13 =>
  bm (vBin s.P .gtr 3 v12 (V.lit (Value.int .i64 500))) h13 fun v14 h15 =>
  opsP (xX s 13 wl k false) xg13_0 6 h9.length ([], []) (runK (xX s 13 wl k false) (bodyK s.P Try.f13) xk13_1) ⟨(t0 :: t1 :: t2 :: t3 :: t4 :: t5 :: t6 :: t7 :: t8 :: t9 :: t10 :: v7 :: t12 :: t13 :: t14 :: t15 :: t10 :: v5 :: t9 :: v10 :: (V.lit (Value.bool false)) :: t1 :: v12 :: v14 :: t24 :: t25 :: t26 :: t27 :: t28 :: t29 :: t30 :: t31 :: t32 :: t33 :: t34 :: t35 :: t36 :: t37 :: t38 :: t39 :: t40 :: t41 :: t42 :: t43 :: t44 :: t45 :: t46 :: t47 :: t48 :: t49 :: t50 :: t51 :: t52 :: t53 :: t54 :: t55 :: t56 :: t57 :: t58 :: t59 :: t60 :: t61 :: t62 :: t63 :: t64 :: t65 :: t66 :: t67 :: t68 :: t69 :: t70 :: t71 :: []), h15⟩) (
  opsP (xX s 13 wl k false) xg13_0 4 h9.length ([], []) (runK (xX s 13 wl k false) (bodyK s.P Try.f13) xk13_1) ⟨(t0 :: t1 :: t2 :: t3 :: t4 :: t5 :: t6 :: t7 :: t8 :: t9 :: t10 :: v7 :: t12 :: t13 :: t14 :: t15 :: t10 :: v5 :: t9 :: v10 :: v10 :: uu :: t22 :: t23 :: t24 :: t25 :: t26 :: t27 :: t28 :: t29 :: t30 :: t31 :: t32 :: t33 :: t34 :: t35 :: t36 :: t37 :: t38 :: t39 :: t40 :: t41 :: t42 :: t43 :: t44 :: t45 :: t46 :: t47 :: t48 :: t49 :: t50 :: t51 :: t52 :: t53 :: t54 :: t55 :: t56 :: t57 :: t58 :: t59 :: t60 :: t61 :: t62 :: t63 :: t64 :: t65 :: t66 :: t67 :: t68 :: t69 :: t70 :: t71 :: []), h11⟩) :=
  (go_seq (go_reg0
  (go_op0 rfl rfl (st_id (v := t10) (H := h) (by kernel_rfl)
  (go_op0 rfl rfl (st_bp (by kernel_rfl) fun v5 h6 =>
  (go_op0 rfl rfl (st_bp (by kernel_rfl) fun v7 h8 =>
  (go_op0 rfl rfl (st_bs (by kernel_rfl) fun h9 =>
  (go_end0 (by kernel_rfl)
  (go_seq (go_seq (go_reg0
  (go_op0 rfl rfl (st_id (v := t9) (H := h9) (by kernel_rfl)
  (go_op0 rfl rfl (st_bm (by kernel_rfl) fun v10 h11 =>
  (go_op0 rfl rfl (st_id (v := v10) (H := h11) (by kernel_rfl)
  (go_gdF0 rfl rfl rfl (by kernel_rfl)
  (go_skip0 rfl rfl rfl (by kernel_rfl)
  (go_skip0 rfl rfl rfl (by kernel_rfl)
  (by kernel_rfl)))
  (st_id (v := t1) (H := h11) (by kernel_rfl)
  (go_run0 rfl rfl rfl (by kernel_rfl) (st_bp (by kernel_rfl) fun v12 h13 =>
  (go_run0 rfl rfl rfl (by kernel_rfl) (st_bm (by kernel_rfl) fun v14 h15 =>
  (by kernel_rfl))))))
  (by kernel_rfl))))))))))))))))))))))
theorem xm13_1 (s : Sys) (k wl : Nat) (m0 : Nat) (ac : List Nat × List Nat) (t0 t1 t2 t3 t4 t5 t6 t7 t8 t9 t10 t11 t12 t13 t14 t15 t16 t17 t18 t19 t20 t21 t22 t23 t24 t25 t26 t27 t28 t29 t30 t31 t32 t33 t34 t35 t36 t37 t38 t39 t40 t41 t42 t43 t44 t45 t46 t47 t48 t49 t50 t51 t52 t53 t54 t55 t56 t57 t58 t59 t60 t61 t62 t63 t64 t65 t66 t67 t68 t69 t70 t71 : V) (h : Hp) : opsP (xX s 13 wl k false) xg13_0 6 m0 ac (runK (xX s 13 wl k false) (bodyK s.P Try.f13) xk13_1) ⟨(t0 :: t1 :: t2 :: t3 :: t4 :: t5 :: t6 :: t7 :: t8 :: t9 :: t10 :: t11 :: t12 :: t13 :: t14 :: t15 :: t16 :: t17 :: t18 :: t19 :: t20 :: t21 :: t22 :: t23 :: t24 :: t25 :: t26 :: t27 :: t28 :: t29 :: t30 :: t31 :: t32 :: t33 :: t34 :: t35 :: t36 :: t37 :: t38 :: t39 :: t40 :: t41 :: t42 :: t43 :: t44 :: t45 :: t46 :: t47 :: t48 :: t49 :: t50 :: t51 :: t52 :: t53 :: t54 :: t55 :: t56 :: t57 :: t58 :: t59 :: t60 :: t61 :: t62 :: t63 :: t64 :: t65 :: t66 :: t67 :: t68 :: t69 :: t70 :: t71 :: []), h⟩ =
  bm (vPick t20 (V.lit (Value.bool true)) t23) h fun v16 h17 =>
  gd v16 (
  opsP (xX s 13 wl k false) xg13_0 13 m0 ac (runK (xX s 13 wl k false) (bodyK s.P Try.f13) xk13_1) ⟨(t0 :: t1 :: t2 :: t3 :: t4 :: t5 :: t6 :: t7 :: t8 :: t9 :: t10 :: t11 :: t12 :: t13 :: t14 :: t15 :: t16 :: t17 :: t18 :: t19 :: t20 :: t21 :: t22 :: t23 :: v16 :: (V.lit (Value.bool true)) :: uu :: uu :: uu :: uu :: uu :: t31 :: t32 :: t33 :: t34 :: t35 :: t36 :: t37 :: t38 :: t39 :: t40 :: t41 :: t42 :: t43 :: t44 :: t45 :: t46 :: t47 :: t48 :: t49 :: t50 :: t51 :: t52 :: t53 :: t54 :: t55 :: t56 :: t57 :: t58 :: t59 :: t60 :: t61 :: t62 :: t63 :: t64 :: t65 :: t66 :: t67 :: t68 :: t69 :: t70 :: t71 :: []), h17⟩) (
  bm (vLoad s.P 23 t4 h17) h17 fun v18 h19 =>
  bm (vLoad s.P 28 t11 h19) h19 fun v20 h21 =>
  bp (callV (xX s 13 wl k false) false true (.fn (.func 38) [] []) [v18, t1, v20] h21) fun v22 h23 =>
  bm (vUn .not v22) h23 fun v24 h25 =>
  opsP (xX s 13 wl k false) xg13_0 13 m0 ac (runK (xX s 13 wl k false) (bodyK s.P Try.f13) xk13_1) ⟨(t0 :: t1 :: t2 :: t3 :: t4 :: t5 :: t6 :: t7 :: t8 :: t9 :: t10 :: t11 :: t12 :: t13 :: t14 :: t15 :: t16 :: t17 :: t18 :: t19 :: t20 :: t21 :: t22 :: t23 :: v16 :: (V.lit (Value.bool false)) :: v18 :: t1 :: v20 :: v22 :: v24 :: t31 :: t32 :: t33 :: t34 :: t35 :: t36 :: t37 :: t38 :: t39 :: t40 :: t41 :: t42 :: t43 :: t44 :: t45 :: t46 :: t47 :: t48 :: t49 :: t50 :: t51 :: t52 :: t53 :: t54 :: t55 :: t56 :: t57 :: t58 :: t59 :: t60 :: t61 :: t62 :: t63 :: t64 :: t65 :: t66 :: t67 :: t68 :: t69 :: t70 :: t71 :: []), h25⟩) (
  opsP (xX s 13 wl k false) xg13_0 9 m0 ac (runK (xX s 13 wl k false) (bodyK s.P Try.f13) xk13_1) ⟨(t0 :: t1 :: t2 :: t3 :: t4 :: t5 :: t6 :: t7 :: t8 :: t9 :: t10 :: t11 :: t12 :: t13 :: t14 :: t15 :: t16 :: t17 :: t18 :: t19 :: t20 :: t21 :: t22 :: t23 :: v16 :: v16 :: uu :: t27 :: t28 :: t29 :: t30 :: t31 :: t32 :: t33 :: t34 :: t35 :: t36 :: t37 :: t38 :: t39 :: t40 :: t41 :: t42 :: t43 :: t44 :: t45 :: t46 :: t47 :: t48 :: t49 :: t50 :: t51 :: t52 :: t53 :: t54 :: t55 :: t56 :: t57 :: t58 :: t59 :: t60 :: t61 :: t62 :: t63 :: t64 :: t65 :: t66 :: t67 :: t68 :: t69 :: t70 :: t71 :: []), h17⟩) :=
  (go_op0 rfl rfl (st_bm (by kernel_rfl) fun v16 h17 =>
  (go_op0 rfl rfl (st_id (v := v16) (H := h17) (by kernel_rfl)
  (go_gdF0 rfl rfl rfl (by kernel_rfl)
  (go_skip0 rfl rfl rfl (by kernel_rfl)
  (go_skip0 rfl rfl rfl (by kernel_rfl)
  (go_skip0 rfl rfl rfl (by kernel_rfl)
  (go_skip0 rfl rfl rfl (by kernel_rfl)
  (by kernel_rfl)))))
  (st_bm (by kernel_rfl) fun v18 h19 =>
  (go_run0 rfl rfl rfl (by kernel_rfl) (st_id (v := t1) (H := h19) (by kernel_rfl)
  (go_run0 rfl rfl rfl (by kernel_rfl) (st_bm (by kernel_rfl) fun v20 h21 =>
  (go_run0 rfl rfl rfl (by kernel_rfl) (st_bp (by kernel_rfl) fun v22 h23 =>
  (go_run0 rfl rfl rfl (by kernel_rfl) (st_bm (by kernel_rfl) fun v24 h25 =>
  (by kernel_rfl))))))))))
  (by kernel_rfl))))))
theorem xm13_2 (s : Sys) (k wl : Nat) (m0 : Nat) (ac : List Nat × List Nat) (t0 t1 t2 t3 t4 t5 t6 t7 t8 t9 t10 t11 t12 t13 t14 t15 t16 t17 t18 t19 t20 t21 t22 t23 t24 t25 t26 t27 t28 t29 t30 t31 t32 t33 t34 t35 t36 t37 t38 t39 t40 t41 t42 t43 t44 t45 t46 t47 t48 t49 t50 t51 t52 t53 t54 t55 t56 t57 t58 t59 t60 t61 t62 t63 t64 t65 t66 t67 t68 t69 t70 t71 : V) (h : Hp) : opsP (xX s 13 wl k false) xg13_0 13 m0 ac (runK (xX s 13 wl k false) (bodyK s.P Try.f13) xk13_1) ⟨(t0 :: t1 :: t2 :: t3 :: t4 :: t5 :: t6 :: t7 :: t8 :: t9 :: t10 :: t11 :: t12 :: t13 :: t14 :: t15 :: t16 :: t17 :: t18 :: t19 :: t20 :: t21 :: t22 :: t23 :: t24 :: t25 :: t26 :: t27 :: t28 :: t29 :: t30 :: t31 :: t32 :: t33 :: t34 :: t35 :: t36 :: t37 :: t38 :: t39 :: t40 :: t41 :: t42 :: t43 :: t44 :: t45 :: t46 :: t47 :: t48 :: t49 :: t50 :: t51 :: t52 :: t53 :: t54 :: t55 :: t56 :: t57 :: t58 :: t59 :: t60 :: t61 :: t62 :: t63 :: t64 :: t65 :: t66 :: t67 :: t68 :: t69 :: t70 :: t71 :: []), h⟩ =
  bm (vPick t25 (V.lit (Value.bool true)) t30) h fun v26 h27 =>
  gd v26 (
  opsP (xX s 13 wl k false) xg13_0 17 m0 ac (runK (xX s 13 wl k false) (bodyK s.P Try.f13) xk13_1) ⟨(t0 :: t1 :: t2 :: t3 :: t4 :: t5 :: t6 :: t7 :: t8 :: t9 :: t10 :: t11 :: t12 :: t13 :: t14 :: t15 :: t16 :: t17 :: t18 :: t19 :: t20 :: t21 :: t22 :: t23 :: t24 :: t25 :: t26 :: t27 :: t28 :: t29 :: t30 :: v26 :: (V.lit (Value.bool true)) :: uu :: uu :: t35 :: t36 :: t37 :: t38 :: t39 :: t40 :: t41 :: t42 :: t43 :: t44 :: t45 :: t46 :: t47 :: t48 :: t49 :: t50 :: t51 :: t52 :: t53 :: t54 :: t55 :: t56 :: t57 :: t58 :: t59 :: t60 :: t61 :: t62 :: t63 :: t64 :: t65 :: t66 :: t67 :: t68 :: t69 :: t70 :: t71 :: []), h27⟩) (
  bm (vBin s.P .lss 3 t3 (V.lit (Value.int .i64 0))) h27 fun v28 h29 =>
  opsP (xX s 13 wl k false) xg13_0 17 m0 ac (runK (xX s 13 wl k false) (bodyK s.P Try.f13) xk13_1) ⟨(t0 :: t1 :: t2 :: t3 :: t4 :: t5 :: t6 :: t7 :: t8 :: t9 :: t10 :: t11 :: t12 :: t13 :: t14 :: t15 :: t16 :: t17 :: t18 :: t19 :: t20 :: t21 :: t22 :: t23 :: t24 :: t25 :: t26 :: t27 :: t28 :: t29 :: t30 :: v26 :: (V.lit (Value.bool false)) :: t3 :: v28 :: t35 :: t36 :: t37 :: t38 :: t39 :: t40 :: t41 :: t42 :: t43 :: t44 :: t45 :: t46 :: t47 :: t48 :: t49 :: t50 :: t51 :: t52 :: t53 :: t54 :: t55 :: t56 :: t57 :: t58 :: t59 :: t60 :: t61 :: t62 :: t63 :: t64 :: t65 :: t66 :: t67 :: t68 :: t69 :: t70 :: t71 :: []), h29⟩) (
  opsP (xX s 13 wl k false) xg13_0 16 m0 ac (runK (xX s 13 wl k false) (bodyK s.P Try.f13) xk13_1) ⟨(t0 :: t1 :: t2 :: t3 :: t4 :: t5 :: t6 :: t7 :: t8 :: t9 :: t10 :: t11 :: t12 :: t13 :: t14 :: t15 :: t16 :: t17 :: t18 :: t19 :: t20 :: t21 :: t22 :: t23 :: t24 :: t25 :: t26 :: t27 :: t28 :: t29 :: t30 :: v26 :: v26 :: uu :: t34 :: t35 :: t36 :: t37 :: t38 :: t39 :: t40 :: t41 :: t42 :: t43 :: t44 :: t45 :: t46 :: t47 :: t48 :: t49 :: t50 :: t51 :: t52 :: t53 :: t54 :: t55 :: t56 :: t57 :: t58 :: t59 :: t60 :: t61 :: t62 :: t63 :: t64 :: t65 :: t66 :: t67 :: t68 :: t69 :: t70 :: t71 :: []), h27⟩) :=
  (go_op0 rfl rfl (st_bm (by kernel_rfl) fun v26 h27 =>
  (go_op0 rfl rfl (st_id (v := v26) (H := h27) (by kernel_rfl)
  (go_gdF0 rfl rfl rfl (by kernel_rfl)
  (go_skip0 rfl rfl rfl (by kernel_rfl)
  (by kernel_rfl))
  (st_id (v := t3) (H := h27) (by kernel_rfl)
  (go_run0 rfl rfl rfl (by kernel_rfl) (st_bm (by kernel_rfl) fun v28 h29 =>
  (by kernel_rfl))))
  (by kernel_rfl))))))
theorem xm13_3 (s : Sys) (k wl : Nat) (m0 : Nat) (ac : List Nat × List Nat) (t0 t1 t2 t3 t4 t5 t6 t7 t8 t9 t10 t11 t12 t13 t14 t15 t16 t17 t18 t19 t20 t21 t22 t23 t24 t25 t26 t27 t28 t29 t30 t31 t32 t33 t34 t35 t36 t37 t38 t39 t40 t41 t42 t43 t44 t45 t46 t47 t48 t49 t50 t51 t52 t53 t54 t55 t56 t57 t58 t59 t60 t61 t62 t63 t64 t65 t66 t67 t68 t69 t70 t71 : V) (h : Hp) : opsP (xX s 13 wl k false) xg13_0 17 m0 ac (runK (xX s 13 wl k false) (bodyK s.P Try.f13) xk13_1) ⟨(t0 :: t1 :: t2 :: t3 :: t4 :: t5 :: t6 :: t7 :: t8 :: t9 :: t10 :: t11 :: t12 :: t13 :: t14 :: t15 :: t16 :: t17 :: t18 :: t19 :: t20 :: t21 :: t22 :: t23 :: t24 :: t25 :: t26 :: t27 :: t28 :: t29 :: t30 :: t31 :: t32 :: t33 :: t34 :: t35 :: t36 :: t37 :: t38 :: t39 :: t40 :: t41 :: t42 :: t43 :: t44 :: t45 :: t46 :: t47 :: t48 :: t49 :: t50 :: t51 :: t52 :: t53 :: t54 :: t55 :: t56 :: t57 :: t58 :: t59 :: t60 :: t61 :: t62 :: t63 :: t64 :: t65 :: t66 :: t67 :: t68 :: t69 :: t70 :: t71 :: []), h⟩ =
  bm (vPick t32 (V.lit (Value.bool true)) t34) h fun v30 h31 =>
  gd v30 (
  opsP (xX s 13 wl k false) xg13_0 23 m0 ac (runK (xX s 13 wl k false) (bodyK s.P Try.f13) xk13_1) ⟨(t0 :: t1 :: t2 :: t3 :: t4 :: t5 :: t6 :: t7 :: t8 :: t9 :: t10 :: t11 :: t12 :: t13 :: t14 :: t15 :: t16 :: t17 :: t18 :: t19 :: t20 :: t21 :: t22 :: t23 :: t24 :: t25 :: t26 :: t27 :: t28 :: t29 :: t30 :: t31 :: t32 :: t33 :: t34 :: v30 :: (V.lit (Value.bool true)) :: uu :: uu :: uu :: uu :: t41 :: t42 :: t43 :: t44 :: t45 :: t46 :: t47 :: t48 :: t49 :: t50 :: t51 :: t52 :: t53 :: t54 :: t55 :: t56 :: t57 :: t58 :: t59 :: t60 :: t61 :: t62 :: t63 :: t64 :: t65 :: t66 :: t67 :: t68 :: t69 :: t70 :: t71 :: []), h31⟩) (
  bm (vFieldAddr s.P 23 t4 0) h31 fun v32 h33 =>
  bm (vLoad s.P 3 v32 h33) h33 fun v34 h35 =>
  bm (vBin s.P .geq 3 t3 v34) h35 fun v36 h37 =>
  opsP (xX s 13 wl k false) xg13_0 23 m0 ac (runK (xX s 13 wl k false) (bodyK s.P Try.f13) xk13_1) ⟨(t0 :: t1 :: t2 :: t3 :: t4 :: t5 :: t6 :: t7 :: t8 :: t9 :: t10 :: t11 :: t12 :: t13 :: t14 :: t15 :: t16 :: t17 :: t18 :: t19 :: t20 :: t21 :: t22 :: t23 :: t24 :: t25 :: t26 :: t27 :: t28 :: t29 :: t30 :: t31 :: t32 :: t33 :: t34 :: v30 :: (V.lit (Value.bool false)) :: t3 :: v32 :: v34 :: v36 :: t41 :: t42 :: t43 :: t44 :: t45 :: t46 :: t47 :: t48 :: t49 :: t50 :: t51 :: t52 :: t53 :: t54 :: t55 :: t56 :: t57 :: t58 :: t59 :: t60 :: t61 :: t62 :: t63 :: t64 :: t65 :: t66 :: t67 :: t68 :: t69 :: t70 :: t71 :: []), h37⟩) (
  opsP (xX s 13 wl k false) xg13_0 20 m0 ac (runK (xX s 13 wl k false) (bodyK s.P Try.f13) xk13_1) ⟨(t0 :: t1 :: t2 :: t3 :: t4 :: t5 :: t6 :: t7 :: t8 :: t9 :: t10 :: t11 :: t12 :: t13 :: t14 :: t15 :: t16 :: t17 :: t18 :: t19 :: t20 :: t21 :: t22 :: t23 :: t24 :: t25 :: t26 :: t27 :: t28 :: t29 :: t30 :: t31 :: t32 :: t33 :: t34 :: v30 :: v30 :: uu :: t38 :: t39 :: t40 :: t41 :: t42 :: t43 :: t44 :: t45 :: t46 :: t47 :: t48 :: t49 :: t50 :: t51 :: t52 :: t53 :: t54 :: t55 :: t56 :: t57 :: t58 :: t59 :: t60 :: t61 :: t62 :: t63 :: t64 :: t65 :: t66 :: t67 :: t68 :: t69 :: t70 :: t71 :: []), h31⟩) :=
  (go_op0 rfl rfl (st_bm (by kernel_rfl) fun v30 h31 =>
  (go_op0 rfl rfl (st_id (v := v30) (H := h31) (by kernel_rfl)
  (go_gdF0 rfl rfl rfl (by kernel_rfl)
  (go_skip0 rfl rfl rfl (by kernel_rfl)
  (go_skip0 rfl rfl rfl (by kernel_rfl)
  (go_skip0 rfl rfl rfl (by kernel_rfl)
  (by kernel_rfl))))
  (st_id (v := t3) (H := h31) (by kernel_rfl)
  (go_run0 rfl rfl rfl (by kernel_rfl) (st_bm (by kernel_rfl) fun v32 h33 =>
  (go_run0 rfl rfl rfl (by kernel_rfl) (st_bm (by kernel_rfl) fun v34 h35 =>
  (go_run0 rfl rfl rfl (by kernel_rfl) (st_bm (by kernel_rfl) fun v36 h37 =>
  (by kernel_rfl))))))))
  (by kernel_rfl))))))
theorem xm13_4 (s : Sys) (k wl : Nat) (m0 : Nat) (ac : List Nat × List Nat) (t0 t1 t2 t3 t4 t5 t6 t7 t8 t9 t10 t11 t12 t13 t14 t15 t16 t17 t18 t19 t20 t21 t22 t23 t24 t25 t26 t27 t28 t29 t30 t31 t32 t33 t34 t35 t36 t37 t38 t39 t40 t41 t42 t43 t44 t45 t46 t47 t48 t49 t50 t51 t52 t53 t54 t55 t56 t57 t58 t59 t60 t61 t62 t63 t64 t65 t66 t67 t68 t69 t70 t71 : V) (h : Hp) : opsP (xX s 13 wl k false) xg13_0 23 m0 ac (runK (xX s 13 wl k false) (bodyK s.P Try.f13) xk13_1) ⟨(t0 :: t1 :: t2 :: t3 :: t4 :: t5 :: t6 :: t7 :: t8 :: t9 :: t10 :: t11 :: t12 :: t13 :: t14 :: t15 :: t16 :: t17 :: t18 :: t19 :: t20 :: t21 :: t22 :: t23 :: t24 :: t25 :: t26 :: t27 :: t28 :: t29 :: t30 :: t31 :: t32 :: t33 :: t34 :: t35 :: t36 :: t37 :: t38 :: t39 :: t40 :: t41 :: t42 :: t43 :: t44 :: t45 :: t46 :: t47 :: t48 :: t49 :: t50 :: t51 :: t52 :: t53 :: t54 :: t55 :: t56 :: t57 :: t58 :: t59 :: t60 :: t61 :: t62 :: t63 :: t64 :: t65 :: t66 :: t67 :: t68 :: t69 :: t70 :: t71 :: []), h⟩ =
  bm (vPick t36 (V.lit (Value.bool true)) t40) h fun v38 h39 =>
  cnd v38 (
  some (t9, h39)) (
  bp (opAlloc s.P 28 h39) fun v40 h41 =>
  stO h39.length t4 (
  bm (vLoad s.P 23 t4 h41) h41 fun v42 h43 =>
  bp (callV (xX s 13 wl k false) true true (.fn (.func 31) [] []) [(V.lit (Value.int .i64 5)), t3, (V.lit (Value.int .u64 0))] h43) fun v44 h45 =>
  bp (callV (xX s 13 wl k false) true true (.fn (.func 21) [] []) [v42, t1, v44] h45) fun v46 h47 =>
  bm (vExtract v46 0) h47 fun v48 h49 =>
  bm (vExtract v46 1) h49 fun v50 h51 =>
  bs (vStore s.P wl 28 v40 v50 h51) fun h52 =>
  bm (vLoad s.P 23 t4 h52) h52 fun v53 h54 =>
  bm (vLoad s.P 28 t11 h54) h54 fun v55 h56 =>
  bp (callV (xX s 13 wl k false) false true (.fn (.func 41) [] []) [v53, v48, v55] h56) fun v57 h58 =>
  bm (vExtract v57 0) h58 fun v59 h60 =>
  bm (vExtract v57 1) h60 fun v61 h62 =>
  bs (vStore s.P wl 28 t11 v61 h62) fun h63 =>
  bm (vLoad s.P 23 t4 h63) h63 fun v64 h65 =>
  bm (vLoad s.P 28 v40 h65) h65 fun v66 h67 =>
  bp (callV (xX s 13 wl k false) false true (.fn (.func 21) [] []) [v64, v59, v66] h67) fun v68 h69 =>
  bm (vExtract v68 0) h69 fun v70 h71 =>
  bm (vExtract v68 1) h71 fun v72 h73 =>
  bs (vStore s.P wl 28 v40 v72 h73) fun h74 =>
  bm (vLoad s.P 28 t11 h74) h74 fun v75 h76 =>
  bp (callV (xX s 13 wl k false) false true (.fn (.func 43) [] []) [v75] h76) fun v77 h78 =>
  gd v77 (
  bm (vFieldAddr s.P 28 v40 6) h78 fun v79 h80 =>
  bm (vLoad s.P 3 v79 h80) h80 fun v81 h82 =>
  bm (vBin s.P .eql 3 v81 (V.lit (Value.int .i64 4))) h82 fun v83 h84 =>
  opsP (xX s 13 wl k false) xg13_2 6 h74.length ([], []) (runK (xX s 13 wl k false) (bodyK s.P Try.f13) xk13_2) ⟨(t0 :: t1 :: t2 :: t3 :: t4 :: t5 :: t6 :: t7 :: t8 :: t9 :: t10 :: t11 :: v59 :: v40 :: t14 :: t15 :: t16 :: t17 :: t18 :: t19 :: t20 :: t21 :: t22 :: t23 :: t24 :: t25 :: t26 :: t27 :: t28 :: t29 :: t30 :: t31 :: t32 :: t33 :: t34 :: t35 :: t36 :: t37 :: t38 :: t39 :: t40 :: v38 :: t42 :: v46 :: v42 :: t1 :: t3 :: v44 :: v46 :: v48 :: v50 :: v57 :: v53 :: v48 :: v55 :: v57 :: v59 :: v61 :: v68 :: v64 :: v59 :: v66 :: v68 :: v70 :: v72 :: v75 :: v77 :: (V.lit (Value.bool true)) :: v79 :: v81 :: v83 :: t71 :: []), h84⟩) (
  opsP (xX s 13 wl k false) xg13_2 6 h74.length ([], []) (runK (xX s 13 wl k false) (bodyK s.P Try.f13) xk13_2) ⟨(t0 :: t1 :: t2 :: t3 :: t4 :: t5 :: t6 :: t7 :: t8 :: t9 :: t10 :: t11 :: v59 :: v40 :: t14 :: t15 :: t16 :: t17 :: t18 :: t19 :: t20 :: t21 :: t22 :: t23 :: t24 :: t25 :: t26 :: t27 :: t28 :: t29 :: t30 :: t31 :: t32 :: t33 :: t34 :: t35 :: t36 :: t37 :: t38 :: t39 :: t40 :: v38 :: t42 :: v46 :: v42 :: t1 :: t3 :: v44 :: v46 :: v48 :: v50 :: v57 :: v53 :: v48 :: v55 :: v57 :: v59 :: v61 :: v68 :: v64 :: v59 :: v66 :: v68 :: v70 :: v72 :: v75 :: v77 :: (V.lit (Value.bool false)) :: uu :: uu :: uu :: t71 :: []), h78⟩) (
  opsP (xX s 13 wl k false) xg13_2 4 h74.length ([], []) (runK (xX s 13 wl k false) (bodyK s.P Try.f13) xk13_2) ⟨(t0 :: t1 :: t2 :: t3 :: t4 :: t5 :: t6 :: t7 :: t8 :: t9 :: t10 :: t11 :: v59 :: v40 :: t14 :: t15 :: t16 :: t17 :: t18 :: t19 :: t20 :: t21 :: t22 :: t23 :: t24 :: t25 :: t26 :: t27 :: t28 :: t29 :: t30 :: t31 :: t32 :: t33 :: t34 :: t35 :: t36 :: t37 :: t38 :: t39 :: t40 :: v38 :: t42 :: v46 :: v42 :: t1 :: t3 :: v44 :: v46 :: v48 :: v50 :: v57 :: v53 :: v48 :: v55 :: v57 :: v59 :: v61 :: v68 :: v64 :: v59 :: v66 :: v68 :: v70 :: v72 :: v75 :: v77 :: v77 :: uu :: t69 :: t70 :: t71 :: []), h78⟩))) :=
  (go_op0 rfl rfl (st_bm (by kernel_rfl) fun v38 h39 =>
  (go_end0 (by kernel_rfl)
  (go_cond (by kernel_rfl)
  (go_seq (go_reg0
  (go_op0 rfl rfl (st_id (v := t9) (H := h39) (by kernel_rfl)
  (go_op0 rfl rfl (st_id (v := t9) (H := h39) (by kernel_rfl)
  (go_end0 (by kernel_rfl)
  (go_ret (rt_seq_ret (by kernel_rfl))))))))))
  (go_skip (go_seq (go_reg1 xo13_8r
  (go_op1 xo13_8 xo13_8a rfl rfl rfl (st_no (by kernel_rfl) (st_bp (by kernel_rfl) fun v40 h41 =>
  (go_op1 xo13_8 xo13_8a rfl rfl rfl (st_yes (by kernel_rfl) (st_bm (by kernel_rfl) fun v42 h43 =>
  (go_op1 xo13_8 xo13_8a rfl rfl rfl (st_no (by kernel_rfl) (st_id (v := t1) (H := h43) (by kernel_rfl)
  (go_op1 xo13_8 xo13_8a rfl rfl rfl (st_no (by kernel_rfl) (st_id (v := t3) (H := h43) (by kernel_rfl)
  (go_op1 xo13_8 xo13_8a rfl rfl rfl (st_no (by kernel_rfl) (st_bp (by kernel_rfl) fun v44 h45 =>
  (go_op1 xo13_8 xo13_8a rfl rfl rfl (st_no (by kernel_rfl) (st_bp (by kernel_rfl) fun v46 h47 =>
  (go_op1 xo13_8 xo13_8a rfl rfl rfl (st_no (by kernel_rfl) (st_id (v := v46) (H := h47) (by kernel_rfl)
  (go_op1 xo13_8 xo13_8a rfl rfl rfl (st_no (by kernel_rfl) (st_bm (by kernel_rfl) fun v48 h49 =>
  (go_op1 xo13_8 xo13_8a rfl rfl rfl (st_no (by kernel_rfl) (st_bm (by kernel_rfl) fun v50 h51 =>
  (go_op1 xo13_8 xo13_8a rfl rfl rfl (st_no (by kernel_rfl) (st_id (v := v48) (H := h51) (by kernel_rfl)
  (go_op1 xo13_8 xo13_8a rfl rfl rfl (st_no (by kernel_rfl) (st_bs (by kernel_rfl) fun h52 =>
  (go_end1 xo13_8 (by kernel_rfl) xo13_8a
  (go_seq (go_reg0
  (go_op0 rfl rfl (st_bm (by kernel_rfl) fun v53 h54 =>
  (go_op0 rfl rfl (st_id (v := v48) (H := h54) (by kernel_rfl)
  (go_op0 rfl rfl (st_bm (by kernel_rfl) fun v55 h56 =>
  (go_op0 rfl rfl (st_bp (by kernel_rfl) fun v57 h58 =>
  (go_op0 rfl rfl (st_id (v := v57) (H := h58) (by kernel_rfl)
  (go_op0 rfl rfl (st_bm (by kernel_rfl) fun v59 h60 =>
  (go_op0 rfl rfl (st_bm (by kernel_rfl) fun v61 h62 =>
  (go_op0 rfl rfl (st_id (v := v59) (H := h62) (by kernel_rfl)
  (go_op0 rfl rfl (st_bs (by kernel_rfl) fun h63 =>
  (go_end0 (by kernel_rfl)
  (go_seq (go_reg0
  (go_op0 rfl rfl (st_bm (by kernel_rfl) fun v64 h65 =>
  (go_op0 rfl rfl (st_id (v := v59) (H := h65) (by kernel_rfl)
  (go_op0 rfl rfl (st_bm (by kernel_rfl) fun v66 h67 =>
  (go_op0 rfl rfl (st_bp (by kernel_rfl) fun v68 h69 =>
  (go_op0 rfl rfl (st_id (v := v68) (H := h69) (by kernel_rfl)
  (go_op0 rfl rfl (st_bm (by kernel_rfl) fun v70 h71 =>
  (go_op0 rfl rfl (st_bm (by kernel_rfl) fun v72 h73 =>
  (go_op0 rfl rfl (st_bs (by kernel_rfl) fun h74 =>
  (go_end0 (by kernel_rfl)
  (go_seq (go_reg0
  (go_op0 rfl rfl (st_bm (by kernel_rfl) fun v75 h76 =>
  (go_op0 rfl rfl (st_bp (by kernel_rfl) fun v77 h78 =>
  (go_op0 rfl rfl (st_id (v := v77) (H := h78) (by kernel_rfl)
  (go_gdT0 rfl rfl rfl (by kernel_rfl)
  (st_bm (by kernel_rfl) fun v79 h80 =>
  (go_run0 rfl rfl rfl (by kernel_rfl) (st_bm (by kernel_rfl) fun v81 h82 =>
  (go_run0 rfl rfl rfl (by kernel_rfl) (st_bm (by kernel_rfl) fun v83 h84 =>
  (by kernel_rfl))))))
  (go_skip0 rfl rfl rfl (by kernel_rfl)
  (go_skip0 rfl rfl rfl (by kernel_rfl)
  (by kernel_rfl)))
  (by kernel_rfl)))))))))))))))))))))))))))))))))))))))))))))))))))))))))))))))))))))))))))))))))))))))))))
theorem xm13_5 (s : Sys) (k wl : Nat) (m0 : Nat) (ac : List Nat × List Nat) (t0 t1 t2 t3 t4 t5 t6 t7 t8 t9 t10 t11 t12 t13 t14 t15 t16 t17 t18 t19 t20 t21 t22 t23 t24 t25 t26 t27 t28 t29 t30 t31 t32 t33 t34 t35 t36 t37 t38 t39 t40 t41 t42 t43 t44 t45 t46 t47 t48 t49 t50 t51 t52 t53 t54 t55 t56 t57 t58 t59 t60 t61 t62 t63 t64 t65 t66 t67 t68 t69 t70 t71 : V) (h : Hp) : opsP (xX s 13 wl k false) xg13_2 6 m0 ac (runK (xX s 13 wl k false) (bodyK s.P Try.f13) xk13_2) ⟨(t0 :: t1 :: t2 :: t3 :: t4 :: t5 :: t6 :: t7 :: t8 :: t9 :: t10 :: t11 :: t12 :: t13 :: t14 :: t15 :: t16 :: t17 :: t18 :: t19 :: t20 :: t21 :: t22 :: t23 :: t24 :: t25 :: t26 :: t27 :: t28 :: t29 :: t30 :: t31 :: t32 :: t33 :: t34 :: t35 :: t36 :: t37 :: t38 :: t39 :: t40 :: t41 :: t42 :: t43 :: t44 :: t45 :: t46 :: t47 :: t48 :: t49 :: t50 :: t51 :: t52 :: t53 :: t54 :: t55 :: t56 :: t57 :: t58 :: t59 :: t60 :: t61 :: t62 :: t63 :: t64 :: t65 :: t66 :: t67 :: t68 :: t69 :: t70 :: t71 :: []), h⟩ =
  bm (vPick t67 t70 (V.lit (Value.bool false))) h fun v85 h86 =>
  some (v85, h86) :=
  (go_op0 rfl rfl (st_bm (by kernel_rfl) fun v85 h86 =>
  (go_op0 rfl rfl (st_id (v := v85) (H := h86) (by kernel_rfl)
  (go_end0 (by kernel_rfl)
  (go_ret (by kernel_rfl)))))))
theorem xk13_0_ret (cx : Cx) (K : Out → St → Option (V × Hp)) (s : St) : runK cx K xk13_0 .ret s = K .ret s := by kernel_rfl
theorem xk13_1_ret (cx : Cx) (K : Out → St → Option (V × Hp)) (s : St) : runK cx K xk13_1 .ret s = K .ret s := by kernel_rfl
theorem xk13_2_ret (cx : Cx) (K : Out → St → Option (V × Hp)) (s : St) : runK cx K xk13_2 .ret s = K .ret s := by kernel_rfl
-- names: xb13, xj13_0, xm13_1, xm13_2, xm13_3, xm13_4, xm13_5, xk13_0_ret, xk13_1_ret, xk13_2_ret
end Go.Ab
