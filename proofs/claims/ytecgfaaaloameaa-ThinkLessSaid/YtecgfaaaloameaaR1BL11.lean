/- The program's code, point by point: printed by gen.py. -/
import Derived.Test.YtecgfaaaloameaaR1Seat
set_option maxRecDepth 100000
set_option linter.unusedVariables false
namespace Go.Ab
open Go.Proofs
/-! 11 poacher/poacherlaw17.ThinkLess: 0 t, 1 s, 2 t, 3 s, 5 up, 6 few, 7 x, 8 n -/
noncomputable def xg11_0 : Code := codeAt (bodyOf Try.f11) [1, 1, 1, 0, 0]
noncomputable def xk11_0 : List Fr := [.seq (codeAt (bodyOf Try.f11) [1, 1, 1, 0, 1]), .seq (codeAt (bodyOf Try.f11) [1, 1, 1, 1])]
noncomputable def xg11_1 : Code := codeAt (bodyOf Try.f11) [1, 1, 1, 1, 1, 1, 0, 1, 0, 0]
noncomputable def xk11_1 : List Fr := [.seq (codeAt (bodyOf Try.f11) [1, 1, 1, 1, 1, 1, 0, 1, 0, 1]), .seq (codeAt (bodyOf Try.f11) [1, 1, 1, 1, 1, 1, 1])]
noncomputable def xg11_2 : Code := codeAt (bodyOf Try.f11) [1, 1, 1, 1, 1, 1, 1, 0]
noncomputable def xk11_2 : List Fr := [.seq (codeAt (bodyOf Try.f11) [1, 1, 1, 1, 1, 1, 1, 1])]
theorem xb11 (s : Sys) (k wl : Nat) (t0 t1 : V) (h : Hp) : bodyV (xX s 11 wl k false) Try.f11 [t0, t1] h =
  bp (callV (xX s 11 wl k false) false true (.fn (.func 37) [] []) [] h) fun v1 h2 =>
  bp (callV (xX s 11 wl k false) false true (.fn (.func 24) [] []) [t0] h2) fun v3 h4 =>
  bm (vUn .not v1) h4 fun v5 h6 =>
  gd v5 (
  opsP (xX s 11 wl k false) xg11_0 5 h4.length ([], []) (runK (xX s 11 wl k false) (bodyK s.P Try.f11) xk11_0) ⟨(t0 :: t1 :: uu :: uu :: (V.lit (Value.bool false)) :: v1 :: v3 :: uu :: uu :: v1 :: t0 :: v3 :: v1 :: v5 :: (V.lit (Value.bool true)) :: uu :: uu :: uu :: uu :: uu :: uu :: uu :: uu :: uu :: uu :: uu :: uu :: uu :: uu :: uu :: uu :: uu :: uu :: uu :: uu :: uu :: uu :: uu :: uu :: uu :: uu :: uu :: uu :: uu :: uu :: uu :: uu :: uu :: uu :: uu :: uu :: uu :: uu :: uu :: uu :: uu :: uu :: uu :: uu :: uu :: uu :: uu :: uu :: uu :: uu :: uu :: uu :: uu :: uu :: uu :: uu :: uu :: []), h6⟩) (
  bm (vUn .not v3) h6 fun v7 h8 =>
  opsP (xX s 11 wl k false) xg11_0 5 h4.length ([], []) (runK (xX s 11 wl k false) (bodyK s.P Try.f11) xk11_0) ⟨(t0 :: t1 :: uu :: uu :: (V.lit (Value.bool false)) :: v1 :: v3 :: uu :: uu :: v1 :: t0 :: v3 :: v1 :: v5 :: (V.lit (Value.bool false)) :: v3 :: v7 :: uu :: uu :: uu :: uu :: uu :: uu :: uu :: uu :: uu :: uu :: uu :: uu :: uu :: uu :: uu :: uu :: uu :: uu :: uu :: uu :: uu :: uu :: uu :: uu :: uu :: uu :: uu :: uu :: uu :: uu :: uu :: uu :: uu :: uu :: uu :: uu :: uu :: uu :: uu :: uu :: uu :: uu :: uu :: uu :: uu :: uu :: uu :: uu :: uu :: uu :: uu :: uu :: uu :: uu :: uu :: []), h8⟩) (
  opsP (xX s 11 wl k false) xg11_0 4 h4.length ([], []) (runK (xX s 11 wl k false) (bodyK s.P Try.f11) xk11_0) ⟨(t0 :: t1 :: uu :: uu :: (V.lit (Value.bool false)) :: v1 :: v3 :: uu :: uu :: v1 :: t0 :: v3 :: v1 :: v5 :: v5 :: uu :: uu :: uu :: uu :: uu :: uu :: uu :: uu :: uu :: uu :: uu :: uu :: uu :: uu :: uu :: uu :: uu :: uu :: uu :: uu :: uu :: uu :: uu :: uu :: uu :: uu :: uu :: uu :: uu :: uu :: uu :: uu :: uu :: uu :: uu :: uu :: uu :: uu :: uu :: uu :: uu :: uu :: uu :: uu :: uu :: uu :: uu :: uu :: uu :: uu :: uu :: uu :: uu :: uu :: uu :: uu :: uu :: []), h6⟩) :=
  bodyV_run rfl (go_seq (go_reg0
  (go_op0 rfl rfl (st_id (v := (V.lit (Value.bool false))) (H := h) (by kernel_rfl)
  (go_end0 (by kernel_rfl)
  (go_seq (go_reg0
  (go_op0 rfl rfl (st_bp (by kernel_rfl) fun v1 h2 =>
  (go_op0 rfl rfl (st_id (v := v1) (H := h2) (by kernel_rfl)
  (go_end0 (by kernel_rfl)
  (go_seq (go_reg0
  (go_op0 rfl rfl (st_id (v := t0) (H := h2) (by kernel_rfl)
  (go_op0 rfl rfl (st_bp (by kernel_rfl) fun v3 h4 =>
  (go_op0 rfl rfl (st_id (v := v3) (H := h4) (by kernel_rfl)
  (go_end0 (by kernel_rfl)
  (go_seq (go_seq (go_reg0
  (go_op0 rfl rfl (st_id (v := v1) (H := h4) (by kernel_rfl)
  (go_op0 rfl rfl (st_bm (by kernel_rfl) fun v5 h6 =>
  (go_op0 rfl rfl (st_id (v := v5) (H := h6) (by kernel_rfl)
  (go_gdF0 rfl rfl rfl (by kernel_rfl)
  (go_skip0 rfl rfl rfl (by kernel_rfl)
  (by kernel_rfl))
  (st_id (v := v3) (H := h6) (by kernel_rfl)
  (go_run0 rfl rfl rfl (by kernel_rfl) (st_bm (by kernel_rfl) fun v7 h8 =>
  (by kernel_rfl))))
  (by kernel_rfl))))))))))))))))))))))))))))))))
theorem xe11 (k wl : Nat) (t0 t1 : V) (h : Hp) : evF Try.prog xM (k + 1) wl 11 [t0, t1] h = bodyV (xX (xS k) 11 wl k false) Try.f11 [t0, t1] h := by kernel_rfl
theorem xm11_0 (s : Sys) (k wl : Nat) (m0 : Nat) (ac : List Nat × List Nat) (t0 t1 t2 t3 t4 t5 t6 t7 t8 t9 t10 t11 t12 t13 t14 t15 t16 t17 t18 t19 t20 t21 t22 t23 t24 t25 t26 t27 t28 t29 t30 t31 t32 t33 t34 t35 t36 t37 t38 t39 t40 t41 t42 t43 t44 t45 t46 t47 t48 t49 t50 t51 t52 t53 t54 t55 t56 t57 t58 t59 t60 t61 t62 t63 t64 t65 t66 t67 t68 t69 t70 t71 : V) (h : Hp) : opsP (xX s 11 wl k false) xg11_0 5 m0 ac (runK (xX s 11 wl k false) (bodyK s.P Try.f11) xk11_0) ⟨(t0 :: t1 :: t2 :: t3 :: t4 :: t5 :: t6 :: t7 :: t8 :: t9 :: t10 :: t11 :: t12 :: t13 :: t14 :: t15 :: t16 :: t17 :: t18 :: t19 :: t20 :: t21 :: t22 :: t23 :: t24 :: t25 :: t26 :: t27 :: t28 :: t29 :: t30 :: t31 :: t32 :: t33 :: t34 :: t35 :: t36 :: t37 :: t38 :: t39 :: t40 :: t41 :: t42 :: t43 :: t44 :: t45 :: t46 :: t47 :: t48 :: t49 :: t50 :: t51 :: t52 :: t53 :: t54 :: t55 :: t56 :: t57 :: t58 :: t59 :: t60 :: t61 :: t62 :: t63 :: t64 :: t65 :: t66 :: t67 :: t68 :: t69 :: t70 :: t71 :: []), h⟩ =
  bm (vPick t14 (V.lit (Value.bool true)) t16) h fun v9 h10 =>
  gd v9 (
  opsP (xX s 11 wl k false) xg11_0 10 m0 ac (runK (xX s 11 wl k false) (bodyK s.P Try.f11) xk11_0) ⟨(t0 :: t1 :: t2 :: t3 :: t4 :: t5 :: t6 :: t7 :: t8 :: t9 :: t10 :: t11 :: t12 :: t13 :: t14 :: t15 :: t16 :: v9 :: (V.lit (Value.bool true)) :: uu :: uu :: uu :: t22 :: t23 :: t24 :: t25 :: t26 :: t27 :: t28 :: t29 :: t30 :: t31 :: t32 :: t33 :: t34 :: t35 :: t36 :: t37 :: t38 :: t39 :: t40 :: t41 :: t42 :: t43 :: t44 :: t45 :: t46 :: t47 :: t48 :: t49 :: t50 :: t51 :: t52 :: t53 :: t54 :: t55 :: t56 :: t57 :: t58 :: t59 :: t60 :: t61 :: t62 :: t63 :: t64 :: t65 :: t66 :: t67 :: t68 :: t69 :: t70 :: t71 :: []), h10⟩) (
  bp (opLen s.P 43 t1 h10) fun v11 h12 =>
  bm (vBin s.P .gtr 3 v11 (V.lit (Value.int .i64 40))) h12 fun v13 h14 =>
  opsP (xX s 11 wl k false) xg11_0 10 m0 ac (runK (xX s 11 wl k false) (bodyK s.P Try.f11) xk11_0) ⟨(t0 :: t1 :: t2 :: t3 :: t4 :: t5 :: t6 :: t7 :: t8 :: t9 :: t10 :: t11 :: t12 :: t13 :: t14 :: t15 :: t16 :: v9 :: (V.lit (Value.bool false)) :: t1 :: v11 :: v13 :: t22 :: t23 :: t24 :: t25 :: t26 :: t27 :: t28 :: t29 :: t30 :: t31 :: t32 :: t33 :: t34 :: t35 :: t36 :: t37 :: t38 :: t39 :: t40 :: t41 :: t42 :: t43 :: t44 :: t45 :: t46 :: t47 :: t48 :: t49 :: t50 :: t51 :: t52 :: t53 :: t54 :: t55 :: t56 :: t57 :: t58 :: t59 :: t60 :: t61 :: t62 :: t63 :: t64 :: t65 :: t66 :: t67 :: t68 :: t69 :: t70 :: t71 :: []), h14⟩) (
  opsP (xX s 11 wl k false) xg11_0 8 m0 ac (runK (xX s 11 wl k false) (bodyK s.P Try.f11) xk11_0) ⟨(t0 :: t1 :: t2 :: t3 :: t4 :: t5 :: t6 :: t7 :: t8 :: t9 :: t10 :: t11 :: t12 :: t13 :: t14 :: t15 :: t16 :: v9 :: v9 :: uu :: t20 :: t21 :: t22 :: t23 :: t24 :: t25 :: t26 :: t27 :: t28 :: t29 :: t30 :: t31 :: t32 :: t33 :: t34 :: t35 :: t36 :: t37 :: t38 :: t39 :: t40 :: t41 :: t42 :: t43 :: t44 :: t45 :: t46 :: t47 :: t48 :: t49 :: t50 :: t51 :: t52 :: t53 :: t54 :: t55 :: t56 :: t57 :: t58 :: t59 :: t60 :: t61 :: t62 :: t63 :: t64 :: t65 :: t66 :: t67 :: t68 :: t69 :: t70 :: t71 :: []), h10⟩) :=
  (go_op0 rfl rfl (st_bm (by kernel_rfl) fun v9 h10 =>
  (go_op0 rfl rfl (st_id (v := v9) (H := h10) (by kernel_rfl)
  (go_gdF0 rfl rfl rfl (by kernel_rfl)
  (go_skip0 rfl rfl rfl (by kernel_rfl)
  (go_skip0 rfl rfl rfl (by kernel_rfl)
  (by kernel_rfl)))
  (st_id (v := t1) (H := h10) (by kernel_rfl)
  (go_run0 rfl rfl rfl (by kernel_rfl) (st_bp (by kernel_rfl) fun v11 h12 =>
  (go_run0 rfl rfl rfl (by kernel_rfl) (st_bm (by kernel_rfl) fun v13 h14 =>
  (by kernel_rfl))))))
  (by kernel_rfl))))))
theorem xm11_1 (s : Sys) (k wl : Nat) (m0 : Nat) (ac : List Nat × List Nat) (t0 t1 t2 t3 t4 t5 t6 t7 t8 t9 t10 t11 t12 t13 t14 t15 t16 t17 t18 t19 t20 t21 t22 t23 t24 t25 t26 t27 t28 t29 t30 t31 t32 t33 t34 t35 t36 t37 t38 t39 t40 t41 t42 t43 t44 t45 t46 t47 t48 t49 t50 t51 t52 t53 t54 t55 t56 t57 t58 t59 t60 t61 t62 t63 t64 t65 t66 t67 t68 t69 t70 t71 : V) (h : Hp) : opsP (xX s 11 wl k false) xg11_0 10 m0 ac (runK (xX s 11 wl k false) (bodyK s.P Try.f11) xk11_0) ⟨(t0 :: t1 :: t2 :: t3 :: t4 :: t5 :: t6 :: t7 :: t8 :: t9 :: t10 :: t11 :: t12 :: t13 :: t14 :: t15 :: t16 :: t17 :: t18 :: t19 :: t20 :: t21 :: t22 :: t23 :: t24 :: t25 :: t26 :: t27 :: t28 :: t29 :: t30 :: t31 :: t32 :: t33 :: t34 :: t35 :: t36 :: t37 :: t38 :: t39 :: t40 :: t41 :: t42 :: t43 :: t44 :: t45 :: t46 :: t47 :: t48 :: t49 :: t50 :: t51 :: t52 :: t53 :: t54 :: t55 :: t56 :: t57 :: t58 :: t59 :: t60 :: t61 :: t62 :: t63 :: t64 :: t65 :: t66 :: t67 :: t68 :: t69 :: t70 :: t71 :: []), h⟩ =
  bm (vPick t18 (V.lit (Value.bool true)) t21) h fun v15 h16 =>
  gd v15 (
  opsP (xX s 11 wl k false) xg11_0 16 m0 ac (runK (xX s 11 wl k false) (bodyK s.P Try.f11) xk11_0) ⟨(t0 :: t1 :: t2 :: t3 :: t4 :: t5 :: t6 :: t7 :: t8 :: t9 :: t10 :: t11 :: t12 :: t13 :: t14 :: t15 :: t16 :: t17 :: t18 :: t19 :: t20 :: t21 :: v15 :: (V.lit (Value.bool true)) :: uu :: uu :: uu :: uu :: t28 :: t29 :: t30 :: t31 :: t32 :: t33 :: t34 :: t35 :: t36 :: t37 :: t38 :: t39 :: t40 :: t41 :: t42 :: t43 :: t44 :: t45 :: t46 :: t47 :: t48 :: t49 :: t50 :: t51 :: t52 :: t53 :: t54 :: t55 :: t56 :: t57 :: t58 :: t59 :: t60 :: t61 :: t62 :: t63 :: t64 :: t65 :: t66 :: t67 :: t68 :: t69 :: t70 :: t71 :: []), h16⟩) (
  bp (callV (xX s 11 wl k false) false true (.fn (.func 48) [] []) [t0, t1] h16) fun v17 h18 =>
  bm (vUn .not v17) h18 fun v19 h20 =>
  opsP (xX s 11 wl k false) xg11_0 16 m0 ac (runK (xX s 11 wl k false) (bodyK s.P Try.f11) xk11_0) ⟨(t0 :: t1 :: t2 :: t3 :: t4 :: t5 :: t6 :: t7 :: t8 :: t9 :: t10 :: t11 :: t12 :: t13 :: t14 :: t15 :: t16 :: t17 :: t18 :: t19 :: t20 :: t21 :: v15 :: (V.lit (Value.bool false)) :: t0 :: t1 :: v17 :: v19 :: t28 :: t29 :: t30 :: t31 :: t32 :: t33 :: t34 :: t35 :: t36 :: t37 :: t38 :: t39 :: t40 :: t41 :: t42 :: t43 :: t44 :: t45 :: t46 :: t47 :: t48 :: t49 :: t50 :: t51 :: t52 :: t53 :: t54 :: t55 :: t56 :: t57 :: t58 :: t59 :: t60 :: t61 :: t62 :: t63 :: t64 :: t65 :: t66 :: t67 :: t68 :: t69 :: t70 :: t71 :: []), h20⟩) (
  opsP (xX s 11 wl k false) xg11_0 13 m0 ac (runK (xX s 11 wl k false) (bodyK s.P Try.f11) xk11_0) ⟨(t0 :: t1 :: t2 :: t3 :: t4 :: t5 :: t6 :: t7 :: t8 :: t9 :: t10 :: t11 :: t12 :: t13 :: t14 :: t15 :: t16 :: t17 :: t18 :: t19 :: t20 :: t21 :: v15 :: v15 :: uu :: t25 :: t26 :: t27 :: t28 :: t29 :: t30 :: t31 :: t32 :: t33 :: t34 :: t35 :: t36 :: t37 :: t38 :: t39 :: t40 :: t41 :: t42 :: t43 :: t44 :: t45 :: t46 :: t47 :: t48 :: t49 :: t50 :: t51 :: t52 :: t53 :: t54 :: t55 :: t56 :: t57 :: t58 :: t59 :: t60 :: t61 :: t62 :: t63 :: t64 :: t65 :: t66 :: t67 :: t68 :: t69 :: t70 :: t71 :: []), h16⟩) :=
  (go_op0 rfl rfl (st_bm (by kernel_rfl) fun v15 h16 =>
  (go_op0 rfl rfl (st_id (v := v15) (H := h16) (by kernel_rfl)
  (go_gdF0 rfl rfl rfl (by kernel_rfl)
  (go_skip0 rfl rfl rfl (by kernel_rfl)
  (go_skip0 rfl rfl rfl (by kernel_rfl)
  (go_skip0 rfl rfl rfl (by kernel_rfl)
  (by kernel_rfl))))
  (st_id (v := t0) (H := h16) (by kernel_rfl)
  (go_run0 rfl rfl rfl (by kernel_rfl) (st_id (v := t1) (H := h16) (by kernel_rfl)
  (go_run0 rfl rfl rfl (by kernel_rfl) (st_bp (by kernel_rfl) fun v17 h18 =>
  (go_run0 rfl rfl rfl (by kernel_rfl) (st_bm (by kernel_rfl) fun v19 h20 =>
  (by kernel_rfl))))))))
  (by kernel_rfl))))))
theorem xm11_2 (s : Sys) (k wl : Nat) (m0 : Nat) (ac : List Nat × List Nat) (t0 t1 t2 t3 t4 t5 t6 t7 t8 t9 t10 t11 t12 t13 t14 t15 t16 t17 t18 t19 t20 t21 t22 t23 t24 t25 t26 t27 t28 t29 t30 t31 t32 t33 t34 t35 t36 t37 t38 t39 t40 t41 t42 t43 t44 t45 t46 t47 t48 t49 t50 t51 t52 t53 t54 t55 t56 t57 t58 t59 t60 t61 t62 t63 t64 t65 t66 t67 t68 t69 t70 t71 : V) (h : Hp) : opsP (xX s 11 wl k false) xg11_0 16 m0 ac (runK (xX s 11 wl k false) (bodyK s.P Try.f11) xk11_0) ⟨(t0 :: t1 :: t2 :: t3 :: t4 :: t5 :: t6 :: t7 :: t8 :: t9 :: t10 :: t11 :: t12 :: t13 :: t14 :: t15 :: t16 :: t17 :: t18 :: t19 :: t20 :: t21 :: t22 :: t23 :: t24 :: t25 :: t26 :: t27 :: t28 :: t29 :: t30 :: t31 :: t32 :: t33 :: t34 :: t35 :: t36 :: t37 :: t38 :: t39 :: t40 :: t41 :: t42 :: t43 :: t44 :: t45 :: t46 :: t47 :: t48 :: t49 :: t50 :: t51 :: t52 :: t53 :: t54 :: t55 :: t56 :: t57 :: t58 :: t59 :: t60 :: t61 :: t62 :: t63 :: t64 :: t65 :: t66 :: t67 :: t68 :: t69 :: t70 :: t71 :: []), h⟩ =
  bm (vPick t23 (V.lit (Value.bool true)) t27) h fun v21 h22 =>
  cnd v21 (
  some (t5, h22)) (
  bp (callV (xX s 11 wl k false) false true (.fn (.func 39) [] []) [t0, t1] h22) fun v23 h24 =>
  bp (callV (xX s 11 wl k false) false true (.fn (.func 46) [] []) [t0, t1] h24) fun v25 h26 =>
  bm (vBin s.P .eql 3 v25 (V.lit (Value.int .i64 0))) h26 fun v27 h28 =>
  cnd v27 (
  bp (opLen s.P 43 t1 h28) fun v29 h30 =>
  bm (vBin s.P .eql 3 v29 (V.lit (Value.int .i64 0))) h30 fun v31 h32 =>
  gd v31 (
  bp (opLen s.P 43 v23 h32) fun v33 h34 =>
  bm (vBin s.P .eql 3 v33 (V.lit (Value.int .i64 0))) h34 fun v35 h36 =>
  opsP (xX s 11 wl k false) xg11_1 7 h28.length ([], []) (runK (xX s 11 wl k false) (bodyK s.P Try.f11) xk11_1) ⟨(t0 :: t1 :: t2 :: t3 :: t4 :: t5 :: t6 :: v23 :: v25 :: t9 :: t10 :: t11 :: t12 :: t13 :: t14 :: t15 :: t16 :: t17 :: t18 :: t19 :: t20 :: t21 :: t22 :: t23 :: t24 :: t25 :: t26 :: t27 :: v21 :: t29 :: t0 :: t1 :: v23 :: t0 :: t1 :: v25 :: v25 :: v27 :: t1 :: v29 :: v31 :: (V.lit (Value.bool true)) :: v23 :: v33 :: v35 :: t45 :: t46 :: t47 :: t48 :: t49 :: t50 :: t51 :: t52 :: t53 :: t54 :: t55 :: t56 :: t57 :: t58 :: t59 :: t60 :: t61 :: t62 :: t63 :: t64 :: t65 :: t66 :: t67 :: t68 :: t69 :: t70 :: t71 :: []), h36⟩) (
  opsP (xX s 11 wl k false) xg11_1 7 h28.length ([], []) (runK (xX s 11 wl k false) (bodyK s.P Try.f11) xk11_1) ⟨(t0 :: t1 :: t2 :: t3 :: t4 :: t5 :: t6 :: v23 :: v25 :: t9 :: t10 :: t11 :: t12 :: t13 :: t14 :: t15 :: t16 :: t17 :: t18 :: t19 :: t20 :: t21 :: t22 :: t23 :: t24 :: t25 :: t26 :: t27 :: v21 :: t29 :: t0 :: t1 :: v23 :: t0 :: t1 :: v25 :: v25 :: v27 :: t1 :: v29 :: v31 :: (V.lit (Value.bool false)) :: uu :: uu :: uu :: t45 :: t46 :: t47 :: t48 :: t49 :: t50 :: t51 :: t52 :: t53 :: t54 :: t55 :: t56 :: t57 :: t58 :: t59 :: t60 :: t61 :: t62 :: t63 :: t64 :: t65 :: t66 :: t67 :: t68 :: t69 :: t70 :: t71 :: []), h32⟩) (
  opsP (xX s 11 wl k false) xg11_1 5 h28.length ([], []) (runK (xX s 11 wl k false) (bodyK s.P Try.f11) xk11_1) ⟨(t0 :: t1 :: t2 :: t3 :: t4 :: t5 :: t6 :: v23 :: v25 :: t9 :: t10 :: t11 :: t12 :: t13 :: t14 :: t15 :: t16 :: t17 :: t18 :: t19 :: t20 :: t21 :: t22 :: t23 :: t24 :: t25 :: t26 :: t27 :: v21 :: t29 :: t0 :: t1 :: v23 :: t0 :: t1 :: v25 :: v25 :: v27 :: t1 :: v29 :: v31 :: v31 :: uu :: t43 :: t44 :: t45 :: t46 :: t47 :: t48 :: t49 :: t50 :: t51 :: t52 :: t53 :: t54 :: t55 :: t56 :: t57 :: t58 :: t59 :: t60 :: t61 :: t62 :: t63 :: t64 :: t65 :: t66 :: t67 :: t68 :: t69 :: t70 :: t71 :: []), h32⟩)) (
  bp (callV (xX s 11 wl k false) false true (.fn (.func 48) [] []) [t0, v23] h28) fun v37 h38 =>
  gd v37 (
  bp (callV (xX s 11 wl k false) false true (.fn (.func 46) [] []) [t0, v23] h38) fun v39 h40 =>
  bm (vBin s.P .sub 3 v25 (V.lit (Value.int .i64 1))) h40 fun v41 h42 =>
  bm (vBin s.P .eql 3 v39 v41) h42 fun v43 h44 =>
  opsP (xX s 11 wl k false) xg11_2 10 h28.length ([], []) (runK (xX s 11 wl k false) (bodyK s.P Try.f11) xk11_2) ⟨(t0 :: t1 :: t2 :: t3 :: t4 :: t5 :: t6 :: v23 :: v25 :: t9 :: t10 :: t11 :: t12 :: t13 :: t14 :: t15 :: t16 :: t17 :: t18 :: t19 :: t20 :: t21 :: t22 :: t23 :: t24 :: t25 :: t26 :: t27 :: v21 :: t29 :: t0 :: t1 :: v23 :: t0 :: t1 :: v25 :: v25 :: v27 :: t38 :: t39 :: t40 :: t41 :: t42 :: t43 :: t44 :: t45 :: t0 :: v23 :: v37 :: (V.lit (Value.bool true)) :: t0 :: v23 :: v39 :: v25 :: v41 :: v43 :: t56 :: t57 :: t58 :: t59 :: t60 :: t61 :: t62 :: t63 :: t64 :: t65 :: t66 :: t67 :: t68 :: t69 :: t70 :: t71 :: []), h44⟩) (
  opsP (xX s 11 wl k false) xg11_2 10 h28.length ([], []) (runK (xX s 11 wl k false) (bodyK s.P Try.f11) xk11_2) ⟨(t0 :: t1 :: t2 :: t3 :: t4 :: t5 :: t6 :: v23 :: v25 :: t9 :: t10 :: t11 :: t12 :: t13 :: t14 :: t15 :: t16 :: t17 :: t18 :: t19 :: t20 :: t21 :: t22 :: t23 :: t24 :: t25 :: t26 :: t27 :: v21 :: t29 :: t0 :: t1 :: v23 :: t0 :: t1 :: v25 :: v25 :: v27 :: t38 :: t39 :: t40 :: t41 :: t42 :: t43 :: t44 :: t45 :: t0 :: v23 :: v37 :: (V.lit (Value.bool false)) :: uu :: uu :: uu :: uu :: uu :: uu :: t56 :: t57 :: t58 :: t59 :: t60 :: t61 :: t62 :: t63 :: t64 :: t65 :: t66 :: t67 :: t68 :: t69 :: t70 :: t71 :: []), h38⟩) (
  opsP (xX s 11 wl k false) xg11_2 5 h28.length ([], []) (runK (xX s 11 wl k false) (bodyK s.P Try.f11) xk11_2) ⟨(t0 :: t1 :: t2 :: t3 :: t4 :: t5 :: t6 :: v23 :: v25 :: t9 :: t10 :: t11 :: t12 :: t13 :: t14 :: t15 :: t16 :: t17 :: t18 :: t19 :: t20 :: t21 :: t22 :: t23 :: t24 :: t25 :: t26 :: t27 :: v21 :: t29 :: t0 :: t1 :: v23 :: t0 :: t1 :: v25 :: v25 :: v27 :: t38 :: t39 :: t40 :: t41 :: t42 :: t43 :: t44 :: t45 :: t0 :: v23 :: v37 :: v37 :: uu :: t51 :: t52 :: t53 :: t54 :: t55 :: t56 :: t57 :: t58 :: t59 :: t60 :: t61 :: t62 :: t63 :: t64 :: t65 :: t66 :: t67 :: t68 :: t69 :: t70 :: t71 :: []), h38⟩))) :=
  (go_op0 rfl rfl (st_bm (by kernel_rfl) fun v21 h22 =>
  (go_end0 (by kernel_rfl)
  (go_cond (by kernel_rfl)
  (go_seq (go_reg0
  (go_op0 rfl rfl (st_id (v := t5) (H := h22) (by kernel_rfl)
  (go_op0 rfl rfl (st_id (v := t5) (H := h22) (by kernel_rfl)
  (go_end0 (by kernel_rfl)
  (go_ret (rt_seq_ret (by kernel_rfl))))))))))
  (go_skip (go_seq (go_reg0
  (go_op0 rfl rfl (st_id (v := t0) (H := h22) (by kernel_rfl)
  (go_op0 rfl rfl (st_id (v := t1) (H := h22) (by kernel_rfl)
  (go_op0 rfl rfl (st_bp (by kernel_rfl) fun v23 h24 =>
  (go_op0 rfl rfl (st_id (v := v23) (H := h24) (by kernel_rfl)
  (go_end0 (by kernel_rfl)
  (go_seq (go_reg0
  (go_op0 rfl rfl (st_id (v := t0) (H := h24) (by kernel_rfl)
  (go_op0 rfl rfl (st_id (v := t1) (H := h24) (by kernel_rfl)
  (go_op0 rfl rfl (st_bp (by kernel_rfl) fun v25 h26 =>
  (go_op0 rfl rfl (st_id (v := v25) (H := h26) (by kernel_rfl)
  (go_end0 (by kernel_rfl)
  (go_seq (go_seq (go_reg0
  (go_op0 rfl rfl (st_id (v := v25) (H := h26) (by kernel_rfl)
  (go_op0 rfl rfl (st_bm (by kernel_rfl) fun v27 h28 =>
  (go_end0 (by kernel_rfl)
  (go_cond (by kernel_rfl)
  (go_seq (go_reg0
  (go_op0 rfl rfl (st_id (v := t1) (H := h28) (by kernel_rfl)
  (go_op0 rfl rfl (st_bp (by kernel_rfl) fun v29 h30 =>
  (go_op0 rfl rfl (st_bm (by kernel_rfl) fun v31 h32 =>
  (go_op0 rfl rfl (st_id (v := v31) (H := h32) (by kernel_rfl)
  (go_gdT0 rfl rfl rfl (by kernel_rfl)
  (st_id (v := v23) (H := h32) (by kernel_rfl)
  (go_run0 rfl rfl rfl (by kernel_rfl) (st_bp (by kernel_rfl) fun v33 h34 =>
  (go_run0 rfl rfl rfl (by kernel_rfl) (st_bm (by kernel_rfl) fun v35 h36 =>
  (by kernel_rfl))))))
  (go_skip0 rfl rfl rfl (by kernel_rfl)
  (go_skip0 rfl rfl rfl (by kernel_rfl)
  (by kernel_rfl)))
  (by kernel_rfl))))))))))))
  (go_skip (go_seq (go_reg0
  (go_op0 rfl rfl (st_id (v := t0) (H := h28) (by kernel_rfl)
  (go_op0 rfl rfl (st_id (v := v23) (H := h28) (by kernel_rfl)
  (go_op0 rfl rfl (st_bp (by kernel_rfl) fun v37 h38 =>
  (go_op0 rfl rfl (st_id (v := v37) (H := h38) (by kernel_rfl)
  (go_gdT0 rfl rfl rfl (by kernel_rfl)
  (st_id (v := t0) (H := h38) (by kernel_rfl)
  (go_run0 rfl rfl rfl (by kernel_rfl) (st_id (v := v23) (H := h38) (by kernel_rfl)
  (go_run0 rfl rfl rfl (by kernel_rfl) (st_bp (by kernel_rfl) fun v39 h40 =>
  (go_run0 rfl rfl rfl (by kernel_rfl) (st_id (v := v25) (H := h40) (by kernel_rfl)
  (go_run0 rfl rfl rfl (by kernel_rfl) (st_bm (by kernel_rfl) fun v41 h42 =>
  (go_run0 rfl rfl rfl (by kernel_rfl) (st_bm (by kernel_rfl) fun v43 h44 =>
  (by kernel_rfl))))))))))))
  (go_skip0 rfl rfl rfl (by kernel_rfl)
  (go_skip0 rfl rfl rfl (by kernel_rfl)
  (go_skip0 rfl rfl rfl (by kernel_rfl)
  (go_skip0 rfl rfl rfl (by kernel_rfl)
  (go_skip0 rfl rfl rfl (by kernel_rfl)
  (by kernel_rfl))))))
  (by kernel_rfl)))))))))))))))))))))))))))))))))))))))))))))))))
theorem xm11_3 (s : Sys) (k wl : Nat) (m0 : Nat) (ac : List Nat × List Nat) (t0 t1 t2 t3 t4 t5 t6 t7 t8 t9 t10 t11 t12 t13 t14 t15 t16 t17 t18 t19 t20 t21 t22 t23 t24 t25 t26 t27 t28 t29 t30 t31 t32 t33 t34 t35 t36 t37 t38 t39 t40 t41 t42 t43 t44 t45 t46 t47 t48 t49 t50 t51 t52 t53 t54 t55 t56 t57 t58 t59 t60 t61 t62 t63 t64 t65 t66 t67 t68 t69 t70 t71 : V) (h : Hp) : opsP (xX s 11 wl k false) xg11_1 7 m0 ac (runK (xX s 11 wl k false) (bodyK s.P Try.f11) xk11_1) ⟨(t0 :: t1 :: t2 :: t3 :: t4 :: t5 :: t6 :: t7 :: t8 :: t9 :: t10 :: t11 :: t12 :: t13 :: t14 :: t15 :: t16 :: t17 :: t18 :: t19 :: t20 :: t21 :: t22 :: t23 :: t24 :: t25 :: t26 :: t27 :: t28 :: t29 :: t30 :: t31 :: t32 :: t33 :: t34 :: t35 :: t36 :: t37 :: t38 :: t39 :: t40 :: t41 :: t42 :: t43 :: t44 :: t45 :: t46 :: t47 :: t48 :: t49 :: t50 :: t51 :: t52 :: t53 :: t54 :: t55 :: t56 :: t57 :: t58 :: t59 :: t60 :: t61 :: t62 :: t63 :: t64 :: t65 :: t66 :: t67 :: t68 :: t69 :: t70 :: t71 :: []), h⟩ =
  bm (vPick t41 t44 (V.lit (Value.bool false))) h fun v45 h46 =>
  some (v45, h46) :=
  (go_op0 rfl rfl (st_bm (by kernel_rfl) fun v45 h46 =>
  (go_op0 rfl rfl (st_id (v := v45) (H := h46) (by kernel_rfl)
  (go_end0 (by kernel_rfl)
  (go_ret (rt_seq_ret (by kernel_rfl))))))))
theorem xm11_4 (s : Sys) (k wl : Nat) (m0 : Nat) (ac : List Nat × List Nat) (t0 t1 t2 t3 t4 t5 t6 t7 t8 t9 t10 t11 t12 t13 t14 t15 t16 t17 t18 t19 t20 t21 t22 t23 t24 t25 t26 t27 t28 t29 t30 t31 t32 t33 t34 t35 t36 t37 t38 t39 t40 t41 t42 t43 t44 t45 t46 t47 t48 t49 t50 t51 t52 t53 t54 t55 t56 t57 t58 t59 t60 t61 t62 t63 t64 t65 t66 t67 t68 t69 t70 t71 : V) (h : Hp) : opsP (xX s 11 wl k false) xg11_2 10 m0 ac (runK (xX s 11 wl k false) (bodyK s.P Try.f11) xk11_2) ⟨(t0 :: t1 :: t2 :: t3 :: t4 :: t5 :: t6 :: t7 :: t8 :: t9 :: t10 :: t11 :: t12 :: t13 :: t14 :: t15 :: t16 :: t17 :: t18 :: t19 :: t20 :: t21 :: t22 :: t23 :: t24 :: t25 :: t26 :: t27 :: t28 :: t29 :: t30 :: t31 :: t32 :: t33 :: t34 :: t35 :: t36 :: t37 :: t38 :: t39 :: t40 :: t41 :: t42 :: t43 :: t44 :: t45 :: t46 :: t47 :: t48 :: t49 :: t50 :: t51 :: t52 :: t53 :: t54 :: t55 :: t56 :: t57 :: t58 :: t59 :: t60 :: t61 :: t62 :: t63 :: t64 :: t65 :: t66 :: t67 :: t68 :: t69 :: t70 :: t71 :: []), h⟩ =
  bm (vPick t49 t55 (V.lit (Value.bool false))) h fun v47 h48 =>
  gd v47 (
  bp (opLen s.P 43 t7 h48) fun v49 h50 =>
  bp (opLen s.P 43 t1 h50) fun v51 h52 =>
  bm (vBin s.P .leq 3 v49 v51) h52 fun v53 h54 =>
  opsP (xX s 11 wl k false) xg11_2 17 m0 ac (runK (xX s 11 wl k false) (bodyK s.P Try.f11) xk11_2) ⟨(t0 :: t1 :: t2 :: t3 :: t4 :: t5 :: t6 :: t7 :: t8 :: t9 :: t10 :: t11 :: t12 :: t13 :: t14 :: t15 :: t16 :: t17 :: t18 :: t19 :: t20 :: t21 :: t22 :: t23 :: t24 :: t25 :: t26 :: t27 :: t28 :: t29 :: t30 :: t31 :: t32 :: t33 :: t34 :: t35 :: t36 :: t37 :: t38 :: t39 :: t40 :: t41 :: t42 :: t43 :: t44 :: t45 :: t46 :: t47 :: t48 :: t49 :: t50 :: t51 :: t52 :: t53 :: t54 :: t55 :: v47 :: (V.lit (Value.bool true)) :: t7 :: v49 :: t1 :: v51 :: v53 :: t63 :: t64 :: t65 :: t66 :: t67 :: t68 :: t69 :: t70 :: t71 :: []), h54⟩) (
  opsP (xX s 11 wl k false) xg11_2 17 m0 ac (runK (xX s 11 wl k false) (bodyK s.P Try.f11) xk11_2) ⟨(t0 :: t1 :: t2 :: t3 :: t4 :: t5 :: t6 :: t7 :: t8 :: t9 :: t10 :: t11 :: t12 :: t13 :: t14 :: t15 :: t16 :: t17 :: t18 :: t19 :: t20 :: t21 :: t22 :: t23 :: t24 :: t25 :: t26 :: t27 :: t28 :: t29 :: t30 :: t31 :: t32 :: t33 :: t34 :: t35 :: t36 :: t37 :: t38 :: t39 :: t40 :: t41 :: t42 :: t43 :: t44 :: t45 :: t46 :: t47 :: t48 :: t49 :: t50 :: t51 :: t52 :: t53 :: t54 :: t55 :: v47 :: (V.lit (Value.bool false)) :: uu :: uu :: uu :: uu :: uu :: t63 :: t64 :: t65 :: t66 :: t67 :: t68 :: t69 :: t70 :: t71 :: []), h48⟩) (
  opsP (xX s 11 wl k false) xg11_2 13 m0 ac (runK (xX s 11 wl k false) (bodyK s.P Try.f11) xk11_2) ⟨(t0 :: t1 :: t2 :: t3 :: t4 :: t5 :: t6 :: t7 :: t8 :: t9 :: t10 :: t11 :: t12 :: t13 :: t14 :: t15 :: t16 :: t17 :: t18 :: t19 :: t20 :: t21 :: t22 :: t23 :: t24 :: t25 :: t26 :: t27 :: t28 :: t29 :: t30 :: t31 :: t32 :: t33 :: t34 :: t35 :: t36 :: t37 :: t38 :: t39 :: t40 :: t41 :: t42 :: t43 :: t44 :: t45 :: t46 :: t47 :: t48 :: t49 :: t50 :: t51 :: t52 :: t53 :: t54 :: t55 :: v47 :: v47 :: uu :: t59 :: t60 :: t61 :: t62 :: t63 :: t64 :: t65 :: t66 :: t67 :: t68 :: t69 :: t70 :: t71 :: []), h48⟩) :=
  (go_op0 rfl rfl (st_bm (by kernel_rfl) fun v47 h48 =>
  (go_op0 rfl rfl (st_id (v := v47) (H := h48) (by kernel_rfl)
  (go_gdT0 rfl rfl rfl (by kernel_rfl)
  (st_id (v := t7) (H := h48) (by kernel_rfl)
  (go_run0 rfl rfl rfl (by kernel_rfl) (st_bp (by kernel_rfl) fun v49 h50 =>
  (go_run0 rfl rfl rfl (by kernel_rfl) (st_id (v := t1) (H := h50) (by kernel_rfl)
  (go_run0 rfl rfl rfl (by kernel_rfl) (st_bp (by kernel_rfl) fun v51 h52 =>
  (go_run0 rfl rfl rfl (by kernel_rfl) (st_bm (by kernel_rfl) fun v53 h54 =>
  (by kernel_rfl))))))))))
  (go_skip0 rfl rfl rfl (by kernel_rfl)
  (go_skip0 rfl rfl rfl (by kernel_rfl)
  (go_skip0 rfl rfl rfl (by kernel_rfl)
  (go_skip0 rfl rfl rfl (by kernel_rfl)
  (by kernel_rfl)))))
  (by kernel_rfl))))))
theorem xm11_5 (s : Sys) (k wl : Nat) (m0 : Nat) (ac : List Nat × List Nat) (t0 t1 t2 t3 t4 t5 t6 t7 t8 t9 t10 t11 t12 t13 t14 t15 t16 t17 t18 t19 t20 t21 t22 t23 t24 t25 t26 t27 t28 t29 t30 t31 t32 t33 t34 t35 t36 t37 t38 t39 t40 t41 t42 t43 t44 t45 t46 t47 t48 t49 t50 t51 t52 t53 t54 t55 t56 t57 t58 t59 t60 t61 t62 t63 t64 t65 t66 t67 t68 t69 t70 t71 : V) (h : Hp) : opsP (xX s 11 wl k false) xg11_2 17 m0 ac (runK (xX s 11 wl k false) (bodyK s.P Try.f11) xk11_2) ⟨(t0 :: t1 :: t2 :: t3 :: t4 :: t5 :: t6 :: t7 :: t8 :: t9 :: t10 :: t11 :: t12 :: t13 :: t14 :: t15 :: t16 :: t17 :: t18 :: t19 :: t20 :: t21 :: t22 :: t23 :: t24 :: t25 :: t26 :: t27 :: t28 :: t29 :: t30 :: t31 :: t32 :: t33 :: t34 :: t35 :: t36 :: t37 :: t38 :: t39 :: t40 :: t41 :: t42 :: t43 :: t44 :: t45 :: t46 :: t47 :: t48 :: t49 :: t50 :: t51 :: t52 :: t53 :: t54 :: t55 :: t56 :: t57 :: t58 :: t59 :: t60 :: t61 :: t62 :: t63 :: t64 :: t65 :: t66 :: t67 :: t68 :: t69 :: t70 :: t71 :: []), h⟩ =
  bm (vPick t57 t62 (V.lit (Value.bool false))) h fun v55 h56 =>
  gd v55 (
  bp (opLen s.P 43 t7 h56) fun v57 h58 =>
  bp (opLen s.P 43 t1 h58) fun v59 h60 =>
  bm (vBin s.P .sub 3 v59 (V.lit (Value.int .i64 1))) h60 fun v61 h62 =>
  bm (vBin s.P .geq 3 v57 v61) h62 fun v63 h64 =>
  opsP (xX s 11 wl k false) xg11_2 25 m0 ac (runK (xX s 11 wl k false) (bodyK s.P Try.f11) xk11_2) ⟨(t0 :: t1 :: t2 :: t3 :: t4 :: t5 :: t6 :: t7 :: t8 :: t9 :: t10 :: t11 :: t12 :: t13 :: t14 :: t15 :: t16 :: t17 :: t18 :: t19 :: t20 :: t21 :: t22 :: t23 :: t24 :: t25 :: t26 :: t27 :: t28 :: t29 :: t30 :: t31 :: t32 :: t33 :: t34 :: t35 :: t36 :: t37 :: t38 :: t39 :: t40 :: t41 :: t42 :: t43 :: t44 :: t45 :: t46 :: t47 :: t48 :: t49 :: t50 :: t51 :: t52 :: t53 :: t54 :: t55 :: t56 :: t57 :: t58 :: t59 :: t60 :: t61 :: t62 :: v55 :: (V.lit (Value.bool true)) :: t7 :: v57 :: t1 :: v59 :: v61 :: v63 :: t71 :: []), h64⟩) (
  opsP (xX s 11 wl k false) xg11_2 25 m0 ac (runK (xX s 11 wl k false) (bodyK s.P Try.f11) xk11_2) ⟨(t0 :: t1 :: t2 :: t3 :: t4 :: t5 :: t6 :: t7 :: t8 :: t9 :: t10 :: t11 :: t12 :: t13 :: t14 :: t15 :: t16 :: t17 :: t18 :: t19 :: t20 :: t21 :: t22 :: t23 :: t24 :: t25 :: t26 :: t27 :: t28 :: t29 :: t30 :: t31 :: t32 :: t33 :: t34 :: t35 :: t36 :: t37 :: t38 :: t39 :: t40 :: t41 :: t42 :: t43 :: t44 :: t45 :: t46 :: t47 :: t48 :: t49 :: t50 :: t51 :: t52 :: t53 :: t54 :: t55 :: t56 :: t57 :: t58 :: t59 :: t60 :: t61 :: t62 :: v55 :: (V.lit (Value.bool false)) :: uu :: uu :: uu :: uu :: uu :: uu :: t71 :: []), h56⟩) (
  opsP (xX s 11 wl k false) xg11_2 20 m0 ac (runK (xX s 11 wl k false) (bodyK s.P Try.f11) xk11_2) ⟨(t0 :: t1 :: t2 :: t3 :: t4 :: t5 :: t6 :: t7 :: t8 :: t9 :: t10 :: t11 :: t12 :: t13 :: t14 :: t15 :: t16 :: t17 :: t18 :: t19 :: t20 :: t21 :: t22 :: t23 :: t24 :: t25 :: t26 :: t27 :: t28 :: t29 :: t30 :: t31 :: t32 :: t33 :: t34 :: t35 :: t36 :: t37 :: t38 :: t39 :: t40 :: t41 :: t42 :: t43 :: t44 :: t45 :: t46 :: t47 :: t48 :: t49 :: t50 :: t51 :: t52 :: t53 :: t54 :: t55 :: t56 :: t57 :: t58 :: t59 :: t60 :: t61 :: t62 :: v55 :: v55 :: uu :: t66 :: t67 :: t68 :: t69 :: t70 :: t71 :: []), h56⟩) :=
  (go_op0 rfl rfl (st_bm (by kernel_rfl) fun v55 h56 =>
  (go_op0 rfl rfl (st_id (v := v55) (H := h56) (by kernel_rfl)
  (go_gdT0 rfl rfl rfl (by kernel_rfl)
  (st_id (v := t7) (H := h56) (by kernel_rfl)
  (go_run0 rfl rfl rfl (by kernel_rfl) (st_bp (by kernel_rfl) fun v57 h58 =>
  (go_run0 rfl rfl rfl (by kernel_rfl) (st_id (v := t1) (H := h58) (by kernel_rfl)
  (go_run0 rfl rfl rfl (by kernel_rfl) (st_bp (by kernel_rfl) fun v59 h60 =>
  (go_run0 rfl rfl rfl (by kernel_rfl) (st_bm (by kernel_rfl) fun v61 h62 =>
  (go_run0 rfl rfl rfl (by kernel_rfl) (st_bm (by kernel_rfl) fun v63 h64 =>
  (by kernel_rfl))))))))))))
  (go_skip0 rfl rfl rfl (by kernel_rfl)
  (go_skip0 rfl rfl rfl (by kernel_rfl)
  (go_skip0 rfl rfl rfl (by kernel_rfl)
  (go_skip0 rfl rfl rfl (by kernel_rfl)
  (go_skip0 rfl rfl rfl (by kernel_rfl)
  (by kernel_rfl))))))
  (by kernel_rfl))))))
theorem xm11_6 (s : Sys) (k wl : Nat) (m0 : Nat) (ac : List Nat × List Nat) (t0 t1 t2 t3 t4 t5 t6 t7 t8 t9 t10 t11 t12 t13 t14 t15 t16 t17 t18 t19 t20 t21 t22 t23 t24 t25 t26 t27 t28 t29 t30 t31 t32 t33 t34 t35 t36 t37 t38 t39 t40 t41 t42 t43 t44 t45 t46 t47 t48 t49 t50 t51 t52 t53 t54 t55 t56 t57 t58 t59 t60 t61 t62 t63 t64 t65 t66 t67 t68 t69 t70 t71 : V) (h : Hp) : opsP (xX s 11 wl k false) xg11_2 25 m0 ac (runK (xX s 11 wl k false) (bodyK s.P Try.f11) xk11_2) ⟨(t0 :: t1 :: t2 :: t3 :: t4 :: t5 :: t6 :: t7 :: t8 :: t9 :: t10 :: t11 :: t12 :: t13 :: t14 :: t15 :: t16 :: t17 :: t18 :: t19 :: t20 :: t21 :: t22 :: t23 :: t24 :: t25 :: t26 :: t27 :: t28 :: t29 :: t30 :: t31 :: t32 :: t33 :: t34 :: t35 :: t36 :: t37 :: t38 :: t39 :: t40 :: t41 :: t42 :: t43 :: t44 :: t45 :: t46 :: t47 :: t48 :: t49 :: t50 :: t51 :: t52 :: t53 :: t54 :: t55 :: t56 :: t57 :: t58 :: t59 :: t60 :: t61 :: t62 :: t63 :: t64 :: t65 :: t66 :: t67 :: t68 :: t69 :: t70 :: t71 :: []), h⟩ =
  bm (vPick t64 t70 (V.lit (Value.bool false))) h fun v65 h66 =>
  some (v65, h66) :=
  (go_op0 rfl rfl (st_bm (by kernel_rfl) fun v65 h66 =>
  (go_op0 rfl rfl (st_id (v := v65) (H := h66) (by kernel_rfl)
  (go_end0 (by kernel_rfl)
  (go_ret (by kernel_rfl)))))))
theorem xk11_0_ret (cx : Cx) (K : Out → St → Option (V × Hp)) (s : St) : runK cx K xk11_0 .ret s = K .ret s := by kernel_rfl
theorem xk11_1_ret (cx : Cx) (K : Out → St → Option (V × Hp)) (s : St) : runK cx K xk11_1 .ret s = K .ret s := by kernel_rfl
theorem xk11_2_ret (cx : Cx) (K : Out → St → Option (V × Hp)) (s : St) : runK cx K xk11_2 .ret s = K .ret s := by kernel_rfl
-- names: xb11, xm11_0, xm11_1, xm11_2, xm11_3, xm11_4, xm11_5, xm11_6, xk11_0_ret, xk11_1_ret, xk11_2_ret
end Go.Ab
