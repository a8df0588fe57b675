/- The program's code, point by point: printed by gen.py. -/
import Derived.Test.YthnifkacfonhgaaR2Seat
set_option linter.unusedVariables false
set_option linter.unusedSimpArgs false
set_option maxRecDepth 100000
set_option linter.unusedVariables false
namespace Go.Ab
open Go.Proofs
/-! 17 poacher/poacherlaw16.EventFirst: 0 calls, 1 who, 2 k, 3 calls, 4 who, 5 k, 7 up, 8 few, 9 _, 10 a, 11 x, 12 _, 13 b, 14 y, 15 same -/
noncomputable def xg17_0 : Code := codeAt (bodyOf Try.f17) [1, 1, 1, 0, 0]
noncomputable def xk17_0 : List Fr := [.seq (codeAt (bodyOf Try.f17) [1, 1, 1, 0, 1]), .seq (codeAt (bodyOf Try.f17) [1, 1, 1, 1])]
noncomputable def xg17_1 : Code := codeAt (bodyOf Try.f17) [1, 1, 1, 1, 1, 1, 0, 0]
noncomputable def xk17_1 : List Fr := [.seq (codeAt (bodyOf Try.f17) [1, 1, 1, 1, 1, 1, 0, 1]), .seq (codeAt (bodyOf Try.f17) [1, 1, 1, 1, 1, 1, 1])]
theorem xb17 (s : Sys) (k wl : Nat) (t0 t1 t2 : V) (h : Hp) : bodyV (xX s 17 wl k false) Try.f17 [t0, t1, t2] h =
  bp (callV (xX s 17 wl k false) false true (.fn (.func 44) [] []) [] h) fun v1 h2 =>
  bp (callV (xX s 17 wl k false) false true (.fn (.func 45) [] []) [t0] h2) fun v3 h4 =>
  bm (vUn .not v1) h4 fun v5 h6 =>
  gd v5 (
  opsP (xX s 17 wl k false) xg17_0 5 h4.length ([], []) (runK (xX s 17 wl k false) (bodyK s.P Try.f17) xk17_0) ⟨(t0 :: t1 :: t2 :: uu :: uu :: uu :: (V.lit (Value.bool false)) :: v1 :: v3 :: uu :: uu :: uu :: uu :: uu :: uu :: uu :: v1 :: t0 :: v3 :: v1 :: v5 :: (V.lit (Value.bool true)) :: uu :: uu :: uu :: uu :: uu :: uu :: uu :: uu :: uu :: uu :: uu :: uu :: uu :: uu :: uu :: uu :: uu :: uu :: uu :: uu :: uu :: uu :: uu :: uu :: uu :: uu :: uu :: uu :: uu :: uu :: uu :: uu :: uu :: uu :: uu :: uu :: uu :: uu :: uu :: uu :: uu :: uu :: uu :: uu :: uu :: uu :: uu :: uu :: uu :: uu :: uu :: uu :: uu :: uu :: []), h6⟩) (
  bm (vUn .not v3) h6 fun v7 h8 =>
  opsP (xX s 17 wl k false) xg17_0 5 h4.length ([], []) (runK (xX s 17 wl k false) (bodyK s.P Try.f17) xk17_0) ⟨(t0 :: t1 :: t2 :: uu :: uu :: uu :: (V.lit (Value.bool false)) :: v1 :: v3 :: uu :: uu :: uu :: uu :: uu :: uu :: uu :: v1 :: t0 :: v3 :: v1 :: v5 :: (V.lit (Value.bool false)) :: v3 :: v7 :: uu :: uu :: uu :: uu :: uu :: uu :: uu :: uu :: uu :: uu :: uu :: uu :: uu :: uu :: uu :: uu :: uu :: uu :: uu :: uu :: uu :: uu :: uu :: uu :: uu :: uu :: uu :: uu :: uu :: uu :: uu :: uu :: uu :: uu :: uu :: uu :: uu :: uu :: uu :: uu :: uu :: uu :: uu :: uu :: uu :: uu :: uu :: uu :: uu :: uu :: uu :: uu :: []), h8⟩) (
  opsP (xX s 17 wl k false) xg17_0 4 h4.length ([], []) (runK (xX s 17 wl k false) (bodyK s.P Try.f17) xk17_0) ⟨(t0 :: t1 :: t2 :: uu :: uu :: uu :: (V.lit (Value.bool false)) :: v1 :: v3 :: uu :: uu :: uu :: uu :: uu :: uu :: uu :: v1 :: t0 :: v3 :: v1 :: v5 :: v5 :: uu :: uu :: uu :: uu :: uu :: uu :: uu :: uu :: uu :: uu :: uu :: uu :: uu :: uu :: uu :: uu :: uu :: uu :: uu :: uu :: uu :: uu :: uu :: uu :: uu :: uu :: uu :: uu :: uu :: uu :: uu :: uu :: uu :: uu :: uu :: uu :: uu :: uu :: uu :: uu :: uu :: uu :: uu :: uu :: uu :: uu :: uu :: uu :: uu :: uu :: uu :: uu :: uu :: uu :: []), h6⟩) :=
  bodyV_run rfl (go_seq (go_reg0
  (go_op0 rfl rfl (st_id (v := (V.lit (Value.bool false))) (H := h) (by kernel_rfl)
  (go_end0 (by kernel_rfl)
  (go_seq (go_reg0
  (go_op0 rfl rfl (st_bp (by kernel_rfl) fun v1 h2 =>
  (go_op0 rfl rfl (st_id (v := v1) (H := h2) (by kernel_rfl)
  (go_end0 (by kernel_rfl)
  (go_seq (go_reg0
  (go_op0 rfl rfl (st_id (v := t0) (H := h2) (by kernel_rfl)
  (go_op0 rfl rfl (st_bp (by kernel_rfl) fun v3 h4 =>
  (go_op0 rfl rfl (st_id (v := v3) (H := h4) (by kernel_rfl)
  (go_end0 (by kernel_rfl)
  (go_seq (go_seq (go_reg0
  (go_op0 rfl rfl (st_id (v := v1) (H := h4) (by kernel_rfl)
  (go_op0 rfl rfl (st_bm (by kernel_rfl) fun v5 h6 =>
  (go_op0 rfl rfl (st_id (v := v5) (H := h6) (by kernel_rfl)
  (go_gdF0 rfl rfl rfl (by kernel_rfl)
  (go_skip0 rfl rfl rfl (by kernel_rfl)
  (by kernel_rfl))
  (st_id (v := v3) (H := h6) (by kernel_rfl)
  (go_run0 rfl rfl rfl (by kernel_rfl) (st_bm (by kernel_rfl) fun v7 h8 =>
  (by kernel_rfl))))
  (by kernel_rfl))))))))))))))))))))))))))))))))
theorem xe17 (k wl : Nat) (t0 t1 t2 : V) (h : Hp) : evF Try.prog xM (k + 1) wl 17 [t0, t1, t2] h = bodyV (xX (xS k) 17 wl k false) Try.f17 [t0, t1, t2] h := by kernel_rfl
theorem xm17_0 (s : Sys) (k wl : Nat) (m0 : Nat) (ac : List Nat × List Nat) (t0 t1 t2 t3 t4 t5 t6 t7 t8 t9 t10 t11 t12 t13 t14 t15 t16 t17 t18 t19 t20 t21 t22 t23 t24 t25 t26 t27 t28 t29 t30 t31 t32 t33 t34 t35 t36 t37 t38 t39 t40 t41 t42 t43 t44 t45 t46 t47 t48 t49 t50 t51 t52 t53 t54 t55 t56 t57 t58 t59 t60 t61 t62 t63 t64 t65 t66 t67 t68 t69 t70 t71 t72 t73 t74 t75 : V) (h : Hp) : opsP (xX s 17 wl k false) xg17_0 5 m0 ac (runK (xX s 17 wl k false) (bodyK s.P Try.f17) xk17_0) ⟨(t0 :: t1 :: t2 :: t3 :: t4 :: t5 :: t6 :: t7 :: t8 :: t9 :: t10 :: t11 :: t12 :: t13 :: t14 :: t15 :: t16 :: t17 :: t18 :: t19 :: t20 :: t21 :: t22 :: t23 :: t24 :: t25 :: t26 :: t27 :: t28 :: t29 :: t30 :: t31 :: t32 :: t33 :: t34 :: t35 :: t36 :: t37 :: t38 :: t39 :: t40 :: t41 :: t42 :: t43 :: t44 :: t45 :: t46 :: t47 :: t48 :: t49 :: t50 :: t51 :: t52 :: t53 :: t54 :: t55 :: t56 :: t57 :: t58 :: t59 :: t60 :: t61 :: t62 :: t63 :: t64 :: t65 :: t66 :: t67 :: t68 :: t69 :: t70 :: t71 :: t72 :: t73 :: t74 :: t75 :: []), h⟩ =
  bm (vPick t21 (V.lit (Value.bool true)) t23) h fun v9 h10 =>
  gd v9 (
  opsP (xX s 17 wl k false) xg17_0 10 m0 ac (runK (xX s 17 wl k false) (bodyK s.P Try.f17) xk17_0) ⟨(t0 :: t1 :: t2 :: t3 :: t4 :: t5 :: t6 :: t7 :: t8 :: t9 :: t10 :: t11 :: t12 :: t13 :: t14 :: t15 :: t16 :: t17 :: t18 :: t19 :: t20 :: t21 :: t22 :: t23 :: v9 :: (V.lit (Value.bool true)) :: uu :: uu :: uu :: t29 :: t30 :: t31 :: t32 :: t33 :: t34 :: t35 :: t36 :: t37 :: t38 :: t39 :: t40 :: t41 :: t42 :: t43 :: t44 :: t45 :: t46 :: t47 :: t48 :: t49 :: t50 :: t51 :: t52 :: t53 :: t54 :: t55 :: t56 :: t57 :: t58 :: t59 :: t60 :: t61 :: t62 :: t63 :: t64 :: t65 :: t66 :: t67 :: t68 :: t69 :: t70 :: t71 :: t72 :: t73 :: t74 :: t75 :: []), h10⟩) (
  bp (opLen s.P 51 t1 h10) fun v11 h12 =>
  bm (vBin s.P .gtr 3 v11 (V.lit (Value.int .i64 500))) h12 fun v13 h14 =>
  opsP (xX s 17 wl k false) xg17_0 10 m0 ac (runK (xX s 17 wl k false) (bodyK s.P Try.f17) xk17_0) ⟨(t0 :: t1 :: t2 :: t3 :: t4 :: t5 :: t6 :: t7 :: t8 :: t9 :: t10 :: t11 :: t12 :: t13 :: t14 :: t15 :: t16 :: t17 :: t18 :: t19 :: t20 :: t21 :: t22 :: t23 :: v9 :: (V.lit (Value.bool false)) :: t1 :: v11 :: v13 :: t29 :: t30 :: t31 :: t32 :: t33 :: t34 :: t35 :: t36 :: t37 :: t38 :: t39 :: t40 :: t41 :: t42 :: t43 :: t44 :: t45 :: t46 :: t47 :: t48 :: t49 :: t50 :: t51 :: t52 :: t53 :: t54 :: t55 :: t56 :: t57 :: t58 :: t59 :: t60 :: t61 :: t62 :: t63 :: t64 :: t65 :: t66 :: t67 :: t68 :: t69 :: t70 :: t71 :: t72 :: t73 :: t74 :: t75 :: []), h14⟩) (
  opsP (xX s 17 wl k false) xg17_0 8 m0 ac (runK (xX s 17 wl k false) (bodyK s.P Try.f17) xk17_0) ⟨(t0 :: t1 :: t2 :: t3 :: t4 :: t5 :: t6 :: t7 :: t8 :: t9 :: t10 :: t11 :: t12 :: t13 :: t14 :: t15 :: t16 :: t17 :: t18 :: t19 :: t20 :: t21 :: t22 :: t23 :: v9 :: v9 :: uu :: t27 :: t28 :: t29 :: t30 :: t31 :: t32 :: t33 :: t34 :: t35 :: t36 :: t37 :: t38 :: t39 :: t40 :: t41 :: t42 :: t43 :: t44 :: t45 :: t46 :: t47 :: t48 :: t49 :: t50 :: t51 :: t52 :: t53 :: t54 :: t55 :: t56 :: t57 :: t58 :: t59 :: t60 :: t61 :: t62 :: t63 :: t64 :: t65 :: t66 :: t67 :: t68 :: t69 :: t70 :: t71 :: t72 :: t73 :: t74 :: t75 :: []), h10⟩) :=
  (go_op0 rfl rfl (st_bm (by kernel_rfl) fun v9 h10 =>
  (go_op0 rfl rfl (st_id (v := v9) (H := h10) (by kernel_rfl)
  (go_gdF0 rfl rfl rfl (by kernel_rfl)
  (go_skip0 rfl rfl rfl (by kernel_rfl)
  (go_skip0 rfl rfl rfl (by kernel_rfl)
  (by kernel_rfl)))
  (st_id (v := t1) (H := h10) (by kernel_rfl)
  (go_run0 rfl rfl rfl (by kernel_rfl) (st_bp (by kernel_rfl) fun v11 h12 =>
  (go_run0 rfl rfl rfl (by kernel_rfl) (st_bm (by kernel_rfl) fun v13 h14 =>
  (by kernel_rfl))))))
  (by kernel_rfl))))))
theorem xm17_1 (s : Sys) (k wl : Nat) (m0 : Nat) (ac : List Nat × List Nat) (t0 t1 t2 t3 t4 t5 t6 t7 t8 t9 t10 t11 t12 t13 t14 t15 t16 t17 t18 t19 t20 t21 t22 t23 t24 t25 t26 t27 t28 t29 t30 t31 t32 t33 t34 t35 t36 t37 t38 t39 t40 t41 t42 t43 t44 t45 t46 t47 t48 t49 t50 t51 t52 t53 t54 t55 t56 t57 t58 t59 t60 t61 t62 t63 t64 t65 t66 t67 t68 t69 t70 t71 t72 t73 t74 t75 : V) (h : Hp) : opsP (xX s 17 wl k false) xg17_0 10 m0 ac (runK (xX s 17 wl k false) (bodyK s.P Try.f17) xk17_0) ⟨(t0 :: t1 :: t2 :: t3 :: t4 :: t5 :: t6 :: t7 :: t8 :: t9 :: t10 :: t11 :: t12 :: t13 :: t14 :: t15 :: t16 :: t17 :: t18 :: t19 :: t20 :: t21 :: t22 :: t23 :: t24 :: t25 :: t26 :: t27 :: t28 :: t29 :: t30 :: t31 :: t32 :: t33 :: t34 :: t35 :: t36 :: t37 :: t38 :: t39 :: t40 :: t41 :: t42 :: t43 :: t44 :: t45 :: t46 :: t47 :: t48 :: t49 :: t50 :: t51 :: t52 :: t53 :: t54 :: t55 :: t56 :: t57 :: t58 :: t59 :: t60 :: t61 :: t62 :: t63 :: t64 :: t65 :: t66 :: t67 :: t68 :: t69 :: t70 :: t71 :: t72 :: t73 :: t74 :: t75 :: []), h⟩ =
  bm (vPick t25 (V.lit (Value.bool true)) t28) h fun v15 h16 =>
  gd v15 (
  opsP (xX s 17 wl k false) xg17_0 14 m0 ac (runK (xX s 17 wl k false) (bodyK s.P Try.f17) xk17_0) ⟨(t0 :: t1 :: t2 :: t3 :: t4 :: t5 :: t6 :: t7 :: t8 :: t9 :: t10 :: t11 :: t12 :: t13 :: t14 :: t15 :: t16 :: t17 :: t18 :: t19 :: t20 :: t21 :: t22 :: t23 :: t24 :: t25 :: t26 :: t27 :: t28 :: v15 :: (V.lit (Value.bool true)) :: uu :: uu :: t33 :: t34 :: t35 :: t36 :: t37 :: t38 :: t39 :: t40 :: t41 :: t42 :: t43 :: t44 :: t45 :: t46 :: t47 :: t48 :: t49 :: t50 :: t51 :: t52 :: t53 :: t54 :: t55 :: t56 :: t57 :: t58 :: t59 :: t60 :: t61 :: t62 :: t63 :: t64 :: t65 :: t66 :: t67 :: t68 :: t69 :: t70 :: t71 :: t72 :: t73 :: t74 :: t75 :: []), h16⟩) (
  bm (vBin s.P .lss 3 t2 (V.lit (Value.int .i64 0))) h16 fun v17 h18 =>
  opsP (xX s 17 wl k false) xg17_0 14 m0 ac (runK (xX s 17 wl k false) (bodyK s.P Try.f17) xk17_0) ⟨(t0 :: t1 :: t2 :: t3 :: t4 :: t5 :: t6 :: t7 :: t8 :: t9 :: t10 :: t11 :: t12 :: t13 :: t14 :: t15 :: t16 :: t17 :: t18 :: t19 :: t20 :: t21 :: t22 :: t23 :: t24 :: t25 :: t26 :: t27 :: t28 :: v15 :: (V.lit (Value.bool false)) :: t2 :: v17 :: t33 :: t34 :: t35 :: t36 :: t37 :: t38 :: t39 :: t40 :: t41 :: t42 :: t43 :: t44 :: t45 :: t46 :: t47 :: t48 :: t49 :: t50 :: t51 :: t52 :: t53 :: t54 :: t55 :: t56 :: t57 :: t58 :: t59 :: t60 :: t61 :: t62 :: t63 :: t64 :: t65 :: t66 :: t67 :: t68 :: t69 :: t70 :: t71 :: t72 :: t73 :: t74 :: t75 :: []), h18⟩) (
  opsP (xX s 17 wl k false) xg17_0 13 m0 ac (runK (xX s 17 wl k false) (bodyK s.P Try.f17) xk17_0) ⟨(t0 :: t1 :: t2 :: t3 :: t4 :: t5 :: t6 :: t7 :: t8 :: t9 :: t10 :: t11 :: t12 :: t13 :: t14 :: t15 :: t16 :: t17 :: t18 :: t19 :: t20 :: t21 :: t22 :: t23 :: t24 :: t25 :: t26 :: t27 :: t28 :: v15 :: v15 :: uu :: t32 :: t33 :: t34 :: t35 :: t36 :: t37 :: t38 :: t39 :: t40 :: t41 :: t42 :: t43 :: t44 :: t45 :: t46 :: t47 :: t48 :: t49 :: t50 :: t51 :: t52 :: t53 :: t54 :: t55 :: t56 :: t57 :: t58 :: t59 :: t60 :: t61 :: t62 :: t63 :: t64 :: t65 :: t66 :: t67 :: t68 :: t69 :: t70 :: t71 :: t72 :: t73 :: t74 :: t75 :: []), h16⟩) :=
  (go_op0 rfl rfl (st_bm (by kernel_rfl) fun v15 h16 =>
  (go_op0 rfl rfl (st_id (v := v15) (H := h16) (by kernel_rfl)
  (go_gdF0 rfl rfl rfl (by kernel_rfl)
  (go_skip0 rfl rfl rfl (by kernel_rfl)
  (by kernel_rfl))
  (st_id (v := t2) (H := h16) (by kernel_rfl)
  (go_run0 rfl rfl rfl (by kernel_rfl) (st_bm (by kernel_rfl) fun v17 h18 =>
  (by kernel_rfl))))
  (by kernel_rfl))))))
theorem xm17_2 (s : Sys) (k wl : Nat) (m0 : Nat) (ac : List Nat × List Nat) (t0 t1 t2 t3 t4 t5 t6 t7 t8 t9 t10 t11 t12 t13 t14 t15 t16 t17 t18 t19 t20 t21 t22 t23 t24 t25 t26 t27 t28 t29 t30 t31 t32 t33 t34 t35 t36 t37 t38 t39 t40 t41 t42 t43 t44 t45 t46 t47 t48 t49 t50 t51 t52 t53 t54 t55 t56 t57 t58 t59 t60 t61 t62 t63 t64 t65 t66 t67 t68 t69 t70 t71 t72 t73 t74 t75 : V) (h : Hp) : opsP (xX s 17 wl k false) xg17_0 14 m0 ac (runK (xX s 17 wl k false) (bodyK s.P Try.f17) xk17_0) ⟨(t0 :: t1 :: t2 :: t3 :: t4 :: t5 :: t6 :: t7 :: t8 :: t9 :: t10 :: t11 :: t12 :: t13 :: t14 :: t15 :: t16 :: t17 :: t18 :: t19 :: t20 :: t21 :: t22 :: t23 :: t24 :: t25 :: t26 :: t27 :: t28 :: t29 :: t30 :: t31 :: t32 :: t33 :: t34 :: t35 :: t36 :: t37 :: t38 :: t39 :: t40 :: t41 :: t42 :: t43 :: t44 :: t45 :: t46 :: t47 :: t48 :: t49 :: t50 :: t51 :: t52 :: t53 :: t54 :: t55 :: t56 :: t57 :: t58 :: t59 :: t60 :: t61 :: t62 :: t63 :: t64 :: t65 :: t66 :: t67 :: t68 :: t69 :: t70 :: t71 :: t72 :: t73 :: t74 :: t75 :: []), h⟩ =
  bm (vPick t30 (V.lit (Value.bool true)) t32) h fun v19 h20 =>
  gd v19 (
  opsP (xX s 17 wl k false) xg17_0 20 m0 ac (runK (xX s 17 wl k false) (bodyK s.P Try.f17) xk17_0) ⟨(t0 :: t1 :: t2 :: t3 :: t4 :: t5 :: t6 :: t7 :: t8 :: t9 :: t10 :: t11 :: t12 :: t13 :: t14 :: t15 :: t16 :: t17 :: t18 :: t19 :: t20 :: t21 :: t22 :: t23 :: t24 :: t25 :: t26 :: t27 :: t28 :: t29 :: t30 :: t31 :: t32 :: v19 :: (V.lit (Value.bool true)) :: uu :: uu :: uu :: uu :: t39 :: t40 :: t41 :: t42 :: t43 :: t44 :: t45 :: t46 :: t47 :: t48 :: t49 :: t50 :: t51 :: t52 :: t53 :: t54 :: t55 :: t56 :: t57 :: t58 :: t59 :: t60 :: t61 :: t62 :: t63 :: t64 :: t65 :: t66 :: t67 :: t68 :: t69 :: t70 :: t71 :: t72 :: t73 :: t74 :: t75 :: []), h20⟩) (
  bp (opLen s.P 51 t1 h20) fun v21 h22 =>
  bm (vBin s.P .gtr 3 t2 v21) h22 fun v23 h24 =>
  opsP (xX s 17 wl k false) xg17_0 20 m0 ac (runK (xX s 17 wl k false) (bodyK s.P Try.f17) xk17_0) ⟨(t0 :: t1 :: t2 :: t3 :: t4 :: t5 :: t6 :: t7 :: t8 :: t9 :: t10 :: t11 :: t12 :: t13 :: t14 :: t15 :: t16 :: t17 :: t18 :: t19 :: t20 :: t21 :: t22 :: t23 :: t24 :: t25 :: t26 :: t27 :: t28 :: t29 :: t30 :: t31 :: t32 :: v19 :: (V.lit (Value.bool false)) :: t2 :: t1 :: v21 :: v23 :: t39 :: t40 :: t41 :: t42 :: t43 :: t44 :: t45 :: t46 :: t47 :: t48 :: t49 :: t50 :: t51 :: t52 :: t53 :: t54 :: t55 :: t56 :: t57 :: t58 :: t59 :: t60 :: t61 :: t62 :: t63 :: t64 :: t65 :: t66 :: t67 :: t68 :: t69 :: t70 :: t71 :: t72 :: t73 :: t74 :: t75 :: []), h24⟩) (
  opsP (xX s 17 wl k false) xg17_0 17 m0 ac (runK (xX s 17 wl k false) (bodyK s.P Try.f17) xk17_0) ⟨(t0 :: t1 :: t2 :: t3 :: t4 :: t5 :: t6 :: t7 :: t8 :: t9 :: t10 :: t11 :: t12 :: t13 :: t14 :: t15 :: t16 :: t17 :: t18 :: t19 :: t20 :: t21 :: t22 :: t23 :: t24 :: t25 :: t26 :: t27 :: t28 :: t29 :: t30 :: t31 :: t32 :: v19 :: v19 :: uu :: t36 :: t37 :: t38 :: t39 :: t40 :: t41 :: t42 :: t43 :: t44 :: t45 :: t46 :: t47 :: t48 :: t49 :: t50 :: t51 :: t52 :: t53 :: t54 :: t55 :: t56 :: t57 :: t58 :: t59 :: t60 :: t61 :: t62 :: t63 :: t64 :: t65 :: t66 :: t67 :: t68 :: t69 :: t70 :: t71 :: t72 :: t73 :: t74 :: t75 :: []), h20⟩) :=
  (go_op0 rfl rfl (st_bm (by kernel_rfl) fun v19 h20 =>
  (go_op0 rfl rfl (st_id (v := v19) (H := h20) (by kernel_rfl)
  (go_gdF0 rfl rfl rfl (by kernel_rfl)
  (go_skip0 rfl rfl rfl (by kernel_rfl)
  (go_skip0 rfl rfl rfl (by kernel_rfl)
  (go_skip0 rfl rfl rfl (by kernel_rfl)
  (by kernel_rfl))))
  (st_id (v := t2) (H := h20) (by kernel_rfl)
  (go_run0 rfl rfl rfl (by kernel_rfl) (st_id (v := t1) (H := h20) (by kernel_rfl)
  (go_run0 rfl rfl rfl (by kernel_rfl) (st_bp (by kernel_rfl) fun v21 h22 =>
  (go_run0 rfl rfl rfl (by kernel_rfl) (st_bm (by kernel_rfl) fun v23 h24 =>
  (by kernel_rfl))))))))
  (by kernel_rfl))))))
theorem xm17_3 (s : Sys) (k wl : Nat) (m0 : Nat) (ac : List Nat × List Nat) (t0 t1 t2 t3 t4 t5 t6 t7 t8 t9 t10 t11 t12 t13 t14 t15 t16 t17 t18 t19 t20 t21 t22 t23 t24 t25 t26 t27 t28 t29 t30 t31 t32 t33 t34 t35 t36 t37 t38 t39 t40 t41 t42 t43 t44 t45 t46 t47 t48 t49 t50 t51 t52 t53 t54 t55 t56 t57 t58 t59 t60 t61 t62 t63 t64 t65 t66 t67 t68 t69 t70 t71 t72 t73 t74 t75 : V) (h : Hp) : opsP (xX s 17 wl k false) xg17_0 20 m0 ac (runK (xX s 17 wl k false) (bodyK s.P Try.f17) xk17_0) ⟨(t0 :: t1 :: t2 :: t3 :: t4 :: t5 :: t6 :: t7 :: t8 :: t9 :: t10 :: t11 :: t12 :: t13 :: t14 :: t15 :: t16 :: t17 :: t18 :: t19 :: t20 :: t21 :: t22 :: t23 :: t24 :: t25 :: t26 :: t27 :: t28 :: t29 :: t30 :: t31 :: t32 :: t33 :: t34 :: t35 :: t36 :: t37 :: t38 :: t39 :: t40 :: t41 :: t42 :: t43 :: t44 :: t45 :: t46 :: t47 :: t48 :: t49 :: t50 :: t51 :: t52 :: t53 :: t54 :: t55 :: t56 :: t57 :: t58 :: t59 :: t60 :: t61 :: t62 :: t63 :: t64 :: t65 :: t66 :: t67 :: t68 :: t69 :: t70 :: t71 :: t72 :: t73 :: t74 :: t75 :: []), h⟩ =
  bm (vPick t34 (V.lit (Value.bool true)) t38) h fun v25 h26 =>
  cnd v25 (
  some (t7, h26)) (
  bp (vSlice s.P wl false 51 t1 none (some t2) none h26) fun v27 h28 =>
  bp (callV (xX s 17 wl k false) false true (.fn (.func 46) [] []) [t0, v27] h28) fun v29 h30 =>
  bm (vExtract v29 0) h30 fun v31 h32 =>
  bm (vExtract v29 1) h32 fun v33 h34 =>
  bm (vExtract v29 2) h34 fun v35 h36 =>
  bp (callV (xX s 17 wl k false) false true (.fn (.func 46) [] []) [t0, t1] h36) fun v37 h38 =>
  bm (vExtract v37 0) h38 fun v39 h40 =>
  bm (vExtract v37 1) h40 fun v41 h42 =>
  bm (vExtract v37 2) h42 fun v43 h44 =>
  bp (opLen s.P 53 v41 h44) fun v45 h46 =>
  bp (opLen s.P 53 v33 h46) fun v47 h48 =>
  bm (vBin s.P .lss 3 v45 v47) h48 fun v49 h50 =>
  gd v49 (
  opsP (xX s 17 wl k false) xg17_1 11 h44.length ([], []) (runK (xX s 17 wl k false) (bodyK s.P Try.f17) xk17_1) ⟨(t0 :: t1 :: t2 :: t3 :: t4 :: t5 :: t6 :: t7 :: t8 :: v31 :: v33 :: v35 :: v39 :: v41 :: v43 :: t15 :: t16 :: t17 :: t18 :: t19 :: t20 :: t21 :: t22 :: t23 :: t24 :: t25 :: t26 :: t27 :: t28 :: t29 :: t30 :: t31 :: t32 :: t33 :: t34 :: t35 :: t36 :: t37 :: t38 :: v25 :: t40 :: v29 :: t0 :: t1 :: t2 :: v27 :: v29 :: v31 :: v33 :: v35 :: v37 :: t0 :: t1 :: v37 :: v39 :: v41 :: v43 :: v41 :: v45 :: v33 :: v47 :: v49 :: (V.lit (Value.bool true)) :: uu :: uu :: uu :: uu :: uu :: t68 :: t69 :: t70 :: t71 :: t72 :: t73 :: t74 :: t75 :: []), h50⟩) (
  bp (opLen s.P 53 v35 h50) fun v51 h52 =>
  bp (opLen s.P 53 v43 h52) fun v53 h54 =>
  bm (vBin s.P .neq 3 v51 v53) h54 fun v55 h56 =>
  opsP (xX s 17 wl k false) xg17_1 11 h44.length ([], []) (runK (xX s 17 wl k false) (bodyK s.P Try.f17) xk17_1) ⟨(t0 :: t1 :: t2 :: t3 :: t4 :: t5 :: t6 :: t7 :: t8 :: v31 :: v33 :: v35 :: v39 :: v41 :: v43 :: t15 :: t16 :: t17 :: t18 :: t19 :: t20 :: t21 :: t22 :: t23 :: t24 :: t25 :: t26 :: t27 :: t28 :: t29 :: t30 :: t31 :: t32 :: t33 :: t34 :: t35 :: t36 :: t37 :: t38 :: v25 :: t40 :: v29 :: t0 :: t1 :: t2 :: v27 :: v29 :: v31 :: v33 :: v35 :: v37 :: t0 :: t1 :: v37 :: v39 :: v41 :: v43 :: v41 :: v45 :: v33 :: v47 :: v49 :: (V.lit (Value.bool false)) :: v35 :: v51 :: v43 :: v53 :: v55 :: t68 :: t69 :: t70 :: t71 :: t72 :: t73 :: t74 :: t75 :: []), h56⟩) (
  opsP (xX s 17 wl k false) xg17_1 7 h44.length ([], []) (runK (xX s 17 wl k false) (bodyK s.P Try.f17) xk17_1) ⟨(t0 :: t1 :: t2 :: t3 :: t4 :: t5 :: t6 :: t7 :: t8 :: v31 :: v33 :: v35 :: v39 :: v41 :: v43 :: t15 :: t16 :: t17 :: t18 :: t19 :: t20 :: t21 :: t22 :: t23 :: t24 :: t25 :: t26 :: t27 :: t28 :: t29 :: t30 :: t31 :: t32 :: t33 :: t34 :: t35 :: t36 :: t37 :: t38 :: v25 :: t40 :: v29 :: t0 :: t1 :: t2 :: v27 :: v29 :: v31 :: v33 :: v35 :: v37 :: t0 :: t1 :: v37 :: v39 :: v41 :: v43 :: v41 :: v45 :: v33 :: v47 :: v49 :: v49 :: uu :: t64 :: t65 :: t66 :: t67 :: t68 :: t69 :: t70 :: t71 :: t72 :: t73 :: t74 :: t75 :: []), h50⟩)) :=
  (go_op0 rfl rfl (st_bm (by kernel_rfl) fun v25 h26 =>
  (go_end0 (by kernel_rfl)
  (go_cond (by kernel_rfl)
  (go_seq (go_reg0
  (go_op0 rfl rfl (st_id (v := t7) (H := h26) (by kernel_rfl)
  (go_op0 rfl rfl (st_id (v := t7) (H := h26) (by kernel_rfl)
  (go_end0 (by kernel_rfl)
  (go_ret (rt_seq_ret (by kernel_rfl))))))))))
  (go_skip (go_seq (go_reg0
  (go_op0 rfl rfl (st_id (v := t0) (H := h26) (by kernel_rfl)
  (go_op0 rfl rfl (st_id (v := t1) (H := h26) (by kernel_rfl)
  (go_op0 rfl rfl (st_id (v := t2) (H := h26) (by kernel_rfl)
  (go_op0 rfl rfl (st_bp (by kernel_rfl) fun v27 h28 =>
  (go_op0 rfl rfl (st_bp (by kernel_rfl) fun v29 h30 =>
  (go_op0 rfl rfl (st_id (v := v29) (H := h30) (by kernel_rfl)
  (go_op0 rfl rfl (st_bm (by kernel_rfl) fun v31 h32 =>
  (go_op0 rfl rfl (st_bm (by kernel_rfl) fun v33 h34 =>
  (go_op0 rfl rfl (st_bm (by kernel_rfl) fun v35 h36 =>
  (go_op0 rfl rfl (st_id (v := v31) (H := h36) (by kernel_rfl)
  (go_op0 rfl rfl (st_id (v := v33) (H := h36) (by kernel_rfl)
  (go_op0 rfl rfl (st_id (v := v35) (H := h36) (by kernel_rfl)
  (go_end0 (by kernel_rfl)
  (go_seq (go_reg0
  (go_op0 rfl rfl (st_id (v := t0) (H := h36) (by kernel_rfl)
  (go_op0 rfl rfl (st_id (v := t1) (H := h36) (by kernel_rfl)
  (go_op0 rfl rfl (st_bp (by kernel_rfl) fun v37 h38 =>
  (go_op0 rfl rfl (st_id (v := v37) (H := h38) (by kernel_rfl)
  (go_op0 rfl rfl (st_bm (by kernel_rfl) fun v39 h40 =>
  (go_op0 rfl rfl (st_bm (by kernel_rfl) fun v41 h42 =>
  (go_op0 rfl rfl (st_bm (by kernel_rfl) fun v43 h44 =>
  (go_op0 rfl rfl (st_id (v := v39) (H := h44) (by kernel_rfl)
  (go_op0 rfl rfl (st_id (v := v41) (H := h44) (by kernel_rfl)
  (go_op0 rfl rfl (st_id (v := v43) (H := h44) (by kernel_rfl)
  (go_end0 (by kernel_rfl)
  (go_seq (go_seq (go_reg0
  (go_op0 rfl rfl (st_id (v := v41) (H := h44) (by kernel_rfl)
  (go_op0 rfl rfl (st_bp (by kernel_rfl) fun v45 h46 =>
  (go_op0 rfl rfl (st_id (v := v33) (H := h46) (by kernel_rfl)
  (go_op0 rfl rfl (st_bp (by kernel_rfl) fun v47 h48 =>
  (go_op0 rfl rfl (st_bm (by kernel_rfl) fun v49 h50 =>
  (go_op0 rfl rfl (st_id (v := v49) (H := h50) (by kernel_rfl)
  (go_gdF0 rfl rfl rfl (by kernel_rfl)
  (go_skip0 rfl rfl rfl (by kernel_rfl)
  (go_skip0 rfl rfl rfl (by kernel_rfl)
  (go_skip0 rfl rfl rfl (by kernel_rfl)
  (go_skip0 rfl rfl rfl (by kernel_rfl)
  (by kernel_rfl)))))
  (st_id (v := v35) (H := h50) (by kernel_rfl)
  (go_run0 rfl rfl rfl (by kernel_rfl) (st_bp (by kernel_rfl) fun v51 h52 =>
  (go_run0 rfl rfl rfl (by kernel_rfl) (st_id (v := v43) (H := h52) (by kernel_rfl)
  (go_run0 rfl rfl rfl (by kernel_rfl) (st_bp (by kernel_rfl) fun v53 h54 =>
  (go_run0 rfl rfl rfl (by kernel_rfl) (st_bm (by kernel_rfl) fun v55 h56 =>
  (by kernel_rfl))))))))))
  (by kernel_rfl))))))))))))))))))))))))))))))))))))))))))))))))))))))))))))))))))))))))
theorem xm17_4 (s : Sys) (k wl : Nat) (m0 : Nat) (ac : List Nat × List Nat) (t0 t1 t2 t3 t4 t5 t6 t7 t8 t9 t10 t11 t12 t13 t14 t15 t16 t17 t18 t19 t20 t21 t22 t23 t24 t25 t26 t27 t28 t29 t30 t31 t32 t33 t34 t35 t36 t37 t38 t39 t40 t41 t42 t43 t44 t45 t46 t47 t48 t49 t50 t51 t52 t53 t54 t55 t56 t57 t58 t59 t60 t61 t62 t63 t64 t65 t66 t67 t68 t69 t70 t71 t72 t73 t74 t75 : V) (h : Hp) : opsP (xX s 17 wl k false) xg17_1 11 m0 ac (runK (xX s 17 wl k false) (bodyK s.P Try.f17) xk17_1) ⟨(t0 :: t1 :: t2 :: t3 :: t4 :: t5 :: t6 :: t7 :: t8 :: t9 :: t10 :: t11 :: t12 :: t13 :: t14 :: t15 :: t16 :: t17 :: t18 :: t19 :: t20 :: t21 :: t22 :: t23 :: t24 :: t25 :: t26 :: t27 :: t28 :: t29 :: t30 :: t31 :: t32 :: t33 :: t34 :: t35 :: t36 :: t37 :: t38 :: t39 :: t40 :: t41 :: t42 :: t43 :: t44 :: t45 :: t46 :: t47 :: t48 :: t49 :: t50 :: t51 :: t52 :: t53 :: t54 :: t55 :: t56 :: t57 :: t58 :: t59 :: t60 :: t61 :: t62 :: t63 :: t64 :: t65 :: t66 :: t67 :: t68 :: t69 :: t70 :: t71 :: t72 :: t73 :: t74 :: t75 :: []), h⟩ =
  bm (vPick t62 (V.lit (Value.bool true)) t67) h fun v57 h58 =>
  cnd v57 (
  some ((V.lit (Value.bool false)), h58)) (
  bp (opLen s.P 53 t10 h58) fun v59 h60 =>
  bp (vSlice s.P wl false 53 t13 none (some v59) none h60) fun v61 h62 =>
  bp (callV (xX s 17 wl k false) false true (.fn (.func 48) [] []) [t10, v61] h62) fun v63 h64 =>
  some (v63, h64)) :=
  (go_op0 rfl rfl (st_bm (by kernel_rfl) fun v57 h58 =>
  (go_end0 (by kernel_rfl)
  (go_cond (by kernel_rfl)
  (go_seq (go_reg0
  (go_op0 rfl rfl (st_id (v := (V.lit (Value.bool false))) (H := h58) (by kernel_rfl)
  (go_end0 (by kernel_rfl)
  (go_ret (rt_seq_ret (by kernel_rfl))))))))
  (go_skip (go_seq (go_reg0
  (go_op0 rfl rfl (st_id (v := t10) (H := h58) (by kernel_rfl)
  (go_op0 rfl rfl (st_id (v := t13) (H := h58) (by kernel_rfl)
  (go_op0 rfl rfl (st_id (v := t10) (H := h58) (by kernel_rfl)
  (go_op0 rfl rfl (st_bp (by kernel_rfl) fun v59 h60 =>
  (go_op0 rfl rfl (st_bp (by kernel_rfl) fun v61 h62 =>
  (go_op0 rfl rfl (st_bp (by kernel_rfl) fun v63 h64 =>
  (go_op0 rfl rfl (st_id (v := v63) (H := h64) (by kernel_rfl)
  (go_end0 (by kernel_rfl)
  (go_seq (go_reg0
  (go_op0 rfl rfl (st_id (v := v63) (H := h64) (by kernel_rfl)
  (go_op0 rfl rfl (st_id (v := v63) (H := h64) (by kernel_rfl)
  (go_end0 (by kernel_rfl)
  (go_ret (by kernel_rfl)))))))))))))))))))))))))))))))
theorem xk17_0_ret (cx : Cx) (K : Out → St → Option (V × Hp)) (s : St) : runK cx K xk17_0 .ret s = K .ret s := by kernel_rfl
theorem xk17_1_ret (cx : Cx) (K : Out → St → Option (V × Hp)) (s : St) : runK cx K xk17_1 .ret s = K .ret s := by kernel_rfl
-- names: xb17, xm17_0, xm17_1, xm17_2, xm17_3, xm17_4, xk17_0_ret, xk17_1_ret
end Go.Ab
