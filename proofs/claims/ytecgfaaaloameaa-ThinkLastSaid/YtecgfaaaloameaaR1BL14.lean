/- The program's code, point by point: printed by gen.py. -/
import Derived.Test.YtecgfaaaloameaaR1Seat
set_option maxRecDepth 100000
set_option linter.unusedVariables false
namespace Go.Ab
open Go.Proofs
/-! 14 poacher/poacherlaw17.ThinkLast: 0 t, 1 s, 2 t, 3 s, 5 up, 6 few, 7 own, 8 x, 9 y -/
noncomputable def xg14_0 : Code := codeAt (bodyOf Try.f14) [1, 1, 1, 0, 0]
noncomputable def xk14_0 : List Fr := [.seq (codeAt (bodyOf Try.f14) [1, 1, 1, 0, 1]), .seq (codeAt (bodyOf Try.f14) [1, 1, 1, 1])]
noncomputable def xg14_1 : Code := codeAt (bodyOf Try.f14) [1, 1, 1, 1, 1, 1, 1, 1, 0]
noncomputable def xk14_1 : List Fr := [.seq (codeAt (bodyOf Try.f14) [1, 1, 1, 1, 1, 1, 1, 1, 1])]
theorem xo14_10 : orderIx (opsOf xg14_1) = [0, 1, 2, 3, 4, 5, 6, 7, 8, 9, 10, 11, 12, 13, 14, 15, 16, 17, 18, 19, 20, 21, 22, 23, 24, 25, 26, 27, 28, 29] := by kernel_rfl
theorem xo14_10a : (rgOf (opsOf xg14_1)).any = false := by kernel_rfl
theorem xo14_10r : regOk (opsOf xg14_1) = true := by kernel_rfl
theorem xb14 (s : Sys) (k wl : Nat) (t0 t1 : V) (h : Hp) : bodyV (xX s 14 wl k false) Try.f14 [t0, t1] h =
  bp (callV (xX s 14 wl k false) false true (.fn (.func 37) [] []) [] h) fun v1 h2 =>
  bp (callV (xX s 14 wl k false) false true (.fn (.func 24) [] []) [t0] h2) fun v3 h4 =>
  bm (vUn .not v1) h4 fun v5 h6 =>
  gd v5 (
  opsP (xX s 14 wl k false) xg14_0 5 h4.length ([], []) (runK (xX s 14 wl k false) (bodyK s.P Try.f14) xk14_0) ⟨(t0 :: t1 :: uu :: uu :: (V.lit (Value.bool false)) :: v1 :: v3 :: uu :: uu :: uu :: v1 :: t0 :: v3 :: v1 :: v5 :: (V.lit (Value.bool true)) :: uu :: uu :: uu :: uu :: uu :: uu :: uu :: uu :: uu :: uu :: uu :: uu :: uu :: uu :: uu :: uu :: uu :: uu :: uu :: uu :: uu :: uu :: uu :: uu :: uu :: uu :: uu :: uu :: uu :: uu :: uu :: uu :: uu :: uu :: uu :: uu :: uu :: uu :: uu :: uu :: uu :: uu :: uu :: uu :: uu :: uu :: uu :: uu :: uu :: uu :: uu :: uu :: uu :: uu :: uu :: uu :: uu :: uu :: uu :: uu :: uu :: uu :: uu :: uu :: uu :: uu :: []), h6⟩) (
  bm (vUn .not v3) h6 fun v7 h8 =>
  opsP (xX s 14 wl k false) xg14_0 5 h4.length ([], []) (runK (xX s 14 wl k false) (bodyK s.P Try.f14) xk14_0) ⟨(t0 :: t1 :: uu :: uu :: (V.lit (Value.bool false)) :: v1 :: v3 :: uu :: uu :: uu :: v1 :: t0 :: v3 :: v1 :: v5 :: (V.lit (Value.bool false)) :: v3 :: v7 :: uu :: uu :: uu :: uu :: uu :: uu :: uu :: uu :: uu :: uu :: uu :: uu :: uu :: uu :: uu :: uu :: uu :: uu :: uu :: uu :: uu :: uu :: uu :: uu :: uu :: uu :: uu :: uu :: uu :: uu :: uu :: uu :: uu :: uu :: uu :: uu :: uu :: uu :: uu :: uu :: uu :: uu :: uu :: uu :: uu :: uu :: uu :: uu :: uu :: uu :: uu :: uu :: uu :: uu :: uu :: uu :: uu :: uu :: uu :: uu :: uu :: uu :: uu :: uu :: []), h8⟩) (
  opsP (xX s 14 wl k false) xg14_0 4 h4.length ([], []) (runK (xX s 14 wl k false) (bodyK s.P Try.f14) xk14_0) ⟨(t0 :: t1 :: uu :: uu :: (V.lit (Value.bool false)) :: v1 :: v3 :: uu :: uu :: uu :: v1 :: t0 :: v3 :: v1 :: v5 :: v5 :: uu :: uu :: uu :: uu :: uu :: uu :: uu :: uu :: uu :: uu :: uu :: uu :: uu :: uu :: uu :: uu :: uu :: uu :: uu :: uu :: uu :: uu :: uu :: uu :: uu :: uu :: uu :: uu :: uu :: uu :: uu :: uu :: uu :: uu :: uu :: uu :: uu :: uu :: uu :: uu :: uu :: uu :: uu :: uu :: uu :: uu :: uu :: uu :: uu :: uu :: uu :: uu :: uu :: uu :: uu :: uu :: uu :: uu :: uu :: uu :: uu :: uu :: uu :: uu :: uu :: uu :: []), h6⟩) :=
  bodyV_run rfl (go_seq (go_reg0
  (go_op0 rfl rfl (st_id (v := (V.lit (Value.bool false))) (H := h) (by kernel_rfl)
  (go_end0 (by kernel_rfl)
  (go_seq (go_reg0
  (go_op0 rfl rfl (st_bp (by kernel_rfl) fun v1 h2 =>
  (go_op0 rfl rfl (st_id (v := v1) (H := h2) (by kernel_rfl)
  (go_end0 (by kernel_rfl)
  (go_seq (go_reg0
  (go_op0 rfl rfl (st_id (v := t0) (H := h2) (by kernel_rfl)
  (go_op0 rfl rfl (st_bp (by kernel_rfl) fun v3 h4 =>
  (go_op0 rfl rfl (st_id (v := v3) (H := h4) (by kernel_rfl)
  (go_end0 (by kernel_rfl)
  (go_seq (go_seq (go_reg0
  (go_op0 rfl rfl (st_id (v := v1) (H := h4) (by kernel_rfl)
  (go_op0 rfl rfl (st_bm (by kernel_rfl) fun v5 h6 =>
  (go_op0 rfl rfl (st_id (v := v5) (H := h6) (by kernel_rfl)
  (go_gdF0 rfl rfl rfl (by kernel_rfl)
  (go_skip0 rfl rfl rfl (by kernel_rfl)
  (by kernel_rfl))
  (st_id (v := v3) (H := h6) (by kernel_rfl)
  (go_run0 rfl rfl rfl (by kernel_rfl) (st_bm (by kernel_rfl) fun v7 h8 =>
  (by kernel_rfl))))
  (by kernel_rfl))))))))))))))))))))))))))))))))
theorem xe14 (k wl : Nat) (t0 t1 : V) (h : Hp) : evF Try.prog xM (k + 1) wl 14 [t0, t1] h = bodyV (xX (xS k) 14 wl k false) Try.f14 [t0, t1] h := by kernel_rfl
theorem xm14_0 (s : Sys) (k wl : Nat) (m0 : Nat) (ac : List Nat × List Nat) (t0 t1 t2 t3 t4 t5 t6 t7 t8 t9 t10 t11 t12 t13 t14 t15 t16 t17 t18 t19 t20 t21 t22 t23 t24 t25 t26 t27 t28 t29 t30 t31 t32 t33 t34 t35 t36 t37 t38 t39 t40 t41 t42 t43 t44 t45 t46 t47 t48 t49 t50 t51 t52 t53 t54 t55 t56 t57 t58 t59 t60 t61 t62 t63 t64 t65 t66 t67 t68 t69 t70 t71 t72 t73 t74 t75 t76 t77 t78 t79 t80 t81 : V) (h : Hp) : opsP (xX s 14 wl k false) xg14_0 5 m0 ac (runK (xX s 14 wl k false) (bodyK s.P Try.f14) xk14_0) ⟨(t0 :: t1 :: t2 :: t3 :: t4 :: t5 :: t6 :: t7 :: t8 :: t9 :: t10 :: t11 :: t12 :: t13 :: t14 :: t15 :: t16 :: t17 :: t18 :: t19 :: t20 :: t21 :: t22 :: t23 :: t24 :: t25 :: t26 :: t27 :: t28 :: t29 :: t30 :: t31 :: t32 :: t33 :: t34 :: t35 :: t36 :: t37 :: t38 :: t39 :: t40 :: t41 :: t42 :: t43 :: t44 :: t45 :: t46 :: t47 :: t48 :: t49 :: t50 :: t51 :: t52 :: t53 :: t54 :: t55 :: t56 :: t57 :: t58 :: t59 :: t60 :: t61 :: t62 :: t63 :: t64 :: t65 :: t66 :: t67 :: t68 :: t69 :: t70 :: t71 :: t72 :: t73 :: t74 :: t75 :: t76 :: t77 :: t78 :: t79 :: t80 :: t81 :: []), h⟩ =
  bm (vPick t15 (V.lit (Value.bool true)) t17) h fun v9 h10 =>
  gd v9 (
  opsP (xX s 14 wl k false) xg14_0 10 m0 ac (runK (xX s 14 wl k false) (bodyK s.P Try.f14) xk14_0) ⟨(t0 :: t1 :: t2 :: t3 :: t4 :: t5 :: t6 :: t7 :: t8 :: t9 :: t10 :: t11 :: t12 :: t13 :: t14 :: t15 :: t16 :: t17 :: v9 :: (V.lit (Value.bool true)) :: uu :: uu :: uu :: t23 :: t24 :: t25 :: t26 :: t27 :: t28 :: t29 :: t30 :: t31 :: t32 :: t33 :: t34 :: t35 :: t36 :: t37 :: t38 :: t39 :: t40 :: t41 :: t42 :: t43 :: t44 :: t45 :: t46 :: t47 :: t48 :: t49 :: t50 :: t51 :: t52 :: t53 :: t54 :: t55 :: t56 :: t57 :: t58 :: t59 :: t60 :: t61 :: t62 :: t63 :: t64 :: t65 :: t66 :: t67 :: t68 :: t69 :: t70 :: t71 :: t72 :: t73 :: t74 :: t75 :: t76 :: t77 :: t78 :: t79 :: t80 :: t81 :: []), h10⟩) (
  bp (opLen s.P 43 t1 h10) fun v11 h12 =>
  bm (vBin s.P .gtr 3 v11 (V.lit (Value.int .i64 40))) h12 fun v13 h14 =>
  opsP (xX s 14 wl k false) xg14_0 10 m0 ac (runK (xX s 14 wl k false) (bodyK s.P Try.f14) xk14_0) ⟨(t0 :: t1 :: t2 :: t3 :: t4 :: t5 :: t6 :: t7 :: t8 :: t9 :: t10 :: t11 :: t12 :: t13 :: t14 :: t15 :: t16 :: t17 :: v9 :: (V.lit (Value.bool false)) :: t1 :: v11 :: v13 :: t23 :: t24 :: t25 :: t26 :: t27 :: t28 :: t29 :: t30 :: t31 :: t32 :: t33 :: t34 :: t35 :: t36 :: t37 :: t38 :: t39 :: t40 :: t41 :: t42 :: t43 :: t44 :: t45 :: t46 :: t47 :: t48 :: t49 :: t50 :: t51 :: t52 :: t53 :: t54 :: t55 :: t56 :: t57 :: t58 :: t59 :: t60 :: t61 :: t62 :: t63 :: t64 :: t65 :: t66 :: t67 :: t68 :: t69 :: t70 :: t71 :: t72 :: t73 :: t74 :: t75 :: t76 :: t77 :: t78 :: t79 :: t80 :: t81 :: []), h14⟩) (
  opsP (xX s 14 wl k false) xg14_0 8 m0 ac (runK (xX s 14 wl k false) (bodyK s.P Try.f14) xk14_0) ⟨(t0 :: t1 :: t2 :: t3 :: t4 :: t5 :: t6 :: t7 :: t8 :: t9 :: t10 :: t11 :: t12 :: t13 :: t14 :: t15 :: t16 :: t17 :: v9 :: v9 :: uu :: t21 :: t22 :: t23 :: t24 :: t25 :: t26 :: t27 :: t28 :: t29 :: t30 :: t31 :: t32 :: t33 :: t34 :: t35 :: t36 :: t37 :: t38 :: t39 :: t40 :: t41 :: t42 :: t43 :: t44 :: t45 :: t46 :: t47 :: t48 :: t49 :: t50 :: t51 :: t52 :: t53 :: t54 :: t55 :: t56 :: t57 :: t58 :: t59 :: t60 :: t61 :: t62 :: t63 :: t64 :: t65 :: t66 :: t67 :: t68 :: t69 :: t70 :: t71 :: t72 :: t73 :: t74 :: t75 :: t76 :: t77 :: t78 :: t79 :: t80 :: t81 :: []), h10⟩) :=
  (go_op0 rfl rfl (st_bm (by kernel_rfl) fun v9 h10 =>
  (go_op0 rfl rfl (st_id (v := v9) (H := h10) (by kernel_rfl)
  (go_gdF0 rfl rfl rfl (by kernel_rfl)
  (go_skip0 rfl rfl rfl (by kernel_rfl)
  (go_skip0 rfl rfl rfl (by kernel_rfl)
  (by kernel_rfl)))
  (st_id (v := t1) (H := h10) (by kernel_rfl)
  (go_run0 rfl rfl rfl (by kernel_rfl) (st_bp (by kernel_rfl) fun v11 h12 =>
  (go_run0 rfl rfl rfl (by kernel_rfl) (st_bm (by kernel_rfl) fun v13 h14 =>
  (by kernel_rfl))))))
  (by kernel_rfl))))))
theorem xm14_1 (s : Sys) (k wl : Nat) (m0 : Nat) (ac : List Nat × List Nat) (t0 t1 t2 t3 t4 t5 t6 t7 t8 t9 t10 t11 t12 t13 t14 t15 t16 t17 t18 t19 t20 t21 t22 t23 t24 t25 t26 t27 t28 t29 t30 t31 t32 t33 t34 t35 t36 t37 t38 t39 t40 t41 t42 t43 t44 t45 t46 t47 t48 t49 t50 t51 t52 t53 t54 t55 t56 t57 t58 t59 t60 t61 t62 t63 t64 t65 t66 t67 t68 t69 t70 t71 t72 t73 t74 t75 t76 t77 t78 t79 t80 t81 : V) (h : Hp) : opsP (xX s 14 wl k false) xg14_0 10 m0 ac (runK (xX s 14 wl k false) (bodyK s.P Try.f14) xk14_0) ⟨(t0 :: t1 :: t2 :: t3 :: t4 :: t5 :: t6 :: t7 :: t8 :: t9 :: t10 :: t11 :: t12 :: t13 :: t14 :: t15 :: t16 :: t17 :: t18 :: t19 :: t20 :: t21 :: t22 :: t23 :: t24 :: t25 :: t26 :: t27 :: t28 :: t29 :: t30 :: t31 :: t32 :: t33 :: t34 :: t35 :: t36 :: t37 :: t38 :: t39 :: t40 :: t41 :: t42 :: t43 :: t44 :: t45 :: t46 :: t47 :: t48 :: t49 :: t50 :: t51 :: t52 :: t53 :: t54 :: t55 :: t56 :: t57 :: t58 :: t59 :: t60 :: t61 :: t62 :: t63 :: t64 :: t65 :: t66 :: t67 :: t68 :: t69 :: t70 :: t71 :: t72 :: t73 :: t74 :: t75 :: t76 :: t77 :: t78 :: t79 :: t80 :: t81 :: []), h⟩ =
  bm (vPick t19 (V.lit (Value.bool true)) t22) h fun v15 h16 =>
  gd v15 (
  opsP (xX s 14 wl k false) xg14_0 15 m0 ac (runK (xX s 14 wl k false) (bodyK s.P Try.f14) xk14_0) ⟨(t0 :: t1 :: t2 :: t3 :: t4 :: t5 :: t6 :: t7 :: t8 :: t9 :: t10 :: t11 :: t12 :: t13 :: t14 :: t15 :: t16 :: t17 :: t18 :: t19 :: t20 :: t21 :: t22 :: v15 :: (V.lit (Value.bool true)) :: uu :: uu :: uu :: t28 :: t29 :: t30 :: t31 :: t32 :: t33 :: t34 :: t35 :: t36 :: t37 :: t38 :: t39 :: t40 :: t41 :: t42 :: t43 :: t44 :: t45 :: t46 :: t47 :: t48 :: t49 :: t50 :: t51 :: t52 :: t53 :: t54 :: t55 :: t56 :: t57 :: t58 :: t59 :: t60 :: t61 :: t62 :: t63 :: t64 :: t65 :: t66 :: t67 :: t68 :: t69 :: t70 :: t71 :: t72 :: t73 :: t74 :: t75 :: t76 :: t77 :: t78 :: t79 :: t80 :: t81 :: []), h16⟩) (
  bp (opLen s.P 43 t1 h16) fun v17 h18 =>
  bm (vBin s.P .eql 3 v17 (V.lit (Value.int .i64 0))) h18 fun v19 h20 =>
  opsP (xX s 14 wl k false) xg14_0 15 m0 ac (runK (xX s 14 wl k false) (bodyK s.P Try.f14) xk14_0) ⟨(t0 :: t1 :: t2 :: t3 :: t4 :: t5 :: t6 :: t7 :: t8 :: t9 :: t10 :: t11 :: t12 :: t13 :: t14 :: t15 :: t16 :: t17 :: t18 :: t19 :: t20 :: t21 :: t22 :: v15 :: (V.lit (Value.bool false)) :: t1 :: v17 :: v19 :: t28 :: t29 :: t30 :: t31 :: t32 :: t33 :: t34 :: t35 :: t36 :: t37 :: t38 :: t39 :: t40 :: t41 :: t42 :: t43 :: t44 :: t45 :: t46 :: t47 :: t48 :: t49 :: t50 :: t51 :: t52 :: t53 :: t54 :: t55 :: t56 :: t57 :: t58 :: t59 :: t60 :: t61 :: t62 :: t63 :: t64 :: t65 :: t66 :: t67 :: t68 :: t69 :: t70 :: t71 :: t72 :: t73 :: t74 :: t75 :: t76 :: t77 :: t78 :: t79 :: t80 :: t81 :: []), h20⟩) (
  opsP (xX s 14 wl k false) xg14_0 13 m0 ac (runK (xX s 14 wl k false) (bodyK s.P Try.f14) xk14_0) ⟨(t0 :: t1 :: t2 :: t3 :: t4 :: t5 :: t6 :: t7 :: t8 :: t9 :: t10 :: t11 :: t12 :: t13 :: t14 :: t15 :: t16 :: t17 :: t18 :: t19 :: t20 :: t21 :: t22 :: v15 :: v15 :: uu :: t26 :: t27 :: t28 :: t29 :: t30 :: t31 :: t32 :: t33 :: t34 :: t35 :: t36 :: t37 :: t38 :: t39 :: t40 :: t41 :: t42 :: t43 :: t44 :: t45 :: t46 :: t47 :: t48 :: t49 :: t50 :: t51 :: t52 :: t53 :: t54 :: t55 :: t56 :: t57 :: t58 :: t59 :: t60 :: t61 :: t62 :: t63 :: t64 :: t65 :: t66 :: t67 :: t68 :: t69 :: t70 :: t71 :: t72 :: t73 :: t74 :: t75 :: t76 :: t77 :: t78 :: t79 :: t80 :: t81 :: []), h16⟩) :=
  (go_op0 rfl rfl (st_bm (by kernel_rfl) fun v15 h16 =>
  (go_op0 rfl rfl (st_id (v := v15) (H := h16) (by kernel_rfl)
  (go_gdF0 rfl rfl rfl (by kernel_rfl)
  (go_skip0 rfl rfl rfl (by kernel_rfl)
  (go_skip0 rfl rfl rfl (by kernel_rfl)
  (by kernel_rfl)))
  (st_id (v := t1) (H := h16) (by kernel_rfl)
  (go_run0 rfl rfl rfl (by kernel_rfl) (st_bp (by kernel_rfl) fun v17 h18 =>
  (go_run0 rfl rfl rfl (by kernel_rfl) (st_bm (by kernel_rfl) fun v19 h20 =>
  (by kernel_rfl))))))
  (by kernel_rfl))))))
theorem xm14_2 (s : Sys) (k wl : Nat) (m0 : Nat) (ac : List Nat × List Nat) (t0 t1 t2 t3 t4 t5 t6 t7 t8 t9 t10 t11 t12 t13 t14 t15 t16 t17 t18 t19 t20 t21 t22 t23 t24 t25 t26 t27 t28 t29 t30 t31 t32 t33 t34 t35 t36 t37 t38 t39 t40 t41 t42 t43 t44 t45 t46 t47 t48 t49 t50 t51 t52 t53 t54 t55 t56 t57 t58 t59 t60 t61 t62 t63 t64 t65 t66 t67 t68 t69 t70 t71 t72 t73 t74 t75 t76 t77 t78 t79 t80 t81 : V) (h : Hp) : opsP (xX s 14 wl k false) xg14_0 15 m0 ac (runK (xX s 14 wl k false) (bodyK s.P Try.f14) xk14_0) ⟨(t0 :: t1 :: t2 :: t3 :: t4 :: t5 :: t6 :: t7 :: t8 :: t9 :: t10 :: t11 :: t12 :: t13 :: t14 :: t15 :: t16 :: t17 :: t18 :: t19 :: t20 :: t21 :: t22 :: t23 :: t24 :: t25 :: t26 :: t27 :: t28 :: t29 :: t30 :: t31 :: t32 :: t33 :: t34 :: t35 :: t36 :: t37 :: t38 :: t39 :: t40 :: t41 :: t42 :: t43 :: t44 :: t45 :: t46 :: t47 :: t48 :: t49 :: t50 :: t51 :: t52 :: t53 :: t54 :: t55 :: t56 :: t57 :: t58 :: t59 :: t60 :: t61 :: t62 :: t63 :: t64 :: t65 :: t66 :: t67 :: t68 :: t69 :: t70 :: t71 :: t72 :: t73 :: t74 :: t75 :: t76 :: t77 :: t78 :: t79 :: t80 :: t81 :: []), h⟩ =
  bm (vPick t24 (V.lit (Value.bool true)) t27) h fun v21 h22 =>
  gd v21 (
  opsP (xX s 14 wl k false) xg14_0 21 m0 ac (runK (xX s 14 wl k false) (bodyK s.P Try.f14) xk14_0) ⟨(t0 :: t1 :: t2 :: t3 :: t4 :: t5 :: t6 :: t7 :: t8 :: t9 :: t10 :: t11 :: t12 :: t13 :: t14 :: t15 :: t16 :: t17 :: t18 :: t19 :: t20 :: t21 :: t22 :: t23 :: t24 :: t25 :: t26 :: t27 :: v21 :: (V.lit (Value.bool true)) :: uu :: uu :: uu :: uu :: t34 :: t35 :: t36 :: t37 :: t38 :: t39 :: t40 :: t41 :: t42 :: t43 :: t44 :: t45 :: t46 :: t47 :: t48 :: t49 :: t50 :: t51 :: t52 :: t53 :: t54 :: t55 :: t56 :: t57 :: t58 :: t59 :: t60 :: t61 :: t62 :: t63 :: t64 :: t65 :: t66 :: t67 :: t68 :: t69 :: t70 :: t71 :: t72 :: t73 :: t74 :: t75 :: t76 :: t77 :: t78 :: t79 :: t80 :: t81 :: []), h22⟩) (
  bp (callV (xX s 14 wl k false) false true (.fn (.func 48) [] []) [t0, t1] h22) fun v23 h24 =>
  bm (vUn .not v23) h24 fun v25 h26 =>
  opsP (xX s 14 wl k false) xg14_0 21 m0 ac (runK (xX s 14 wl k false) (bodyK s.P Try.f14) xk14_0) ⟨(t0 :: t1 :: t2 :: t3 :: t4 :: t5 :: t6 :: t7 :: t8 :: t9 :: t10 :: t11 :: t12 :: t13 :: t14 :: t15 :: t16 :: t17 :: t18 :: t19 :: t20 :: t21 :: t22 :: t23 :: t24 :: t25 :: t26 :: t27 :: v21 :: (V.lit (Value.bool false)) :: t0 :: t1 :: v23 :: v25 :: t34 :: t35 :: t36 :: t37 :: t38 :: t39 :: t40 :: t41 :: t42 :: t43 :: t44 :: t45 :: t46 :: t47 :: t48 :: t49 :: t50 :: t51 :: t52 :: t53 :: t54 :: t55 :: t56 :: t57 :: t58 :: t59 :: t60 :: t61 :: t62 :: t63 :: t64 :: t65 :: t66 :: t67 :: t68 :: t69 :: t70 :: t71 :: t72 :: t73 :: t74 :: t75 :: t76 :: t77 :: t78 :: t79 :: t80 :: t81 :: []), h26⟩) (
  opsP (xX s 14 wl k false) xg14_0 18 m0 ac (runK (xX s 14 wl k false) (bodyK s.P Try.f14) xk14_0) ⟨(t0 :: t1 :: t2 :: t3 :: t4 :: t5 :: t6 :: t7 :: t8 :: t9 :: t10 :: t11 :: t12 :: t13 :: t14 :: t15 :: t16 :: t17 :: t18 :: t19 :: t20 :: t21 :: t22 :: t23 :: t24 :: t25 :: t26 :: t27 :: v21 :: v21 :: uu :: t31 :: t32 :: t33 :: t34 :: t35 :: t36 :: t37 :: t38 :: t39 :: t40 :: t41 :: t42 :: t43 :: t44 :: t45 :: t46 :: t47 :: t48 :: t49 :: t50 :: t51 :: t52 :: t53 :: t54 :: t55 :: t56 :: t57 :: t58 :: t59 :: t60 :: t61 :: t62 :: t63 :: t64 :: t65 :: t66 :: t67 :: t68 :: t69 :: t70 :: t71 :: t72 :: t73 :: t74 :: t75 :: t76 :: t77 :: t78 :: t79 :: t80 :: t81 :: []), h22⟩) :=
  (go_op0 rfl rfl (st_bm (by kernel_rfl) fun v21 h22 =>
  (go_op0 rfl rfl (st_id (v := v21) (H := h22) (by kernel_rfl)
  (go_gdF0 rfl rfl rfl (by kernel_rfl)
  (go_skip0 rfl rfl rfl (by kernel_rfl)
  (go_skip0 rfl rfl rfl (by kernel_rfl)
  (go_skip0 rfl rfl rfl (by kernel_rfl)
  (by kernel_rfl))))
  (st_id (v := t0) (H := h22) (by kernel_rfl)
  (go_run0 rfl rfl rfl (by kernel_rfl) (st_id (v := t1) (H := h22) (by kernel_rfl)
  (go_run0 rfl rfl rfl (by kernel_rfl) (st_bp (by kernel_rfl) fun v23 h24 =>
  (go_run0 rfl rfl rfl (by kernel_rfl) (st_bm (by kernel_rfl) fun v25 h26 =>
  (by kernel_rfl))))))))
  (by kernel_rfl))))))
theorem xm14_3 (s : Sys) (k wl : Nat) (m0 : Nat) (ac : List Nat × List Nat) (t0 t1 t2 t3 t4 t5 t6 t7 t8 t9 t10 t11 t12 t13 t14 t15 t16 t17 t18 t19 t20 t21 t22 t23 t24 t25 t26 t27 t28 t29 t30 t31 t32 t33 t34 t35 t36 t37 t38 t39 t40 t41 t42 t43 t44 t45 t46 t47 t48 t49 t50 t51 t52 t53 t54 t55 t56 t57 t58 t59 t60 t61 t62 t63 t64 t65 t66 t67 t68 t69 t70 t71 t72 t73 t74 t75 t76 t77 t78 t79 t80 t81 : V) (h : Hp) : opsP (xX s 14 wl k false) xg14_0 21 m0 ac (runK (xX s 14 wl k false) (bodyK s.P Try.f14) xk14_0) ⟨(t0 :: t1 :: t2 :: t3 :: t4 :: t5 :: t6 :: t7 :: t8 :: t9 :: t10 :: t11 :: t12 :: t13 :: t14 :: t15 :: t16 :: t17 :: t18 :: t19 :: t20 :: t21 :: t22 :: t23 :: t24 :: t25 :: t26 :: t27 :: t28 :: t29 :: t30 :: t31 :: t32 :: t33 :: t34 :: t35 :: t36 :: t37 :: t38 :: t39 :: t40 :: t41 :: t42 :: t43 :: t44 :: t45 :: t46 :: t47 :: t48 :: t49 :: t50 :: t51 :: t52 :: t53 :: t54 :: t55 :: t56 :: t57 :: t58 :: t59 :: t60 :: t61 :: t62 :: t63 :: t64 :: t65 :: t66 :: t67 :: t68 :: t69 :: t70 :: t71 :: t72 :: t73 :: t74 :: t75 :: t76 :: t77 :: t78 :: t79 :: t80 :: t81 :: []), h⟩ =
  bm (vPick t29 (V.lit (Value.bool true)) t33) h fun v27 h28 =>
  cnd v27 (
  some (t5, h28)) (
  bp (opLen s.P 43 t1 h28) fun v29 h30 =>
  bm (vBin s.P .sub 3 v29 (V.lit (Value.int .i64 1))) h30 fun v31 h32 =>
  bp (vSlice s.P wl false 43 t1 (some v31) none none h32) fun v33 h34 =>
  bp (callV (xX s 14 wl k false) false true (.fn (.func 39) [] []) [t0, t1] h34) fun v35 h36 =>
  bp (callV (xX s 14 wl k false) false true (.fn (.func 39) [] []) [t0, v33] h36) fun v37 h38 =>
  bp (opLen s.P 43 v35 h38) fun v39 h40 =>
  bp (opLen s.P 43 t1 h40) fun v41 h42 =>
  bm (vBin s.P .sub 3 v41 (V.lit (Value.int .i64 1))) h42 fun v43 h44 =>
  bm (vBin s.P .lss 3 v39 v43) h44 fun v45 h46 =>
  cnd v45 (
  some ((V.lit (Value.bool false)), h46)) (
  bp (callV (xX s 14 wl k false) false true (.fn (.func 44) [] []) [t0, t1] h46) fun v47 h48 =>
  bp (callV (xX s 14 wl k false) false true (.fn (.func 44) [] []) [t0, v33] h48) fun v49 h50 =>
  bm (vBin s.P .eql 49 v47 v49) h50 fun v51 h52 =>
  gd v51 (
  bp (opLen s.P 43 t1 h52) fun v53 h54 =>
  bm (vBin s.P .sub 3 v53 (V.lit (Value.int .i64 1))) h54 fun v55 h56 =>
  bp (vSlice s.P wl true 43 v35 none (some v55) none h56) fun v57 h58 =>
  bp (opLen s.P 43 t1 h58) fun v59 h60 =>
  bm (vBin s.P .sub 3 v59 (V.lit (Value.int .i64 1))) h60 fun v61 h62 =>
  bp (vSlice s.P wl true 43 t1 none (some v61) none h62) fun v63 h64 =>
  bp (callV (xX s 14 wl k false) false true (.fn (.func 49) [] []) [v57, v63] h64) fun v65 h66 =>
  opsP (xX s 14 wl k false) xg14_1 19 h46.length ([], []) (runK (xX s 14 wl k false) (bodyK s.P Try.f14) xk14_1) ⟨(t0 :: t1 :: t2 :: t3 :: t4 :: t5 :: t6 :: v33 :: v35 :: v37 :: t10 :: t11 :: t12 :: t13 :: t14 :: t15 :: t16 :: t17 :: t18 :: t19 :: t20 :: t21 :: t22 :: t23 :: t24 :: t25 :: t26 :: t27 :: t28 :: t29 :: t30 :: t31 :: t32 :: t33 :: v27 :: t35 :: t1 :: t1 :: v29 :: v31 :: v33 :: t0 :: t1 :: v35 :: t0 :: v33 :: v37 :: v35 :: v39 :: t1 :: v41 :: v43 :: v45 :: t0 :: t1 :: v47 :: t0 :: v33 :: v49 :: v51 :: (V.lit (Value.bool true)) :: v35 :: t1 :: v53 :: v55 :: v57 :: t1 :: t1 :: v59 :: v61 :: v63 :: v65 :: t72 :: t73 :: t74 :: t75 :: t76 :: t77 :: t78 :: t79 :: t80 :: t81 :: []), h66⟩) (
  opsP (xX s 14 wl k false) xg14_1 19 h46.length ([], []) (runK (xX s 14 wl k false) (bodyK s.P Try.f14) xk14_1) ⟨(t0 :: t1 :: t2 :: t3 :: t4 :: t5 :: t6 :: v33 :: v35 :: v37 :: t10 :: t11 :: t12 :: t13 :: t14 :: t15 :: t16 :: t17 :: t18 :: t19 :: t20 :: t21 :: t22 :: t23 :: t24 :: t25 :: t26 :: t27 :: t28 :: t29 :: t30 :: t31 :: t32 :: t33 :: v27 :: t35 :: t1 :: t1 :: v29 :: v31 :: v33 :: t0 :: t1 :: v35 :: t0 :: v33 :: v37 :: v35 :: v39 :: t1 :: v41 :: v43 :: v45 :: t0 :: t1 :: v47 :: t0 :: v33 :: v49 :: v51 :: (V.lit (Value.bool false)) :: uu :: uu :: uu :: uu :: uu :: uu :: uu :: uu :: uu :: uu :: uu :: t72 :: t73 :: t74 :: t75 :: t76 :: t77 :: t78 :: t79 :: t80 :: t81 :: []), h52⟩) (
  opsP (xX s 14 wl k false) xg14_1 9 h46.length ([], []) (runK (xX s 14 wl k false) (bodyK s.P Try.f14) xk14_1) ⟨(t0 :: t1 :: t2 :: t3 :: t4 :: t5 :: t6 :: v33 :: v35 :: v37 :: t10 :: t11 :: t12 :: t13 :: t14 :: t15 :: t16 :: t17 :: t18 :: t19 :: t20 :: t21 :: t22 :: t23 :: t24 :: t25 :: t26 :: t27 :: t28 :: t29 :: t30 :: t31 :: t32 :: t33 :: v27 :: t35 :: t1 :: t1 :: v29 :: v31 :: v33 :: t0 :: t1 :: v35 :: t0 :: v33 :: v37 :: v35 :: v39 :: t1 :: v41 :: v43 :: v45 :: t0 :: t1 :: v47 :: t0 :: v33 :: v49 :: v51 :: v51 :: uu :: t62 :: t63 :: t64 :: t65 :: t66 :: t67 :: t68 :: t69 :: t70 :: t71 :: t72 :: t73 :: t74 :: t75 :: t76 :: t77 :: t78 :: t79 :: t80 :: t81 :: []), h52⟩))) :=
  (go_op0 rfl rfl (st_bm (by kernel_rfl) fun v27 h28 =>
  (go_end0 (by kernel_rfl)
  (go_cond (by kernel_rfl)
  (go_seq (go_reg0
  (go_op0 rfl rfl (st_id (v := t5) (H := h28) (by kernel_rfl)
  (go_op0 rfl rfl (st_id (v := t5) (H := h28) (by kernel_rfl)
  (go_end0 (by kernel_rfl)
  (go_ret (rt_seq_ret (by kernel_rfl))))))))))
  (go_skip (go_seq (go_reg0
  (go_op0 rfl rfl (st_id (v := t1) (H := h28) (by kernel_rfl)
  (go_op0 rfl rfl (st_id (v := t1) (H := h28) (by kernel_rfl)
  (go_op0 rfl rfl (st_bp (by kernel_rfl) fun v29 h30 =>
  (go_op0 rfl rfl (st_bm (by kernel_rfl) fun v31 h32 =>
  (go_op0 rfl rfl (st_bp (by kernel_rfl) fun v33 h34 =>
  (go_op0 rfl rfl (st_id (v := v33) (H := h34) (by kernel_rfl)
  (go_end0 (by kernel_rfl)
  (go_seq (go_reg0
  (go_op0 rfl rfl (st_id (v := t0) (H := h34) (by kernel_rfl)
  (go_op0 rfl rfl (st_id (v := t1) (H := h34) (by kernel_rfl)
  (go_op0 rfl rfl (st_bp (by kernel_rfl) fun v35 h36 =>
  (go_op0 rfl rfl (st_id (v := v35) (H := h36) (by kernel_rfl)
  (go_end0 (by kernel_rfl)
  (go_seq (go_reg0
  (go_op0 rfl rfl (st_id (v := t0) (H := h36) (by kernel_rfl)
  (go_op0 rfl rfl (st_id (v := v33) (H := h36) (by kernel_rfl)
  (go_op0 rfl rfl (st_bp (by kernel_rfl) fun v37 h38 =>
  (go_op0 rfl rfl (st_id (v := v37) (H := h38) (by kernel_rfl)
  (go_end0 (by kernel_rfl)
  (go_seq (go_seq (go_reg0
  (go_op0 rfl rfl (st_id (v := v35) (H := h38) (by kernel_rfl)
  (go_op0 rfl rfl (st_bp (by kernel_rfl) fun v39 h40 =>
  (go_op0 rfl rfl (st_id (v := t1) (H := h40) (by kernel_rfl)
  (go_op0 rfl rfl (st_bp (by kernel_rfl) fun v41 h42 =>
  (go_op0 rfl rfl (st_bm (by kernel_rfl) fun v43 h44 =>
  (go_op0 rfl rfl (st_bm (by kernel_rfl) fun v45 h46 =>
  (go_end0 (by kernel_rfl)
  (go_cond (by kernel_rfl)
  (go_seq (go_reg0
  (go_op0 rfl rfl (st_id (v := (V.lit (Value.bool false))) (H := h46) (by kernel_rfl)
  (go_end0 (by kernel_rfl)
  (go_ret (rt_seq_ret (by kernel_rfl))))))))
  (go_skip (go_seq (go_reg1 xo14_10r
  (go_op1 xo14_10 xo14_10a rfl rfl rfl (st_no (by kernel_rfl) (st_id (v := t0) (H := h46) (by kernel_rfl)
  (go_op1 xo14_10 xo14_10a rfl rfl rfl (st_no (by kernel_rfl) (st_id (v := t1) (H := h46) (by kernel_rfl)
  (go_op1 xo14_10 xo14_10a rfl rfl rfl (st_no (by kernel_rfl) (st_bp (by kernel_rfl) fun v47 h48 =>
  (go_op1 xo14_10 xo14_10a rfl rfl rfl (st_no (by kernel_rfl) (st_id (v := t0) (H := h48) (by kernel_rfl)
  (go_op1 xo14_10 xo14_10a rfl rfl rfl (st_no (by kernel_rfl) (st_id (v := v33) (H := h48) (by kernel_rfl)
  (go_op1 xo14_10 xo14_10a rfl rfl rfl (st_no (by kernel_rfl) (st_bp (by kernel_rfl) fun v49 h50 =>
  (go_op1 xo14_10 xo14_10a rfl rfl rfl (st_no (by kernel_rfl) (st_bm (by kernel_rfl) fun v51 h52 =>
  (go_op1 xo14_10 xo14_10a rfl rfl rfl (st_no (by kernel_rfl) (st_id (v := v51) (H := h52) (by kernel_rfl)
  (go_gdT1 xo14_10 xo14_10a rfl rfl rfl rfl (by kernel_rfl)
  (st_no (by kernel_rfl) (st_id (v := v35) (H := h52) (by kernel_rfl)
  (go_run1 xo14_10 xo14_10a rfl rfl rfl rfl (by kernel_rfl) (st_no (by kernel_rfl) (st_id (v := t1) (H := h52) (by kernel_rfl)
  (go_run1 xo14_10 xo14_10a rfl rfl rfl rfl (by kernel_rfl) (st_no (by kernel_rfl) (st_bp (by kernel_rfl) fun v53 h54 =>
  (go_run1 xo14_10 xo14_10a rfl rfl rfl rfl (by kernel_rfl) (st_no (by kernel_rfl) (st_bm (by kernel_rfl) fun v55 h56 =>
  (go_run1 xo14_10 xo14_10a rfl rfl rfl rfl (by kernel_rfl) (st_no (by kernel_rfl) (st_bp (by kernel_rfl) fun v57 h58 =>
  (go_run1 xo14_10 xo14_10a rfl rfl rfl rfl (by kernel_rfl) (st_no (by kernel_rfl) (st_id (v := t1) (H := h58) (by kernel_rfl)
  (go_run1 xo14_10 xo14_10a rfl rfl rfl rfl (by kernel_rfl) (st_no (by kernel_rfl) (st_id (v := t1) (H := h58) (by kernel_rfl)
  (go_run1 xo14_10 xo14_10a rfl rfl rfl rfl (by kernel_rfl) (st_no (by kernel_rfl) (st_bp (by kernel_rfl) fun v59 h60 =>
  (go_run1 xo14_10 xo14_10a rfl rfl rfl rfl (by kernel_rfl) (st_no (by kernel_rfl) (st_bm (by kernel_rfl) fun v61 h62 =>
  (go_run1 xo14_10 xo14_10a rfl rfl rfl rfl (by kernel_rfl) (st_no (by kernel_rfl) (st_bp (by kernel_rfl) fun v63 h64 =>
  (go_run1 xo14_10 xo14_10a rfl rfl rfl rfl (by kernel_rfl) (st_no (by kernel_rfl) (st_bp (by kernel_rfl) fun v65 h66 =>
  (by kernel_rfl)))))))))))))))))))))))))))))))))
  (go_skip1 xo14_10 rfl rfl rfl rfl (by kernel_rfl)
  (go_skip1 xo14_10 rfl rfl rfl rfl (by kernel_rfl)
  (go_skip1 xo14_10 rfl rfl rfl rfl (by kernel_rfl)
  (go_skip1 xo14_10 rfl rfl rfl rfl (by kernel_rfl)
  (go_skip1 xo14_10 rfl rfl rfl rfl (by kernel_rfl)
  (go_skip1 xo14_10 rfl rfl rfl rfl (by kernel_rfl)
  (go_skip1 xo14_10 rfl rfl rfl rfl (by kernel_rfl)
  (go_skip1 xo14_10 rfl rfl rfl rfl (by kernel_rfl)
  (go_skip1 xo14_10 rfl rfl rfl rfl (by kernel_rfl)
  (go_skip1 xo14_10 rfl rfl rfl rfl (by kernel_rfl)
  (by kernel_rfl)))))))))))
  (by kernel_rfl))))))))))))))))))))))))))))))))))))))))))))))))))))))))))))))))))))))))))))))))))))))))
theorem xm14_4 (s : Sys) (k wl : Nat) (m0 : Nat) (ac : List Nat × List Nat) (t0 t1 t2 t3 t4 t5 t6 t7 t8 t9 t10 t11 t12 t13 t14 t15 t16 t17 t18 t19 t20 t21 t22 t23 t24 t25 t26 t27 t28 t29 t30 t31 t32 t33 t34 t35 t36 t37 t38 t39 t40 t41 t42 t43 t44 t45 t46 t47 t48 t49 t50 t51 t52 t53 t54 t55 t56 t57 t58 t59 t60 t61 t62 t63 t64 t65 t66 t67 t68 t69 t70 t71 t72 t73 t74 t75 t76 t77 t78 t79 t80 t81 : V) (h : Hp) : opsP (xX s 14 wl k false) xg14_1 19 m0 ac (runK (xX s 14 wl k false) (bodyK s.P Try.f14) xk14_1) ⟨(t0 :: t1 :: t2 :: t3 :: t4 :: t5 :: t6 :: t7 :: t8 :: t9 :: t10 :: t11 :: t12 :: t13 :: t14 :: t15 :: t16 :: t17 :: t18 :: t19 :: t20 :: t21 :: t22 :: t23 :: t24 :: t25 :: t26 :: t27 :: t28 :: t29 :: t30 :: t31 :: t32 :: t33 :: t34 :: t35 :: t36 :: t37 :: t38 :: t39 :: t40 :: t41 :: t42 :: t43 :: t44 :: t45 :: t46 :: t47 :: t48 :: t49 :: t50 :: t51 :: t52 :: t53 :: t54 :: t55 :: t56 :: t57 :: t58 :: t59 :: t60 :: t61 :: t62 :: t63 :: t64 :: t65 :: t66 :: t67 :: t68 :: t69 :: t70 :: t71 :: t72 :: t73 :: t74 :: t75 :: t76 :: t77 :: t78 :: t79 :: t80 :: t81 :: []), h⟩ =
  bm (vPick t60 t71 (V.lit (Value.bool false))) h fun v67 h68 =>
  gd v67 (
  bp (opLen s.P 43 t1 h68) fun v69 h70 =>
  bm (vBin s.P .sub 3 v69 (V.lit (Value.int .i64 1))) h70 fun v71 h72 =>
  bp (vSlice s.P wl false 43 t8 (some v71) none none h72) fun v73 h74 =>
  bp (callV (xX s 14 wl k false) false true (.fn (.func 49) [] []) [v73, t9] h74) fun v75 h76 =>
  opsP (xX s 14 wl k false) xg14_1 28 m0 ac (runK (xX s 14 wl k false) (bodyK s.P Try.f14) xk14_1) ⟨(t0 :: t1 :: t2 :: t3 :: t4 :: t5 :: t6 :: t7 :: t8 :: t9 :: t10 :: t11 :: t12 :: t13 :: t14 :: t15 :: t16 :: t17 :: t18 :: t19 :: t20 :: t21 :: t22 :: t23 :: t24 :: t25 :: t26 :: t27 :: t28 :: t29 :: t30 :: t31 :: t32 :: t33 :: t34 :: t35 :: t36 :: t37 :: t38 :: t39 :: t40 :: t41 :: t42 :: t43 :: t44 :: t45 :: t46 :: t47 :: t48 :: t49 :: t50 :: t51 :: t52 :: t53 :: t54 :: t55 :: t56 :: t57 :: t58 :: t59 :: t60 :: t61 :: t62 :: t63 :: t64 :: t65 :: t66 :: t67 :: t68 :: t69 :: t70 :: t71 :: v67 :: (V.lit (Value.bool true)) :: t8 :: t1 :: v69 :: v71 :: v73 :: t9 :: v75 :: t81 :: []), h76⟩) (
  opsP (xX s 14 wl k false) xg14_1 28 m0 ac (runK (xX s 14 wl k false) (bodyK s.P Try.f14) xk14_1) ⟨(t0 :: t1 :: t2 :: t3 :: t4 :: t5 :: t6 :: t7 :: t8 :: t9 :: t10 :: t11 :: t12 :: t13 :: t14 :: t15 :: t16 :: t17 :: t18 :: t19 :: t20 :: t21 :: t22 :: t23 :: t24 :: t25 :: t26 :: t27 :: t28 :: t29 :: t30 :: t31 :: t32 :: t33 :: t34 :: t35 :: t36 :: t37 :: t38 :: t39 :: t40 :: t41 :: t42 :: t43 :: t44 :: t45 :: t46 :: t47 :: t48 :: t49 :: t50 :: t51 :: t52 :: t53 :: t54 :: t55 :: t56 :: t57 :: t58 :: t59 :: t60 :: t61 :: t62 :: t63 :: t64 :: t65 :: t66 :: t67 :: t68 :: t69 :: t70 :: t71 :: v67 :: (V.lit (Value.bool false)) :: uu :: uu :: uu :: uu :: uu :: uu :: uu :: t81 :: []), h68⟩) (
  opsP (xX s 14 wl k false) xg14_1 22 m0 ac (runK (xX s 14 wl k false) (bodyK s.P Try.f14) xk14_1) ⟨(t0 :: t1 :: t2 :: t3 :: t4 :: t5 :: t6 :: t7 :: t8 :: t9 :: t10 :: t11 :: t12 :: t13 :: t14 :: t15 :: t16 :: t17 :: t18 :: t19 :: t20 :: t21 :: t22 :: t23 :: t24 :: t25 :: t26 :: t27 :: t28 :: t29 :: t30 :: t31 :: t32 :: t33 :: t34 :: t35 :: t36 :: t37 :: t38 :: t39 :: t40 :: t41 :: t42 :: t43 :: t44 :: t45 :: t46 :: t47 :: t48 :: t49 :: t50 :: t51 :: t52 :: t53 :: t54 :: t55 :: t56 :: t57 :: t58 :: t59 :: t60 :: t61 :: t62 :: t63 :: t64 :: t65 :: t66 :: t67 :: t68 :: t69 :: t70 :: t71 :: v67 :: v67 :: uu :: t75 :: t76 :: t77 :: t78 :: t79 :: t80 :: t81 :: []), h68⟩) :=
  (go_op1 xo14_10 xo14_10a rfl rfl rfl (st_no (by kernel_rfl) (st_bm (by kernel_rfl) fun v67 h68 =>
  (go_op1 xo14_10 xo14_10a rfl rfl rfl (st_no (by kernel_rfl) (st_id (v := v67) (H := h68) (by kernel_rfl)
  (go_gdT1 xo14_10 xo14_10a rfl rfl rfl rfl (by kernel_rfl)
  (st_no (by kernel_rfl) (st_id (v := t8) (H := h68) (by kernel_rfl)
  (go_run1 xo14_10 xo14_10a rfl rfl rfl rfl (by kernel_rfl) (st_no (by kernel_rfl) (st_id (v := t1) (H := h68) (by kernel_rfl)
  (go_run1 xo14_10 xo14_10a rfl rfl rfl rfl (by kernel_rfl) (st_no (by kernel_rfl) (st_bp (by kernel_rfl) fun v69 h70 =>
  (go_run1 xo14_10 xo14_10a rfl rfl rfl rfl (by kernel_rfl) (st_no (by kernel_rfl) (st_bm (by kernel_rfl) fun v71 h72 =>
  (go_run1 xo14_10 xo14_10a rfl rfl rfl rfl (by kernel_rfl) (st_no (by kernel_rfl) (st_bp (by kernel_rfl) fun v73 h74 =>
  (go_run1 xo14_10 xo14_10a rfl rfl rfl rfl (by kernel_rfl) (st_no (by kernel_rfl) (st_id (v := t9) (H := h74) (by kernel_rfl)
  (go_run1 xo14_10 xo14_10a rfl rfl rfl rfl (by kernel_rfl) (st_no (by kernel_rfl) (st_bp (by kernel_rfl) fun v75 h76 =>
  (by kernel_rfl)))))))))))))))))))))
  (go_skip1 xo14_10 rfl rfl rfl rfl (by kernel_rfl)
  (go_skip1 xo14_10 rfl rfl rfl rfl (by kernel_rfl)
  (go_skip1 xo14_10 rfl rfl rfl rfl (by kernel_rfl)
  (go_skip1 xo14_10 rfl rfl rfl rfl (by kernel_rfl)
  (go_skip1 xo14_10 rfl rfl rfl rfl (by kernel_rfl)
  (go_skip1 xo14_10 rfl rfl rfl rfl (by kernel_rfl)
  (by kernel_rfl)))))))
  (by kernel_rfl))))))))
theorem xm14_5 (s : Sys) (k wl : Nat) (m0 : Nat) (ac : List Nat × List Nat) (t0 t1 t2 t3 t4 t5 t6 t7 t8 t9 t10 t11 t12 t13 t14 t15 t16 t17 t18 t19 t20 t21 t22 t23 t24 t25 t26 t27 t28 t29 t30 t31 t32 t33 t34 t35 t36 t37 t38 t39 t40 t41 t42 t43 t44 t45 t46 t47 t48 t49 t50 t51 t52 t53 t54 t55 t56 t57 t58 t59 t60 t61 t62 t63 t64 t65 t66 t67 t68 t69 t70 t71 t72 t73 t74 t75 t76 t77 t78 t79 t80 t81 : V) (h : Hp) : opsP (xX s 14 wl k false) xg14_1 28 m0 ac (runK (xX s 14 wl k false) (bodyK s.P Try.f14) xk14_1) ⟨(t0 :: t1 :: t2 :: t3 :: t4 :: t5 :: t6 :: t7 :: t8 :: t9 :: t10 :: t11 :: t12 :: t13 :: t14 :: t15 :: t16 :: t17 :: t18 :: t19 :: t20 :: t21 :: t22 :: t23 :: t24 :: t25 :: t26 :: t27 :: t28 :: t29 :: t30 :: t31 :: t32 :: t33 :: t34 :: t35 :: t36 :: t37 :: t38 :: t39 :: t40 :: t41 :: t42 :: t43 :: t44 :: t45 :: t46 :: t47 :: t48 :: t49 :: t50 :: t51 :: t52 :: t53 :: t54 :: t55 :: t56 :: t57 :: t58 :: t59 :: t60 :: t61 :: t62 :: t63 :: t64 :: t65 :: t66 :: t67 :: t68 :: t69 :: t70 :: t71 :: t72 :: t73 :: t74 :: t75 :: t76 :: t77 :: t78 :: t79 :: t80 :: t81 :: []), h⟩ =
  bm (vPick t73 t80 (V.lit (Value.bool false))) h fun v77 h78 =>
  some (v77, h78) :=
  (go_op1 xo14_10 xo14_10a rfl rfl rfl (st_no (by kernel_rfl) (st_bm (by kernel_rfl) fun v77 h78 =>
  (go_op1 xo14_10 xo14_10a rfl rfl rfl (st_no (by kernel_rfl) (st_id (v := v77) (H := h78) (by kernel_rfl)
  (go_end1 xo14_10 (by kernel_rfl) xo14_10a
  (go_ret (by kernel_rfl)))))))))
theorem xk14_0_ret (cx : Cx) (K : Out → St → Option (V × Hp)) (s : St) : runK cx K xk14_0 .ret s = K .ret s := by kernel_rfl
theorem xk14_1_ret (cx : Cx) (K : Out → St → Option (V × Hp)) (s : St) : runK cx K xk14_1 .ret s = K .ret s := by kernel_rfl
-- names: xb14, xm14_0, xm14_1, xm14_2, xm14_3, xm14_4, xm14_5, xk14_0_ret, xk14_1_ret
end Go.Ab
