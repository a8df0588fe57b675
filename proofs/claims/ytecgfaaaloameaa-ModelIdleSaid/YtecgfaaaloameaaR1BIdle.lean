/- The program's code, point by point: printed by gen.py. -/
import Derived.Test.YtecgfaaaloameaaR1Seat
set_option maxRecDepth 100000
set_option linter.unusedVariables false
namespace Go.Ab
open Go.Proofs
/-! 6 poacher/poacherlaw21.ModelIdle: 0 t, 1 l, 2 t, 3 l, 5 up, 6 one, 7 n, 8 i, 9 idle -/
noncomputable def xg6_0 : Code := codeAt (bodyOf Try.f6) [1, 1, 1, 0, 0]
noncomputable def xk6_0 : List Fr := [.seq (codeAt (bodyOf Try.f6) [1, 1, 1, 0, 1]), .seq (codeAt (bodyOf Try.f6) [1, 1, 1, 1])]
noncomputable def xl6_0 : Code := codeAt (bodyOf Try.f6) [1, 1, 1, 1, 1, 0, 1, 0, 0]
noncomputable def xk6_1 : List Fr := [.block 0, .seq (codeAt (bodyOf Try.f6) [1, 1, 1, 1, 1, 1])]
noncomputable def xg6_1 : Code := codeAt (bodyOf Try.f6) [1, 1, 1, 1, 1, 0, 1, 0, 0, 1, 0, 0, 0, 0]
noncomputable def xk6_2 : List Fr := [.seq (codeAt (bodyOf Try.f6) [1, 1, 1, 1, 1, 0, 1, 0, 0, 1, 0, 0, 0, 1]), .seq (codeAt (bodyOf Try.f6) [1, 1, 1, 1, 1, 0, 1, 0, 0, 1, 0, 0, 1]), .block 1, .seq (codeAt (bodyOf Try.f6) [1, 1, 1, 1, 1, 0, 1, 0, 0, 1, 1])]
noncomputable def xg6_2 : Code := codeAt (bodyOf Try.f6) [1, 1, 1, 1, 1, 1, 1, 0]
noncomputable def xk6_3 : List Fr := [.seq (codeAt (bodyOf Try.f6) [1, 1, 1, 1, 1, 1, 1, 1])]
noncomputable def xk6_4 : List Fr := [.seq (codeAt (bodyOf Try.f6) [1, 1, 1, 1, 1, 0, 1, 0, 0, 1, 0, 0, 1]), .block 1, .seq (codeAt (bodyOf Try.f6) [1, 1, 1, 1, 1, 0, 1, 0, 0, 1, 1])]
noncomputable def xk6_5 : List Fr := [.block 1, .seq (codeAt (bodyOf Try.f6) [1, 1, 1, 1, 1, 0, 1, 0, 0, 1, 1])]
theorem xb6 (s : Sys) (k wl : Nat) (t0 t1 : V) (h : Hp) : bodyV (xX s 6 wl k false) Try.f6 [t0, t1] h =
  bp (callV (xX s 6 wl k false) false true (.fn (.func 23) [] []) [] h) fun v1 h2 =>
  bp (callV (xX s 6 wl k false) false true (.fn (.func 24) [] []) [t0] h2) fun v3 h4 =>
  bm (vUn .not v1) h4 fun v5 h6 =>
  gd v5 (
  opsP (xX s 6 wl k false) xg6_0 5 h4.length ([], []) (runK (xX s 6 wl k false) (bodyK s.P Try.f6) xk6_0) ⟨(t0 :: t1 :: uu :: uu :: (V.lit (Value.bool false)) :: v1 :: v3 :: uu :: uu :: uu :: v1 :: t0 :: v3 :: v1 :: v5 :: (V.lit (Value.bool true)) :: uu :: uu :: uu :: uu :: uu :: uu :: uu :: uu :: uu :: uu :: uu :: uu :: uu :: uu :: uu :: uu :: uu :: uu :: uu :: uu :: uu :: uu :: uu :: uu :: uu :: uu :: uu :: uu :: uu :: uu :: uu :: uu :: uu :: uu :: uu :: uu :: uu :: uu :: uu :: uu :: uu :: uu :: uu :: uu :: uu :: uu :: uu :: uu :: uu :: uu :: uu :: uu :: uu :: uu :: uu :: uu :: uu :: uu :: uu :: uu :: uu :: uu :: uu :: uu :: uu :: uu :: uu :: uu :: []), h6⟩) (
  bm (vUn .not v3) h6 fun v7 h8 =>
  opsP (xX s 6 wl k false) xg6_0 5 h4.length ([], []) (runK (xX s 6 wl k false) (bodyK s.P Try.f6) xk6_0) ⟨(t0 :: t1 :: uu :: uu :: (V.lit (Value.bool false)) :: v1 :: v3 :: uu :: uu :: uu :: v1 :: t0 :: v3 :: v1 :: v5 :: (V.lit (Value.bool false)) :: v3 :: v7 :: uu :: uu :: uu :: uu :: uu :: uu :: uu :: uu :: uu :: uu :: uu :: uu :: uu :: uu :: uu :: uu :: uu :: uu :: uu :: uu :: uu :: uu :: uu :: uu :: uu :: uu :: uu :: uu :: uu :: uu :: uu :: uu :: uu :: uu :: uu :: uu :: uu :: uu :: uu :: uu :: uu :: uu :: uu :: uu :: uu :: uu :: uu :: uu :: uu :: uu :: uu :: uu :: uu :: uu :: uu :: uu :: uu :: uu :: uu :: uu :: uu :: uu :: uu :: uu :: uu :: uu :: []), h8⟩) (
  opsP (xX s 6 wl k false) xg6_0 4 h4.length ([], []) (runK (xX s 6 wl k false) (bodyK s.P Try.f6) xk6_0) ⟨(t0 :: t1 :: uu :: uu :: (V.lit (Value.bool false)) :: v1 :: v3 :: uu :: uu :: uu :: v1 :: t0 :: v3 :: v1 :: v5 :: v5 :: uu :: uu :: uu :: uu :: uu :: uu :: uu :: uu :: uu :: uu :: uu :: uu :: uu :: uu :: uu :: uu :: uu :: uu :: uu :: uu :: uu :: uu :: uu :: uu :: uu :: uu :: uu :: uu :: uu :: uu :: uu :: uu :: uu :: uu :: uu :: uu :: uu :: uu :: uu :: uu :: uu :: uu :: uu :: uu :: uu :: uu :: uu :: uu :: uu :: uu :: uu :: uu :: uu :: uu :: uu :: uu :: uu :: uu :: uu :: uu :: uu :: uu :: uu :: uu :: uu :: uu :: uu :: uu :: []), h6⟩) :=
  bodyV_run rfl (go_seq (go_reg0
  (go_op0 rfl rfl (st_id (v := (V.lit (Value.bool false))) (H := h) (by kernel_rfl)
  (go_end0 (by kernel_rfl)
  (go_seq (go_reg0
  (go_op0 rfl rfl (st_bp (by kernel_rfl) fun v1 h2 =>
  (go_op0 rfl rfl (st_id (v := v1) (H := h2) (by kernel_rfl)
  (go_end0 (by kernel_rfl)
  (go_seq (go_reg0
  (go_op0 rfl rfl (st_id (v := t0) (H := h2) (by kernel_rfl)
  (go_op0 rfl rfl (st_bp (by kernel_rfl) fun v3 h4 =>
  (go_op0 rfl rfl (st_id (v := v3) (H := h4) (by kernel_rfl)
  (go_end0 (by kernel_rfl)
  (go_seq (go_seq (go_reg0
  (go_op0 rfl rfl (st_id (v := v1) (H := h4) (by kernel_rfl)
  (go_op0 rfl rfl (st_bm (by kernel_rfl) fun v5 h6 =>
  (go_op0 rfl rfl (st_id (v := v5) (H := h6) (by kernel_rfl)
  (go_gdF0 rfl rfl rfl (by kernel_rfl)
  (go_skip0 rfl rfl rfl (by kernel_rfl)
  (by kernel_rfl))
  (st_id (v := v3) (H := h6) (by kernel_rfl)
  (go_run0 rfl rfl rfl (by kernel_rfl) (st_bm (by kernel_rfl) fun v7 h8 =>
  (by kernel_rfl))))
  (by kernel_rfl))))))))))))))))))))))))))))))))
theorem xe6 (k wl : Nat) (t0 t1 : V) (h : Hp) : evF Try.prog xM (k + 1) wl 6 [t0, t1] h = bodyV (xX (xS k) 6 wl k false) Try.f6 [t0, t1] h := by kernel_rfl
theorem xz6 (P : Program) (t0 t1 t2 t3 t4 t5 t6 t7 t8 t9 t10 t11 t12 t13 t14 t15 t16 t17 t18 t19 t20 t21 t22 t23 t24 t25 t26 t27 t28 t29 t30 t31 t32 t33 t34 t35 t36 t37 t38 t39 t40 t41 t42 t43 t44 t45 t46 t47 t48 t49 t50 t51 t52 t53 t54 t55 t56 t57 t58 t59 t60 t61 t62 t63 t64 t65 t66 t67 t68 t69 t70 t71 t72 t73 t74 t75 t76 t77 t78 t79 t80 t81 t82 t83 : V) (h : Hp) : bodyK P Try.f6 .ret ⟨(t0 :: t1 :: t2 :: t3 :: t4 :: t5 :: t6 :: t7 :: t8 :: t9 :: t10 :: t11 :: t12 :: t13 :: t14 :: t15 :: t16 :: t17 :: t18 :: t19 :: t20 :: t21 :: t22 :: t23 :: t24 :: t25 :: t26 :: t27 :: t28 :: t29 :: t30 :: t31 :: t32 :: t33 :: t34 :: t35 :: t36 :: t37 :: t38 :: t39 :: t40 :: t41 :: t42 :: t43 :: t44 :: t45 :: t46 :: t47 :: t48 :: t49 :: t50 :: t51 :: t52 :: t53 :: t54 :: t55 :: t56 :: t57 :: t58 :: t59 :: t60 :: t61 :: t62 :: t63 :: t64 :: t65 :: t66 :: t67 :: t68 :: t69 :: t70 :: t71 :: t72 :: t73 :: t74 :: t75 :: t76 :: t77 :: t78 :: t79 :: t80 :: t81 :: t82 :: t83 :: []), h⟩ = some (t4, h) := by kernel_rfl
theorem xm6_0 (s : Sys) (k wl : Nat) (m0 : Nat) (ac : List Nat × List Nat) (t0 t1 t2 t3 t4 t5 t6 t7 t8 t9 t10 t11 t12 t13 t14 t15 t16 t17 t18 t19 t20 t21 t22 t23 t24 t25 t26 t27 t28 t29 t30 t31 t32 t33 t34 t35 t36 t37 t38 t39 t40 t41 t42 t43 t44 t45 t46 t47 t48 t49 t50 t51 t52 t53 t54 t55 t56 t57 t58 t59 t60 t61 t62 t63 t64 t65 t66 t67 t68 t69 t70 t71 t72 t73 t74 t75 t76 t77 t78 t79 t80 t81 t82 t83 : V) (h : Hp) : opsP (xX s 6 wl k false) xg6_0 5 m0 ac (runK (xX s 6 wl k false) (bodyK s.P Try.f6) xk6_0) ⟨(t0 :: t1 :: t2 :: t3 :: t4 :: t5 :: t6 :: t7 :: t8 :: t9 :: t10 :: t11 :: t12 :: t13 :: t14 :: t15 :: t16 :: t17 :: t18 :: t19 :: t20 :: t21 :: t22 :: t23 :: t24 :: t25 :: t26 :: t27 :: t28 :: t29 :: t30 :: t31 :: t32 :: t33 :: t34 :: t35 :: t36 :: t37 :: t38 :: t39 :: t40 :: t41 :: t42 :: t43 :: t44 :: t45 :: t46 :: t47 :: t48 :: t49 :: t50 :: t51 :: t52 :: t53 :: t54 :: t55 :: t56 :: t57 :: t58 :: t59 :: t60 :: t61 :: t62 :: t63 :: t64 :: t65 :: t66 :: t67 :: t68 :: t69 :: t70 :: t71 :: t72 :: t73 :: t74 :: t75 :: t76 :: t77 :: t78 :: t79 :: t80 :: t81 :: t82 :: t83 :: []), h⟩ =
  bm (vPick t15 (V.lit (Value.bool true)) t17) h fun v9 h10 =>
  gd v9 (
  opsP (xX s 6 wl k false) xg6_0 10 m0 ac (runK (xX s 6 wl k false) (bodyK s.P Try.f6) xk6_0) ⟨(t0 :: t1 :: t2 :: t3 :: t4 :: t5 :: t6 :: t7 :: t8 :: t9 :: t10 :: t11 :: t12 :: t13 :: t14 :: t15 :: t16 :: t17 :: v9 :: (V.lit (Value.bool true)) :: uu :: uu :: uu :: t23 :: t24 :: t25 :: t26 :: t27 :: t28 :: t29 :: t30 :: t31 :: t32 :: t33 :: t34 :: t35 :: t36 :: t37 :: t38 :: t39 :: t40 :: t41 :: t42 :: t43 :: t44 :: t45 :: t46 :: t47 :: t48 :: t49 :: t50 :: t51 :: t52 :: t53 :: t54 :: t55 :: t56 :: t57 :: t58 :: t59 :: t60 :: t61 :: t62 :: t63 :: t64 :: t65 :: t66 :: t67 :: t68 :: t69 :: t70 :: t71 :: t72 :: t73 :: t74 :: t75 :: t76 :: t77 :: t78 :: t79 :: t80 :: t81 :: t82 :: t83 :: []), h10⟩) (
  bp (opLen s.P 26 t1 h10) fun v11 h12 =>
  bm (vBin s.P .gtr 3 v11 (V.lit (Value.int .i64 200))) h12 fun v13 h14 =>
  opsP (xX s 6 wl k false) xg6_0 10 m0 ac (runK (xX s 6 wl k false) (bodyK s.P Try.f6) xk6_0) ⟨(t0 :: t1 :: t2 :: t3 :: t4 :: t5 :: t6 :: t7 :: t8 :: t9 :: t10 :: t11 :: t12 :: t13 :: t14 :: t15 :: t16 :: t17 :: v9 :: (V.lit (Value.bool false)) :: t1 :: v11 :: v13 :: t23 :: t24 :: t25 :: t26 :: t27 :: t28 :: t29 :: t30 :: t31 :: t32 :: t33 :: t34 :: t35 :: t36 :: t37 :: t38 :: t39 :: t40 :: t41 :: t42 :: t43 :: t44 :: t45 :: t46 :: t47 :: t48 :: t49 :: t50 :: t51 :: t52 :: t53 :: t54 :: t55 :: t56 :: t57 :: t58 :: t59 :: t60 :: t61 :: t62 :: t63 :: t64 :: t65 :: t66 :: t67 :: t68 :: t69 :: t70 :: t71 :: t72 :: t73 :: t74 :: t75 :: t76 :: t77 :: t78 :: t79 :: t80 :: t81 :: t82 :: t83 :: []), h14⟩) (
  opsP (xX s 6 wl k false) xg6_0 8 m0 ac (runK (xX s 6 wl k false) (bodyK s.P Try.f6) xk6_0) ⟨(t0 :: t1 :: t2 :: t3 :: t4 :: t5 :: t6 :: t7 :: t8 :: t9 :: t10 :: t11 :: t12 :: t13 :: t14 :: t15 :: t16 :: t17 :: v9 :: v9 :: uu :: t21 :: t22 :: t23 :: t24 :: t25 :: t26 :: t27 :: t28 :: t29 :: t30 :: t31 :: t32 :: t33 :: t34 :: t35 :: t36 :: t37 :: t38 :: t39 :: t40 :: t41 :: t42 :: t43 :: t44 :: t45 :: t46 :: t47 :: t48 :: t49 :: t50 :: t51 :: t52 :: t53 :: t54 :: t55 :: t56 :: t57 :: t58 :: t59 :: t60 :: t61 :: t62 :: t63 :: t64 :: t65 :: t66 :: t67 :: t68 :: t69 :: t70 :: t71 :: t72 :: t73 :: t74 :: t75 :: t76 :: t77 :: t78 :: t79 :: t80 :: t81 :: t82 :: t83 :: []), h10⟩) :=
  (go_op0 rfl rfl (st_bm (by kernel_rfl) fun v9 h10 =>
  (go_op0 rfl rfl (st_id (v := v9) (H := h10) (by kernel_rfl)
  (go_gdF0 rfl rfl rfl (by kernel_rfl)
  (go_skip0 rfl rfl rfl (by kernel_rfl)
  (go_skip0 rfl rfl rfl (by kernel_rfl)
  (by kernel_rfl)))
  (st_id (v := t1) (H := h10) (by kernel_rfl)
  (go_run0 rfl rfl rfl (by kernel_rfl) (st_bp (by kernel_rfl) fun v11 h12 =>
  (go_run0 rfl rfl rfl (by kernel_rfl) (st_bm (by kernel_rfl) fun v13 h14 =>
  (by kernel_rfl))))))
  (by kernel_rfl))))))
theorem xm6_1 (s : Sys) (k wl : Nat) (m0 : Nat) (ac : List Nat × List Nat) (t0 t1 t2 t3 t4 t5 t6 t7 t8 t9 t10 t11 t12 t13 t14 t15 t16 t17 t18 t19 t20 t21 t22 t23 t24 t25 t26 t27 t28 t29 t30 t31 t32 t33 t34 t35 t36 t37 t38 t39 t40 t41 t42 t43 t44 t45 t46 t47 t48 t49 t50 t51 t52 t53 t54 t55 t56 t57 t58 t59 t60 t61 t62 t63 t64 t65 t66 t67 t68 t69 t70 t71 t72 t73 t74 t75 t76 t77 t78 t79 t80 t81 t82 t83 : V) (h : Hp) : opsP (xX s 6 wl k false) xg6_0 10 m0 ac (runK (xX s 6 wl k false) (bodyK s.P Try.f6) xk6_0) ⟨(t0 :: t1 :: t2 :: t3 :: t4 :: t5 :: t6 :: t7 :: t8 :: t9 :: t10 :: t11 :: t12 :: t13 :: t14 :: t15 :: t16 :: t17 :: t18 :: t19 :: t20 :: t21 :: t22 :: t23 :: t24 :: t25 :: t26 :: t27 :: t28 :: t29 :: t30 :: t31 :: t32 :: t33 :: t34 :: t35 :: t36 :: t37 :: t38 :: t39 :: t40 :: t41 :: t42 :: t43 :: t44 :: t45 :: t46 :: t47 :: t48 :: t49 :: t50 :: t51 :: t52 :: t53 :: t54 :: t55 :: t56 :: t57 :: t58 :: t59 :: t60 :: t61 :: t62 :: t63 :: t64 :: t65 :: t66 :: t67 :: t68 :: t69 :: t70 :: t71 :: t72 :: t73 :: t74 :: t75 :: t76 :: t77 :: t78 :: t79 :: t80 :: t81 :: t82 :: t83 :: []), h⟩ =
  bm (vPick t19 (V.lit (Value.bool true)) t22) h fun v15 h16 =>
  gd v15 (
  opsP (xX s 6 wl k false) xg6_0 16 m0 ac (runK (xX s 6 wl k false) (bodyK s.P Try.f6) xk6_0) ⟨(t0 :: t1 :: t2 :: t3 :: t4 :: t5 :: t6 :: t7 :: t8 :: t9 :: t10 :: t11 :: t12 :: t13 :: t14 :: t15 :: t16 :: t17 :: t18 :: t19 :: t20 :: t21 :: t22 :: v15 :: (V.lit (Value.bool true)) :: uu :: uu :: uu :: uu :: t29 :: t30 :: t31 :: t32 :: t33 :: t34 :: t35 :: t36 :: t37 :: t38 :: t39 :: t40 :: t41 :: t42 :: t43 :: t44 :: t45 :: t46 :: t47 :: t48 :: t49 :: t50 :: t51 :: t52 :: t53 :: t54 :: t55 :: t56 :: t57 :: t58 :: t59 :: t60 :: t61 :: t62 :: t63 :: t64 :: t65 :: t66 :: t67 :: t68 :: t69 :: t70 :: t71 :: t72 :: t73 :: t74 :: t75 :: t76 :: t77 :: t78 :: t79 :: t80 :: t81 :: t82 :: t83 :: []), h16⟩) (
  bp (callV (xX s 6 wl k false) false true (.fn (.func 34) [] []) [t0, t1] h16) fun v17 h18 =>
  bm (vUn .not v17) h18 fun v19 h20 =>
  opsP (xX s 6 wl k false) xg6_0 16 m0 ac (runK (xX s 6 wl k false) (bodyK s.P Try.f6) xk6_0) ⟨(t0 :: t1 :: t2 :: t3 :: t4 :: t5 :: t6 :: t7 :: t8 :: t9 :: t10 :: t11 :: t12 :: t13 :: t14 :: t15 :: t16 :: t17 :: t18 :: t19 :: t20 :: t21 :: t22 :: v15 :: (V.lit (Value.bool false)) :: t0 :: t1 :: v17 :: v19 :: t29 :: t30 :: t31 :: t32 :: t33 :: t34 :: t35 :: t36 :: t37 :: t38 :: t39 :: t40 :: t41 :: t42 :: t43 :: t44 :: t45 :: t46 :: t47 :: t48 :: t49 :: t50 :: t51 :: t52 :: t53 :: t54 :: t55 :: t56 :: t57 :: t58 :: t59 :: t60 :: t61 :: t62 :: t63 :: t64 :: t65 :: t66 :: t67 :: t68 :: t69 :: t70 :: t71 :: t72 :: t73 :: t74 :: t75 :: t76 :: t77 :: t78 :: t79 :: t80 :: t81 :: t82 :: t83 :: []), h20⟩) (
  opsP (xX s 6 wl k false) xg6_0 13 m0 ac (runK (xX s 6 wl k false) (bodyK s.P Try.f6) xk6_0) ⟨(t0 :: t1 :: t2 :: t3 :: t4 :: t5 :: t6 :: t7 :: t8 :: t9 :: t10 :: t11 :: t12 :: t13 :: t14 :: t15 :: t16 :: t17 :: t18 :: t19 :: t20 :: t21 :: t22 :: v15 :: v15 :: uu :: t26 :: t27 :: t28 :: t29 :: t30 :: t31 :: t32 :: t33 :: t34 :: t35 :: t36 :: t37 :: t38 :: t39 :: t40 :: t41 :: t42 :: t43 :: t44 :: t45 :: t46 :: t47 :: t48 :: t49 :: t50 :: t51 :: t52 :: t53 :: t54 :: t55 :: t56 :: t57 :: t58 :: t59 :: t60 :: t61 :: t62 :: t63 :: t64 :: t65 :: t66 :: t67 :: t68 :: t69 :: t70 :: t71 :: t72 :: t73 :: t74 :: t75 :: t76 :: t77 :: t78 :: t79 :: t80 :: t81 :: t82 :: t83 :: []), h16⟩) :=
  (go_op0 rfl rfl (st_bm (by kernel_rfl) fun v15 h16 =>
  (go_op0 rfl rfl (st_id (v := v15) (H := h16) (by kernel_rfl)
  (go_gdF0 rfl rfl rfl (by kernel_rfl)
  (go_skip0 rfl rfl rfl (by kernel_rfl)
  (go_skip0 rfl rfl rfl (by kernel_rfl)
  (go_skip0 rfl rfl rfl (by kernel_rfl)
  (by kernel_rfl))))
  (st_id (v := t0) (H := h16) (by kernel_rfl)
  (go_run0 rfl rfl rfl (by kernel_rfl) (st_id (v := t1) (H := h16) (by kernel_rfl)
  (go_run0 rfl rfl rfl (by kernel_rfl) (st_bp (by kernel_rfl) fun v17 h18 =>
  (go_run0 rfl rfl rfl (by kernel_rfl) (st_bm (by kernel_rfl) fun v19 h20 =>
  (by kernel_rfl))))))))
  (by kernel_rfl))))))
theorem xm6_2 (s : Sys) (k wl : Nat) (m0 : Nat) (ac : List Nat × List Nat) (t0 t1 t2 t3 t4 t5 t6 t7 t8 t9 t10 t11 t12 t13 t14 t15 t16 t17 t18 t19 t20 t21 t22 t23 t24 t25 t26 t27 t28 t29 t30 t31 t32 t33 t34 t35 t36 t37 t38 t39 t40 t41 t42 t43 t44 t45 t46 t47 t48 t49 t50 t51 t52 t53 t54 t55 t56 t57 t58 t59 t60 t61 t62 t63 t64 t65 t66 t67 t68 t69 t70 t71 t72 t73 t74 t75 t76 t77 t78 t79 t80 t81 t82 t83 : V) (h : Hp) : opsP (xX s 6 wl k false) xg6_0 16 m0 ac (runK (xX s 6 wl k false) (bodyK s.P Try.f6) xk6_0) ⟨(t0 :: t1 :: t2 :: t3 :: t4 :: t5 :: t6 :: t7 :: t8 :: t9 :: t10 :: t11 :: t12 :: t13 :: t14 :: t15 :: t16 :: t17 :: t18 :: t19 :: t20 :: t21 :: t22 :: t23 :: t24 :: t25 :: t26 :: t27 :: t28 :: t29 :: t30 :: t31 :: t32 :: t33 :: t34 :: t35 :: t36 :: t37 :: t38 :: t39 :: t40 :: t41 :: t42 :: t43 :: t44 :: t45 :: t46 :: t47 :: t48 :: t49 :: t50 :: t51 :: t52 :: t53 :: t54 :: t55 :: t56 :: t57 :: t58 :: t59 :: t60 :: t61 :: t62 :: t63 :: t64 :: t65 :: t66 :: t67 :: t68 :: t69 :: t70 :: t71 :: t72 :: t73 :: t74 :: t75 :: t76 :: t77 :: t78 :: t79 :: t80 :: t81 :: t82 :: t83 :: []), h⟩ =
  bm (vPick t24 (V.lit (Value.bool true)) t28) h fun v21 h22 =>
  cnd v21 (
  some (t5, h22)) (
  itX (xX s 6 wl k false) xl6_0 h22.length (runK (xX s 6 wl k false) (bodyK s.P Try.f6) xk6_1) k ⟨((V.kill h22.length t0) :: (V.kill h22.length t1) :: (V.kill h22.length t2) :: (V.kill h22.length t3) :: (V.kill h22.length t4) :: (V.kill h22.length t5) :: (V.kill h22.length t6) :: (V.lit (Value.int .i64 0)) :: (V.lit (Value.int .i64 0)) :: (V.kill h22.length t9) :: (V.kill h22.length t10) :: (V.kill h22.length t11) :: (V.kill h22.length t12) :: (V.kill h22.length t13) :: (V.kill h22.length t14) :: (V.kill h22.length t15) :: (V.kill h22.length t16) :: (V.kill h22.length t17) :: (V.kill h22.length t18) :: (V.kill h22.length t19) :: (V.kill h22.length t20) :: (V.kill h22.length t21) :: (V.kill h22.length t22) :: (V.kill h22.length t23) :: (V.kill h22.length t24) :: (V.kill h22.length t25) :: (V.kill h22.length t26) :: (V.kill h22.length t27) :: (V.kill h22.length t28) :: (V.kill h22.length v21) :: (V.kill h22.length t30) :: .junk :: .junk :: .junk :: .junk :: .junk :: .junk :: .junk :: .junk :: .junk :: .junk :: .junk :: .junk :: .junk :: .junk :: .junk :: .junk :: .junk :: .junk :: .junk :: .junk :: .junk :: .junk :: .junk :: .junk :: .junk :: .junk :: .junk :: .junk :: .junk :: .junk :: (V.kill h22.length t61) :: (V.kill h22.length t62) :: (V.kill h22.length t63) :: (V.kill h22.length t64) :: (V.kill h22.length t65) :: (V.kill h22.length t66) :: (V.kill h22.length t67) :: (V.kill h22.length t68) :: (V.kill h22.length t69) :: (V.kill h22.length t70) :: (V.kill h22.length t71) :: (V.kill h22.length t72) :: (V.kill h22.length t73) :: (V.kill h22.length t74) :: (V.kill h22.length t75) :: (V.kill h22.length t76) :: (V.kill h22.length t77) :: (V.kill h22.length t78) :: (V.kill h22.length t79) :: (V.kill h22.length t80) :: (V.kill h22.length t81) :: (V.kill h22.length t82) :: (V.kill h22.length t83) :: []), cutH h22.length h22⟩) :=
  (go_op0 rfl rfl (st_bm (by kernel_rfl) fun v21 h22 =>
  (go_end0 (by kernel_rfl)
  (go_cond (by kernel_rfl)
  (go_seq (go_reg0
  (go_op0 rfl rfl (st_id (v := t5) (H := h22) (by kernel_rfl)
  (go_op0 rfl rfl (st_id (v := t5) (H := h22) (by kernel_rfl)
  (go_end0 (by kernel_rfl)
  (go_ret (rt_seq_ret (by kernel_rfl))))))))))
  (go_skip (go_seq (go_reg0
  (go_op0 rfl rfl (st_id (v := (V.lit (Value.int .i64 0))) (H := h22) (by kernel_rfl)
  (go_end0 (by kernel_rfl)
  (go_seq (go_seq (go_reg0
  (go_op0 rfl rfl (st_id (v := (V.lit (Value.int .i64 0))) (H := h22) (by kernel_rfl)
  (go_end0 (by kernel_rfl)
  (go_block (by kernel_rfl))))))))))))))))))
theorem xr6_0 (s : Sys) (K : Out → St → Option (V × Hp)) (k wl : Nat) (rd : Bool) (n n0 : Nat) (t0 t1 t2 t3 t4 t5 t6 t7 t8 t9 t10 t11 t12 t13 t14 t15 t16 t17 t18 t19 t20 t21 t22 t23 t24 t25 t26 t27 t28 t29 t30 t31 t32 t33 t34 t35 t36 t37 t38 t39 t40 t41 t42 t43 t44 t45 t46 t47 t48 t49 t50 t51 t52 t53 t54 t55 t56 t57 t58 t59 t60 t61 t62 t63 t64 t65 t66 t67 t68 t69 t70 t71 t72 t73 t74 t75 t76 t77 t78 t79 t80 t81 t82 t83 : V) (h : Hp) : itX (xX s 6 wl k rd) xl6_0 n0 K (n + 1) ⟨(t0 :: t1 :: t2 :: t3 :: t4 :: t5 :: t6 :: t7 :: t8 :: t9 :: t10 :: t11 :: t12 :: t13 :: t14 :: t15 :: t16 :: t17 :: t18 :: t19 :: t20 :: t21 :: t22 :: t23 :: t24 :: t25 :: t26 :: t27 :: t28 :: t29 :: t30 :: t31 :: t32 :: t33 :: t34 :: t35 :: t36 :: t37 :: t38 :: t39 :: t40 :: t41 :: t42 :: t43 :: t44 :: t45 :: t46 :: t47 :: t48 :: t49 :: t50 :: t51 :: t52 :: t53 :: t54 :: t55 :: t56 :: t57 :: t58 :: t59 :: t60 :: t61 :: t62 :: t63 :: t64 :: t65 :: t66 :: t67 :: t68 :: t69 :: t70 :: t71 :: t72 :: t73 :: t74 :: t75 :: t76 :: t77 :: t78 :: t79 :: t80 :: t81 :: t82 :: t83 :: []), h⟩ =
  bp (opLen s.P 26 t1 h) fun v23 h24 =>
  bm (vBin s.P .lss 3 t8 v23) h24 fun v25 h26 =>
  cnd v25 (
  bm (vIndexAddr s.P 26 t1 t8 h26) h26 fun v27 h28 =>
  bm (vFieldAddr s.P 25 v27 0) h28 fun v29 h30 =>
  bm (vLoad s.P 3 v29 h30) h30 fun v31 h32 =>
  bm (vBin s.P .eql 3 v31 (V.lit (Value.int .i64 0))) h32 fun v33 h34 =>
  gd v33 (
  opsP (xX s 6 wl k rd) xg6_1 13 h26.length ([], []) (runK (xX s 6 wl k rd) (nextK (xX s 6 wl k rd) xl6_0 n0 K n) xk6_2) ⟨(t0 :: t1 :: t2 :: t3 :: t4 :: t5 :: t6 :: t7 :: t8 :: t9 :: t10 :: t11 :: t12 :: t13 :: t14 :: t15 :: t16 :: t17 :: t18 :: t19 :: t20 :: t21 :: t22 :: t23 :: t24 :: t25 :: t26 :: t27 :: t28 :: t29 :: t30 :: t8 :: t1 :: v23 :: v25 :: t35 :: t36 :: t1 :: t8 :: v27 :: v29 :: v31 :: v33 :: (V.lit (Value.bool true)) :: uu :: uu :: uu :: uu :: uu :: uu :: t50 :: t51 :: t52 :: t53 :: t54 :: t55 :: t56 :: t57 :: t58 :: t59 :: t60 :: t61 :: t62 :: t63 :: t64 :: t65 :: t66 :: t67 :: t68 :: t69 :: t70 :: t71 :: t72 :: t73 :: t74 :: t75 :: t76 :: t77 :: t78 :: t79 :: t80 :: t81 :: t82 :: t83 :: []), h34⟩) (
  bm (vIndexAddr s.P 26 t1 t8 h34) h34 fun v35 h36 =>
  bm (vFieldAddr s.P 25 v35 0) h36 fun v37 h38 =>
  bm (vLoad s.P 3 v37 h38) h38 fun v39 h40 =>
  bm (vBin s.P .eql 3 v39 (V.lit (Value.int .i64 3))) h40 fun v41 h42 =>
  opsP (xX s 6 wl k rd) xg6_1 13 h26.length ([], []) (runK (xX s 6 wl k rd) (nextK (xX s 6 wl k rd) xl6_0 n0 K n) xk6_2) ⟨(t0 :: t1 :: t2 :: t3 :: t4 :: t5 :: t6 :: t7 :: t8 :: t9 :: t10 :: t11 :: t12 :: t13 :: t14 :: t15 :: t16 :: t17 :: t18 :: t19 :: t20 :: t21 :: t22 :: t23 :: t24 :: t25 :: t26 :: t27 :: t28 :: t29 :: t30 :: t8 :: t1 :: v23 :: v25 :: t35 :: t36 :: t1 :: t8 :: v27 :: v29 :: v31 :: v33 :: (V.lit (Value.bool false)) :: t1 :: t8 :: v35 :: v37 :: v39 :: v41 :: t50 :: t51 :: t52 :: t53 :: t54 :: t55 :: t56 :: t57 :: t58 :: t59 :: t60 :: t61 :: t62 :: t63 :: t64 :: t65 :: t66 :: t67 :: t68 :: t69 :: t70 :: t71 :: t72 :: t73 :: t74 :: t75 :: t76 :: t77 :: t78 :: t79 :: t80 :: t81 :: t82 :: t83 :: []), h42⟩) (
  opsP (xX s 6 wl k rd) xg6_1 8 h26.length ([], []) (runK (xX s 6 wl k rd) (nextK (xX s 6 wl k rd) xl6_0 n0 K n) xk6_2) ⟨(t0 :: t1 :: t2 :: t3 :: t4 :: t5 :: t6 :: t7 :: t8 :: t9 :: t10 :: t11 :: t12 :: t13 :: t14 :: t15 :: t16 :: t17 :: t18 :: t19 :: t20 :: t21 :: t22 :: t23 :: t24 :: t25 :: t26 :: t27 :: t28 :: t29 :: t30 :: t8 :: t1 :: v23 :: v25 :: t35 :: t36 :: t1 :: t8 :: v27 :: v29 :: v31 :: v33 :: v33 :: uu :: t45 :: t46 :: t47 :: t48 :: t49 :: t50 :: t51 :: t52 :: t53 :: t54 :: t55 :: t56 :: t57 :: t58 :: t59 :: t60 :: t61 :: t62 :: t63 :: t64 :: t65 :: t66 :: t67 :: t68 :: t69 :: t70 :: t71 :: t72 :: t73 :: t74 :: t75 :: t76 :: t77 :: t78 :: t79 :: t80 :: t81 :: t82 :: t83 :: []), h34⟩)) (
  K (.exit 0) ⟨((V.kill n0 t0) :: (V.kill n0 t1) :: (V.kill n0 t2) :: (V.kill n0 t3) :: (V.kill n0 t4) :: (V.kill n0 t5) :: (V.kill n0 t6) :: (V.kill n0 t7) :: (V.kill n0 t8) :: (V.kill n0 t9) :: (V.kill n0 t10) :: (V.kill n0 t11) :: (V.kill n0 t12) :: (V.kill n0 t13) :: (V.kill n0 t14) :: (V.kill n0 t15) :: (V.kill n0 t16) :: (V.kill n0 t17) :: (V.kill n0 t18) :: (V.kill n0 t19) :: (V.kill n0 t20) :: (V.kill n0 t21) :: (V.kill n0 t22) :: (V.kill n0 t23) :: (V.kill n0 t24) :: (V.kill n0 t25) :: (V.kill n0 t26) :: (V.kill n0 t27) :: (V.kill n0 t28) :: (V.kill n0 t29) :: (V.kill n0 t30) :: .junk :: .junk :: .junk :: .junk :: .junk :: .junk :: .junk :: .junk :: .junk :: .junk :: .junk :: .junk :: .junk :: .junk :: .junk :: .junk :: .junk :: .junk :: .junk :: .junk :: .junk :: .junk :: .junk :: .junk :: .junk :: .junk :: .junk :: .junk :: .junk :: .junk :: (V.kill n0 t61) :: (V.kill n0 t62) :: (V.kill n0 t63) :: (V.kill n0 t64) :: (V.kill n0 t65) :: (V.kill n0 t66) :: (V.kill n0 t67) :: (V.kill n0 t68) :: (V.kill n0 t69) :: (V.kill n0 t70) :: (V.kill n0 t71) :: (V.kill n0 t72) :: (V.kill n0 t73) :: (V.kill n0 t74) :: (V.kill n0 t75) :: (V.kill n0 t76) :: (V.kill n0 t77) :: (V.kill n0 t78) :: (V.kill n0 t79) :: (V.kill n0 t80) :: (V.kill n0 t81) :: (V.kill n0 t82) :: (V.kill n0 t83) :: []), cutH n0 h26⟩) :=
  itX_step (go_seq (go_seq (go_reg0
  (go_op0 rfl rfl (st_id (v := t8) (H := h) (by kernel_rfl)
  (go_op0 rfl rfl (st_id (v := t1) (H := h) (by kernel_rfl)
  (go_op0 rfl rfl (st_bp (by kernel_rfl) fun v23 h24 =>
  (go_op0 rfl rfl (st_bm (by kernel_rfl) fun v25 h26 =>
  (go_end0 (by kernel_rfl)
  (go_cond (by kernel_rfl)
  (go_skip (go_seq (go_block (go_seq (go_seq (go_reg0
  (go_op0 rfl rfl (st_id (v := t1) (H := h26) (by kernel_rfl)
  (go_op0 rfl rfl (st_id (v := t8) (H := h26) (by kernel_rfl)
  (go_op0 rfl rfl (st_bm (by kernel_rfl) fun v27 h28 =>
  (go_op0 rfl rfl (st_bm (by kernel_rfl) fun v29 h30 =>
  (go_op0 rfl rfl (st_bm (by kernel_rfl) fun v31 h32 =>
  (go_op0 rfl rfl (st_bm (by kernel_rfl) fun v33 h34 =>
  (go_op0 rfl rfl (st_id (v := v33) (H := h34) (by kernel_rfl)
  (go_gdF0 rfl rfl rfl (by kernel_rfl)
  (go_skip0 rfl rfl rfl (by kernel_rfl)
  (go_skip0 rfl rfl rfl (by kernel_rfl)
  (go_skip0 rfl rfl rfl (by kernel_rfl)
  (go_skip0 rfl rfl rfl (by kernel_rfl)
  (go_skip0 rfl rfl rfl (by kernel_rfl)
  (by kernel_rfl))))))
  (st_id (v := t1) (H := h34) (by kernel_rfl)
  (go_run0 rfl rfl rfl (by kernel_rfl) (st_id (v := t8) (H := h34) (by kernel_rfl)
  (go_run0 rfl rfl rfl (by kernel_rfl) (st_bm (by kernel_rfl) fun v35 h36 =>
  (go_run0 rfl rfl rfl (by kernel_rfl) (st_bm (by kernel_rfl) fun v37 h38 =>
  (go_run0 rfl rfl rfl (by kernel_rfl) (st_bm (by kernel_rfl) fun v39 h40 =>
  (go_run0 rfl rfl rfl (by kernel_rfl) (st_bm (by kernel_rfl) fun v41 h42 =>
  (by kernel_rfl))))))))))))
  (by kernel_rfl))))))))))))))))))))))
  (go_exit (rt_seq_exit (by kernel_rfl))))))))))))))))
theorem xj6_3 (s : Sys) (k wl : Nat) (t0 t1 t2 t3 t4 t5 t6 t7 t8 t9 t10 t11 t12 t13 t14 t15 t16 t17 t18 t19 t20 t21 t22 t23 t24 t25 t26 t27 t28 t29 t30 t31 t32 t33 t34 t35 t36 t37 t38 t39 t40 t41 t42 t43 t44 t45 t46 t47 t48 t49 t50 t51 t52 t53 t54 t55 t56 t57 t58 t59 t60 t61 t62 t63 t64 t65 t66 t67 t68 t69 t70 t71 t72 t73 t74 t75 t76 t77 t78 t79 t80 t81 t82 t83 : V) (h : Hp) : runK (xX s 6 wl k false) (bodyK s.P Try.f6) xk6_1 (.exit 0) ⟨(t0 :: t1 :: t2 :: t3 :: t4 :: t5 :: t6 :: t7 :: t8 :: t9 :: t10 :: t11 :: t12 :: t13 :: t14 :: t15 :: t16 :: t17 :: t18 :: t19 :: t20 :: t21 :: t22 :: t23 :: t24 :: t25 :: t26 :: t27 :: t28 :: t29 :: t30 :: t31 :: t32 :: t33 :: t34 :: t35 :: t36 :: t37 :: t38 :: t39 :: t40 :: t41 :: t42 :: t43 :: t44 :: t45 :: t46 :: t47 :: t48 :: t49 :: t50 :: t51 :: t52 :: t53 :: t54 :: t55 :: t56 :: t57 :: t58 :: t59 :: t60 :: t61 :: t62 :: t63 :: t64 :: t65 :: t66 :: t67 :: t68 :: t69 :: t70 :: t71 :: t72 :: t73 :: t74 :: t75 :: t76 :: t77 :: t78 :: t79 :: t80 :: t81 :: t82 :: t83 :: []), h⟩ =
  bp (opApp s.P wl 26 26 .nil t1 h) fun v43 h44 =>
  bm (vBuild s.P 25 [(0, (V.lit (Value.int .i64 5)))]) h44 fun v45 h46 =>
  bp (vBuildSlice s.P wl 26 1 [(0, v45)] h46) fun v47 h48 =>
  bp (opApp s.P wl 26 26 v43 v47 h48) fun v49 h50 =>
  bp (callV (xX s 6 wl k false) false true (.fn (.func 34) [] []) [t0, v49] h50) fun v51 h52 =>
  bm (vBin s.P .geq 3 t7 (V.lit (Value.int .i64 0))) h52 fun v53 h54 =>
  gd v53 (
  bm (vBin s.P .eql 3 t7 (V.lit (Value.int .i64 0))) h54 fun v55 h56 =>
  bm (vBin s.P .eql 4 v51 v55) h56 fun v57 h58 =>
  opsP (xX s 6 wl k false) xg6_2 7 h52.length ([], []) (runK (xX s 6 wl k false) (bodyK s.P Try.f6) xk6_3) ⟨(t0 :: t1 :: t2 :: t3 :: t4 :: t5 :: t6 :: t7 :: t8 :: v51 :: t10 :: t11 :: t12 :: t13 :: t14 :: t15 :: t16 :: t17 :: t18 :: t19 :: t20 :: t21 :: t22 :: t23 :: t24 :: t25 :: t26 :: t27 :: t28 :: t29 :: t30 :: t31 :: t32 :: t33 :: t34 :: t35 :: t36 :: t37 :: t38 :: t39 :: t40 :: t41 :: t42 :: t43 :: t44 :: t45 :: t46 :: t47 :: t48 :: t49 :: t50 :: t51 :: t52 :: t53 :: t54 :: t55 :: t56 :: t57 :: t58 :: t59 :: t60 :: t0 :: t1 :: v43 :: v45 :: v47 :: v49 :: v51 :: t7 :: v53 :: (V.lit (Value.bool true)) :: v51 :: t7 :: v55 :: v57 :: t75 :: t76 :: t77 :: t78 :: t79 :: t80 :: t81 :: t82 :: t83 :: []), h58⟩) (
  opsP (xX s 6 wl k false) xg6_2 7 h52.length ([], []) (runK (xX s 6 wl k false) (bodyK s.P Try.f6) xk6_3) ⟨(t0 :: t1 :: t2 :: t3 :: t4 :: t5 :: t6 :: t7 :: t8 :: v51 :: t10 :: t11 :: t12 :: t13 :: t14 :: t15 :: t16 :: t17 :: t18 :: t19 :: t20 :: t21 :: t22 :: t23 :: t24 :: t25 :: t26 :: t27 :: t28 :: t29 :: t30 :: t31 :: t32 :: t33 :: t34 :: t35 :: t36 :: t37 :: t38 :: t39 :: t40 :: t41 :: t42 :: t43 :: t44 :: t45 :: t46 :: t47 :: t48 :: t49 :: t50 :: t51 :: t52 :: t53 :: t54 :: t55 :: t56 :: t57 :: t58 :: t59 :: t60 :: t0 :: t1 :: v43 :: v45 :: v47 :: v49 :: v51 :: t7 :: v53 :: (V.lit (Value.bool false)) :: uu :: uu :: uu :: uu :: t75 :: t76 :: t77 :: t78 :: t79 :: t80 :: t81 :: t82 :: t83 :: []), h54⟩) (
  opsP (xX s 6 wl k false) xg6_2 4 h52.length ([], []) (runK (xX s 6 wl k false) (bodyK s.P Try.f6) xk6_3) ⟨(t0 :: t1 :: t2 :: t3 :: t4 :: t5 :: t6 :: t7 :: t8 :: v51 :: t10 :: t11 :: t12 :: t13 :: t14 :: t15 :: t16 :: t17 :: t18 :: t19 :: t20 :: t21 :: t22 :: t23 :: t24 :: t25 :: t26 :: t27 :: t28 :: t29 :: t30 :: t31 :: t32 :: t33 :: t34 :: t35 :: t36 :: t37 :: t38 :: t39 :: t40 :: t41 :: t42 :: t43 :: t44 :: t45 :: t46 :: t47 :: t48 :: t49 :: t50 :: t51 :: t52 :: t53 :: t54 :: t55 :: t56 :: t57 :: t58 :: t59 :: t60 :: t0 :: t1 :: v43 :: v45 :: v47 :: v49 :: v51 :: t7 :: v53 :: v53 :: uu :: t72 :: t73 :: t74 :: t75 :: t76 :: t77 :: t78 :: t79 :: t80 :: t81 :: t82 :: t83 :: []), h54⟩) :=
  (rt_block_eq (go_seq (go_reg0
  (go_op0 rfl rfl (st_id (v := t0) (H := h) (by kernel_rfl)
  (go_op0 rfl rfl (st_id (v := t1) (H := h) (by kernel_rfl)
  (go_op0 rfl rfl (st_bp (by kernel_rfl) fun v43 h44 =>
  (go_op0 rfl rfl (st_bm (by kernel_rfl) fun v45 h46 =>
  (go_op0 rfl rfl (st_bp (by kernel_rfl) fun v47 h48 =>
  (go_op0 rfl rfl (st_bp (by kernel_rfl) fun v49 h50 =>
  (go_op0 rfl rfl (st_bp (by kernel_rfl) fun v51 h52 =>
  (go_op0 rfl rfl (st_id (v := v51) (H := h52) (by kernel_rfl)
  (go_end0 (by kernel_rfl)
  (go_seq (go_reg0
  (go_op0 rfl rfl (st_id (v := t7) (H := h52) (by kernel_rfl)
  (go_op0 rfl rfl (st_bm (by kernel_rfl) fun v53 h54 =>
  (go_op0 rfl rfl (st_id (v := v53) (H := h54) (by kernel_rfl)
  (go_gdT0 rfl rfl rfl (by kernel_rfl)
  (st_id (v := v51) (H := h54) (by kernel_rfl)
  (go_run0 rfl rfl rfl (by kernel_rfl) (st_id (v := t7) (H := h54) (by kernel_rfl)
  (go_run0 rfl rfl rfl (by kernel_rfl) (st_bm (by kernel_rfl) fun v55 h56 =>
  (go_run0 rfl rfl rfl (by kernel_rfl) (st_bm (by kernel_rfl) fun v57 h58 =>
  (by kernel_rfl))))))))
  (go_skip0 rfl rfl rfl (by kernel_rfl)
  (go_skip0 rfl rfl rfl (by kernel_rfl)
  (go_skip0 rfl rfl rfl (by kernel_rfl)
  (by kernel_rfl))))
  (by kernel_rfl))))))))))))))))))))))))))))))
theorem xm6_4 (s : Sys) (K : Out → St → Option (V × Hp)) (k wl : Nat) (rd : Bool) (n n0 : Nat) (m0 : Nat) (ac : List Nat × List Nat) (t0 t1 t2 t3 t4 t5 t6 t7 t8 t9 t10 t11 t12 t13 t14 t15 t16 t17 t18 t19 t20 t21 t22 t23 t24 t25 t26 t27 t28 t29 t30 t31 t32 t33 t34 t35 t36 t37 t38 t39 t40 t41 t42 t43 t44 t45 t46 t47 t48 t49 t50 t51 t52 t53 t54 t55 t56 t57 t58 t59 t60 t61 t62 t63 t64 t65 t66 t67 t68 t69 t70 t71 t72 t73 t74 t75 t76 t77 t78 t79 t80 t81 t82 t83 : V) (h : Hp) : opsP (xX s 6 wl k rd) xg6_1 13 m0 ac (runK (xX s 6 wl k rd) (nextK (xX s 6 wl k rd) xl6_0 n0 K n) xk6_2) ⟨(t0 :: t1 :: t2 :: t3 :: t4 :: t5 :: t6 :: t7 :: t8 :: t9 :: t10 :: t11 :: t12 :: t13 :: t14 :: t15 :: t16 :: t17 :: t18 :: t19 :: t20 :: t21 :: t22 :: t23 :: t24 :: t25 :: t26 :: t27 :: t28 :: t29 :: t30 :: t31 :: t32 :: t33 :: t34 :: t35 :: t36 :: t37 :: t38 :: t39 :: t40 :: t41 :: t42 :: t43 :: t44 :: t45 :: t46 :: t47 :: t48 :: t49 :: t50 :: t51 :: t52 :: t53 :: t54 :: t55 :: t56 :: t57 :: t58 :: t59 :: t60 :: t61 :: t62 :: t63 :: t64 :: t65 :: t66 :: t67 :: t68 :: t69 :: t70 :: t71 :: t72 :: t73 :: t74 :: t75 :: t76 :: t77 :: t78 :: t79 :: t80 :: t81 :: t82 :: t83 :: []), h⟩ =
  bm (vPick t43 (V.lit (Value.bool true)) t49) h fun v59 h60 =>
  cnd v59 (
  bm (vBin s.P .add 3 t7 (V.lit (Value.int .i64 1))) h60 fun v61 h62 =>
  runK (xX s 6 wl k rd) (nextK (xX s 6 wl k rd) xl6_0 n0 K n) xk6_4 .norm ⟨(t0 :: t1 :: t2 :: t3 :: t4 :: t5 :: t6 :: v61 :: t8 :: t9 :: t10 :: t11 :: t12 :: t13 :: t14 :: t15 :: t16 :: t17 :: t18 :: t19 :: t20 :: t21 :: t22 :: t23 :: t24 :: t25 :: t26 :: t27 :: t28 :: t29 :: t30 :: t31 :: t32 :: t33 :: t34 :: t35 :: t36 :: t37 :: t38 :: t39 :: t40 :: t41 :: t42 :: t43 :: t44 :: t45 :: t46 :: t47 :: t48 :: t49 :: v59 :: t7 :: v61 :: t53 :: t54 :: t55 :: t56 :: t57 :: t58 :: t59 :: t60 :: t61 :: t62 :: t63 :: t64 :: t65 :: t66 :: t67 :: t68 :: t69 :: t70 :: t71 :: t72 :: t73 :: t74 :: t75 :: t76 :: t77 :: t78 :: t79 :: t80 :: t81 :: t82 :: t83 :: []), h62⟩) (
  runK (xX s 6 wl k rd) (nextK (xX s 6 wl k rd) xl6_0 n0 K n) xk6_4 .norm ⟨(t0 :: t1 :: t2 :: t3 :: t4 :: t5 :: t6 :: t7 :: t8 :: t9 :: t10 :: t11 :: t12 :: t13 :: t14 :: t15 :: t16 :: t17 :: t18 :: t19 :: t20 :: t21 :: t22 :: t23 :: t24 :: t25 :: t26 :: t27 :: t28 :: t29 :: t30 :: t31 :: t32 :: t33 :: t34 :: t35 :: t36 :: t37 :: t38 :: t39 :: t40 :: t41 :: t42 :: t43 :: t44 :: t45 :: t46 :: t47 :: t48 :: t49 :: v59 :: t51 :: t52 :: t53 :: t54 :: t55 :: t56 :: t57 :: t58 :: t59 :: t60 :: t61 :: t62 :: t63 :: t64 :: t65 :: t66 :: t67 :: t68 :: t69 :: t70 :: t71 :: t72 :: t73 :: t74 :: t75 :: t76 :: t77 :: t78 :: t79 :: t80 :: t81 :: t82 :: t83 :: []), h60⟩) :=
  (go_op0 rfl rfl (st_bm (by kernel_rfl) fun v59 h60 =>
  (go_end0 (by kernel_rfl)
  (go_cond (by kernel_rfl)
  (go_reg0
  (go_op0 rfl rfl (st_id (v := t7) (H := h60) (by kernel_rfl)
  (go_op0 rfl rfl (st_bm (by kernel_rfl) fun v61 h62 =>
  (go_op0 rfl rfl (st_id (v := v61) (H := h62) (by kernel_rfl)
  (go_end0 (by kernel_rfl)
  (by kernel_rfl)))))))))
  (go_skip (by kernel_rfl))))))
theorem xm6_5 (s : Sys) (k wl : Nat) (m0 : Nat) (ac : List Nat × List Nat) (t0 t1 t2 t3 t4 t5 t6 t7 t8 t9 t10 t11 t12 t13 t14 t15 t16 t17 t18 t19 t20 t21 t22 t23 t24 t25 t26 t27 t28 t29 t30 t31 t32 t33 t34 t35 t36 t37 t38 t39 t40 t41 t42 t43 t44 t45 t46 t47 t48 t49 t50 t51 t52 t53 t54 t55 t56 t57 t58 t59 t60 t61 t62 t63 t64 t65 t66 t67 t68 t69 t70 t71 t72 t73 t74 t75 t76 t77 t78 t79 t80 t81 t82 t83 : V) (h : Hp) : opsP (xX s 6 wl k false) xg6_2 7 m0 ac (runK (xX s 6 wl k false) (bodyK s.P Try.f6) xk6_3) ⟨(t0 :: t1 :: t2 :: t3 :: t4 :: t5 :: t6 :: t7 :: t8 :: t9 :: t10 :: t11 :: t12 :: t13 :: t14 :: t15 :: t16 :: t17 :: t18 :: t19 :: t20 :: t21 :: t22 :: t23 :: t24 :: t25 :: t26 :: t27 :: t28 :: t29 :: t30 :: t31 :: t32 :: t33 :: t34 :: t35 :: t36 :: t37 :: t38 :: t39 :: t40 :: t41 :: t42 :: t43 :: t44 :: t45 :: t46 :: t47 :: t48 :: t49 :: t50 :: t51 :: t52 :: t53 :: t54 :: t55 :: t56 :: t57 :: t58 :: t59 :: t60 :: t61 :: t62 :: t63 :: t64 :: t65 :: t66 :: t67 :: t68 :: t69 :: t70 :: t71 :: t72 :: t73 :: t74 :: t75 :: t76 :: t77 :: t78 :: t79 :: t80 :: t81 :: t82 :: t83 :: []), h⟩ =
  bm (vPick t70 t74 (V.lit (Value.bool false))) h fun v63 h64 =>
  gd v63 (
  bp (callV (xX s 6 wl k false) false true (.fn (.func 30) [] []) [t0, t1] h64) fun v65 h66 =>
  bp (callV (xX s 6 wl k false) false true (.fn (.func 35) [] []) [v65] h66) fun v67 h68 =>
  bm (vBin s.P .eql 4 v67 t9) h68 fun v69 h70 =>
  opsP (xX s 6 wl k false) xg6_2 15 m0 ac (runK (xX s 6 wl k false) (bodyK s.P Try.f6) xk6_3) ⟨(t0 :: t1 :: t2 :: t3 :: t4 :: t5 :: t6 :: t7 :: t8 :: t9 :: t10 :: t11 :: t12 :: t13 :: t14 :: t15 :: t16 :: t17 :: t18 :: t19 :: t20 :: t21 :: t22 :: t23 :: t24 :: t25 :: t26 :: t27 :: t28 :: t29 :: t30 :: t31 :: t32 :: t33 :: t34 :: t35 :: t36 :: t37 :: t38 :: t39 :: t40 :: t41 :: t42 :: t43 :: t44 :: t45 :: t46 :: t47 :: t48 :: t49 :: t50 :: t51 :: t52 :: t53 :: t54 :: t55 :: t56 :: t57 :: t58 :: t59 :: t60 :: t61 :: t62 :: t63 :: t64 :: t65 :: t66 :: t67 :: t68 :: t69 :: t70 :: t71 :: t72 :: t73 :: t74 :: v63 :: (V.lit (Value.bool true)) :: t0 :: t1 :: v65 :: v67 :: t9 :: v69 :: t83 :: []), h70⟩) (
  opsP (xX s 6 wl k false) xg6_2 15 m0 ac (runK (xX s 6 wl k false) (bodyK s.P Try.f6) xk6_3) ⟨(t0 :: t1 :: t2 :: t3 :: t4 :: t5 :: t6 :: t7 :: t8 :: t9 :: t10 :: t11 :: t12 :: t13 :: t14 :: t15 :: t16 :: t17 :: t18 :: t19 :: t20 :: t21 :: t22 :: t23 :: t24 :: t25 :: t26 :: t27 :: t28 :: t29 :: t30 :: t31 :: t32 :: t33 :: t34 :: t35 :: t36 :: t37 :: t38 :: t39 :: t40 :: t41 :: t42 :: t43 :: t44 :: t45 :: t46 :: t47 :: t48 :: t49 :: t50 :: t51 :: t52 :: t53 :: t54 :: t55 :: t56 :: t57 :: t58 :: t59 :: t60 :: t61 :: t62 :: t63 :: t64 :: t65 :: t66 :: t67 :: t68 :: t69 :: t70 :: t71 :: t72 :: t73 :: t74 :: v63 :: (V.lit (Value.bool false)) :: uu :: uu :: uu :: uu :: uu :: uu :: t83 :: []), h64⟩) (
  opsP (xX s 6 wl k false) xg6_2 10 m0 ac (runK (xX s 6 wl k false) (bodyK s.P Try.f6) xk6_3) ⟨(t0 :: t1 :: t2 :: t3 :: t4 :: t5 :: t6 :: t7 :: t8 :: t9 :: t10 :: t11 :: t12 :: t13 :: t14 :: t15 :: t16 :: t17 :: t18 :: t19 :: t20 :: t21 :: t22 :: t23 :: t24 :: t25 :: t26 :: t27 :: t28 :: t29 :: t30 :: t31 :: t32 :: t33 :: t34 :: t35 :: t36 :: t37 :: t38 :: t39 :: t40 :: t41 :: t42 :: t43 :: t44 :: t45 :: t46 :: t47 :: t48 :: t49 :: t50 :: t51 :: t52 :: t53 :: t54 :: t55 :: t56 :: t57 :: t58 :: t59 :: t60 :: t61 :: t62 :: t63 :: t64 :: t65 :: t66 :: t67 :: t68 :: t69 :: t70 :: t71 :: t72 :: t73 :: t74 :: v63 :: v63 :: uu :: t78 :: t79 :: t80 :: t81 :: t82 :: t83 :: []), h64⟩) :=
  (go_op0 rfl rfl (st_bm (by kernel_rfl) fun v63 h64 =>
  (go_op0 rfl rfl (st_id (v := v63) (H := h64) (by kernel_rfl)
  (go_gdT0 rfl rfl rfl (by kernel_rfl)
  (st_id (v := t0) (H := h64) (by kernel_rfl)
  (go_run0 rfl rfl rfl (by kernel_rfl) (st_id (v := t1) (H := h64) (by kernel_rfl)
  (go_run0 rfl rfl rfl (by kernel_rfl) (st_bp (by kernel_rfl) fun v65 h66 =>
  (go_run0 rfl rfl rfl (by kernel_rfl) (st_bp (by kernel_rfl) fun v67 h68 =>
  (go_run0 rfl rfl rfl (by kernel_rfl) (st_id (v := t9) (H := h68) (by kernel_rfl)
  (go_run0 rfl rfl rfl (by kernel_rfl) (st_bm (by kernel_rfl) fun v69 h70 =>
  (by kernel_rfl))))))))))))
  (go_skip0 rfl rfl rfl (by kernel_rfl)
  (go_skip0 rfl rfl rfl (by kernel_rfl)
  (go_skip0 rfl rfl rfl (by kernel_rfl)
  (go_skip0 rfl rfl rfl (by kernel_rfl)
  (go_skip0 rfl rfl rfl (by kernel_rfl)
  (by kernel_rfl))))))
  (by kernel_rfl))))))
theorem xj6_6 (s : Sys) (K : Out → St → Option (V × Hp)) (k wl : Nat) (rd : Bool) (n n0 : Nat) (t0 t1 t2 t3 t4 t5 t6 t7 t8 t9 t10 t11 t12 t13 t14 t15 t16 t17 t18 t19 t20 t21 t22 t23 t24 t25 t26 t27 t28 t29 t30 t31 t32 t33 t34 t35 t36 t37 t38 t39 t40 t41 t42 t43 t44 t45 t46 t47 t48 t49 t50 t51 t52 t53 t54 t55 t56 t57 t58 t59 t60 t61 t62 t63 t64 t65 t66 t67 t68 t69 t70 t71 t72 t73 t74 t75 t76 t77 t78 t79 t80 t81 t82 t83 : V) (h : Hp) : runK (xX s 6 wl k rd) (nextK (xX s 6 wl k rd) xl6_0 n0 K n) xk6_4 .norm ⟨(t0 :: t1 :: t2 :: t3 :: t4 :: t5 :: t6 :: t7 :: t8 :: t9 :: t10 :: t11 :: t12 :: t13 :: t14 :: t15 :: t16 :: t17 :: t18 :: t19 :: t20 :: t21 :: t22 :: t23 :: t24 :: t25 :: t26 :: t27 :: t28 :: t29 :: t30 :: t31 :: t32 :: t33 :: t34 :: t35 :: t36 :: t37 :: t38 :: t39 :: t40 :: t41 :: t42 :: t43 :: t44 :: t45 :: t46 :: t47 :: t48 :: t49 :: t50 :: t51 :: t52 :: t53 :: t54 :: t55 :: t56 :: t57 :: t58 :: t59 :: t60 :: t61 :: t62 :: t63 :: t64 :: t65 :: t66 :: t67 :: t68 :: t69 :: t70 :: t71 :: t72 :: t73 :: t74 :: t75 :: t76 :: t77 :: t78 :: t79 :: t80 :: t81 :: t82 :: t83 :: []), h⟩ =
  bm (vIndexAddr s.P 26 t1 t8 h) h fun v71 h72 =>
  bm (vFieldAddr s.P 25 v71 0) h72 fun v73 h74 =>
  bm (vLoad s.P 3 v73 h74) h74 fun v75 h76 =>
  bm (vBin s.P .eql 3 v75 (V.lit (Value.int .i64 4))) h76 fun v77 h78 =>
  cnd v77 (
  bm (vBin s.P .sub 3 t7 (V.lit (Value.int .i64 1))) h78 fun v79 h80 =>
  runK (xX s 6 wl k rd) (nextK (xX s 6 wl k rd) xl6_0 n0 K n) xk6_5 .norm ⟨(t0 :: t1 :: t2 :: t3 :: t4 :: t5 :: t6 :: v79 :: t8 :: t9 :: t10 :: t11 :: t12 :: t13 :: t14 :: t15 :: t16 :: t17 :: t18 :: t19 :: t20 :: t21 :: t22 :: t23 :: t24 :: t25 :: t26 :: t27 :: t28 :: t29 :: t30 :: t31 :: t32 :: t33 :: t34 :: t35 :: t36 :: t37 :: t38 :: t39 :: t40 :: t41 :: t42 :: t43 :: t44 :: t45 :: t46 :: t47 :: t48 :: t49 :: t50 :: t51 :: t52 :: t1 :: t8 :: v71 :: v73 :: v75 :: v77 :: t7 :: v79 :: t61 :: t62 :: t63 :: t64 :: t65 :: t66 :: t67 :: t68 :: t69 :: t70 :: t71 :: t72 :: t73 :: t74 :: t75 :: t76 :: t77 :: t78 :: t79 :: t80 :: t81 :: t82 :: t83 :: []), h80⟩) (
  runK (xX s 6 wl k rd) (nextK (xX s 6 wl k rd) xl6_0 n0 K n) xk6_5 .norm ⟨(t0 :: t1 :: t2 :: t3 :: t4 :: t5 :: t6 :: t7 :: t8 :: t9 :: t10 :: t11 :: t12 :: t13 :: t14 :: t15 :: t16 :: t17 :: t18 :: t19 :: t20 :: t21 :: t22 :: t23 :: t24 :: t25 :: t26 :: t27 :: t28 :: t29 :: t30 :: t31 :: t32 :: t33 :: t34 :: t35 :: t36 :: t37 :: t38 :: t39 :: t40 :: t41 :: t42 :: t43 :: t44 :: t45 :: t46 :: t47 :: t48 :: t49 :: t50 :: t51 :: t52 :: t1 :: t8 :: v71 :: v73 :: v75 :: v77 :: t59 :: t60 :: t61 :: t62 :: t63 :: t64 :: t65 :: t66 :: t67 :: t68 :: t69 :: t70 :: t71 :: t72 :: t73 :: t74 :: t75 :: t76 :: t77 :: t78 :: t79 :: t80 :: t81 :: t82 :: t83 :: []), h78⟩) :=
  (go_seq (go_reg0
  (go_op0 rfl rfl (st_id (v := t1) (H := h) (by kernel_rfl)
  (go_op0 rfl rfl (st_id (v := t8) (H := h) (by kernel_rfl)
  (go_op0 rfl rfl (st_bm (by kernel_rfl) fun v71 h72 =>
  (go_op0 rfl rfl (st_bm (by kernel_rfl) fun v73 h74 =>
  (go_op0 rfl rfl (st_bm (by kernel_rfl) fun v75 h76 =>
  (go_op0 rfl rfl (st_bm (by kernel_rfl) fun v77 h78 =>
  (go_end0 (by kernel_rfl)
  (go_cond (by kernel_rfl)
  (go_reg0
  (go_op0 rfl rfl (st_id (v := t7) (H := h78) (by kernel_rfl)
  (go_op0 rfl rfl (st_bm (by kernel_rfl) fun v79 h80 =>
  (go_op0 rfl rfl (st_id (v := v79) (H := h80) (by kernel_rfl)
  (go_end0 (by kernel_rfl)
  (by kernel_rfl)))))))))
  (go_skip (by kernel_rfl))))))))))))))))))
theorem xm6_7 (s : Sys) (k wl : Nat) (m0 : Nat) (ac : List Nat × List Nat) (t0 t1 t2 t3 t4 t5 t6 t7 t8 t9 t10 t11 t12 t13 t14 t15 t16 t17 t18 t19 t20 t21 t22 t23 t24 t25 t26 t27 t28 t29 t30 t31 t32 t33 t34 t35 t36 t37 t38 t39 t40 t41 t42 t43 t44 t45 t46 t47 t48 t49 t50 t51 t52 t53 t54 t55 t56 t57 t58 t59 t60 t61 t62 t63 t64 t65 t66 t67 t68 t69 t70 t71 t72 t73 t74 t75 t76 t77 t78 t79 t80 t81 t82 t83 : V) (h : Hp) : opsP (xX s 6 wl k false) xg6_2 15 m0 ac (runK (xX s 6 wl k false) (bodyK s.P Try.f6) xk6_3) ⟨(t0 :: t1 :: t2 :: t3 :: t4 :: t5 :: t6 :: t7 :: t8 :: t9 :: t10 :: t11 :: t12 :: t13 :: t14 :: t15 :: t16 :: t17 :: t18 :: t19 :: t20 :: t21 :: t22 :: t23 :: t24 :: t25 :: t26 :: t27 :: t28 :: t29 :: t30 :: t31 :: t32 :: t33 :: t34 :: t35 :: t36 :: t37 :: t38 :: t39 :: t40 :: t41 :: t42 :: t43 :: t44 :: t45 :: t46 :: t47 :: t48 :: t49 :: t50 :: t51 :: t52 :: t53 :: t54 :: t55 :: t56 :: t57 :: t58 :: t59 :: t60 :: t61 :: t62 :: t63 :: t64 :: t65 :: t66 :: t67 :: t68 :: t69 :: t70 :: t71 :: t72 :: t73 :: t74 :: t75 :: t76 :: t77 :: t78 :: t79 :: t80 :: t81 :: t82 :: t83 :: []), h⟩ =
  bm (vPick t76 t82 (V.lit (Value.bool false))) h fun v81 h82 =>
  some (v81, h82) :=
  (go_op0 rfl rfl (st_bm (by kernel_rfl) fun v81 h82 =>
  (go_op0 rfl rfl (st_id (v := v81) (H := h82) (by kernel_rfl)
  (go_end0 (by kernel_rfl)
  (go_ret (by kernel_rfl)))))))
theorem xj6_8 (s : Sys) (K : Out → St → Option (V × Hp)) (k wl : Nat) (rd : Bool) (n n0 : Nat) (t0 t1 t2 t3 t4 t5 t6 t7 t8 t9 t10 t11 t12 t13 t14 t15 t16 t17 t18 t19 t20 t21 t22 t23 t24 t25 t26 t27 t28 t29 t30 t31 t32 t33 t34 t35 t36 t37 t38 t39 t40 t41 t42 t43 t44 t45 t46 t47 t48 t49 t50 t51 t52 t53 t54 t55 t56 t57 t58 t59 t60 t61 t62 t63 t64 t65 t66 t67 t68 t69 t70 t71 t72 t73 t74 t75 t76 t77 t78 t79 t80 t81 t82 t83 : V) (h : Hp) : runK (xX s 6 wl k rd) (nextK (xX s 6 wl k rd) xl6_0 n0 K n) xk6_5 .norm ⟨(t0 :: t1 :: t2 :: t3 :: t4 :: t5 :: t6 :: t7 :: t8 :: t9 :: t10 :: t11 :: t12 :: t13 :: t14 :: t15 :: t16 :: t17 :: t18 :: t19 :: t20 :: t21 :: t22 :: t23 :: t24 :: t25 :: t26 :: t27 :: t28 :: t29 :: t30 :: t31 :: t32 :: t33 :: t34 :: t35 :: t36 :: t37 :: t38 :: t39 :: t40 :: t41 :: t42 :: t43 :: t44 :: t45 :: t46 :: t47 :: t48 :: t49 :: t50 :: t51 :: t52 :: t53 :: t54 :: t55 :: t56 :: t57 :: t58 :: t59 :: t60 :: t61 :: t62 :: t63 :: t64 :: t65 :: t66 :: t67 :: t68 :: t69 :: t70 :: t71 :: t72 :: t73 :: t74 :: t75 :: t76 :: t77 :: t78 :: t79 :: t80 :: t81 :: t82 :: t83 :: []), h⟩ =
  bm (vBin s.P .add 3 t8 (V.lit (Value.int .i64 1))) h fun v83 h84 =>
  itX (xX s 6 wl k rd) xl6_0 n0 K n ⟨((V.kill n0 t0) :: (V.kill n0 t1) :: (V.kill n0 t2) :: (V.kill n0 t3) :: (V.kill n0 t4) :: (V.kill n0 t5) :: (V.kill n0 t6) :: (V.kill n0 t7) :: (V.kill n0 v83) :: (V.kill n0 t9) :: (V.kill n0 t10) :: (V.kill n0 t11) :: (V.kill n0 t12) :: (V.kill n0 t13) :: (V.kill n0 t14) :: (V.kill n0 t15) :: (V.kill n0 t16) :: (V.kill n0 t17) :: (V.kill n0 t18) :: (V.kill n0 t19) :: (V.kill n0 t20) :: (V.kill n0 t21) :: (V.kill n0 t22) :: (V.kill n0 t23) :: (V.kill n0 t24) :: (V.kill n0 t25) :: (V.kill n0 t26) :: (V.kill n0 t27) :: (V.kill n0 t28) :: (V.kill n0 t29) :: (V.kill n0 t30) :: .junk :: .junk :: .junk :: .junk :: .junk :: .junk :: .junk :: .junk :: .junk :: .junk :: .junk :: .junk :: .junk :: .junk :: .junk :: .junk :: .junk :: .junk :: .junk :: .junk :: .junk :: .junk :: .junk :: .junk :: .junk :: .junk :: .junk :: .junk :: .junk :: .junk :: (V.kill n0 t61) :: (V.kill n0 t62) :: (V.kill n0 t63) :: (V.kill n0 t64) :: (V.kill n0 t65) :: (V.kill n0 t66) :: (V.kill n0 t67) :: (V.kill n0 t68) :: (V.kill n0 t69) :: (V.kill n0 t70) :: (V.kill n0 t71) :: (V.kill n0 t72) :: (V.kill n0 t73) :: (V.kill n0 t74) :: (V.kill n0 t75) :: (V.kill n0 t76) :: (V.kill n0 t77) :: (V.kill n0 t78) :: (V.kill n0 t79) :: (V.kill n0 t80) :: (V.kill n0 t81) :: (V.kill n0 t82) :: (V.kill n0 t83) :: []), cutH n0 h84⟩ :=
  (rt_block_norm (go_reg0
  (go_op0 rfl rfl (st_id (v := t8) (H := h) (by kernel_rfl)
  (go_op0 rfl rfl (st_bm (by kernel_rfl) fun v83 h84 =>
  (go_op0 rfl rfl (st_id (v := v83) (H := h84) (by kernel_rfl)
  (go_end0 (by kernel_rfl)
  (by kernel_rfl))))))))))
theorem xk6_0_ret (cx : Cx) (K : Out → St → Option (V × Hp)) (s : St) : runK cx K xk6_0 .ret s = K .ret s := by kernel_rfl
theorem xk6_1_ret (cx : Cx) (K : Out → St → Option (V × Hp)) (s : St) : runK cx K xk6_1 .ret s = K .ret s := by kernel_rfl
theorem xk6_2_ret (cx : Cx) (K : Out → St → Option (V × Hp)) (s : St) : runK cx K xk6_2 .ret s = K .ret s := by kernel_rfl
theorem xk6_3_ret (cx : Cx) (K : Out → St → Option (V × Hp)) (s : St) : runK cx K xk6_3 .ret s = K .ret s := by kernel_rfl
theorem xk6_4_ret (cx : Cx) (K : Out → St → Option (V × Hp)) (s : St) : runK cx K xk6_4 .ret s = K .ret s := by kernel_rfl
theorem xk6_5_ret (cx : Cx) (K : Out → St → Option (V × Hp)) (s : St) : runK cx K xk6_5 .ret s = K .ret s := by kernel_rfl
-- names: xb6, xz6, xm6_0, xm6_1, xm6_2, xr6_0, xj6_3, xm6_4, xm6_5, xj6_6, xm6_7, xj6_8, xk6_0_ret, xk6_1_ret, xk6_2_ret, xk6_3_ret, xk6_4_ret, xk6_5_ret
end Go.Ab
