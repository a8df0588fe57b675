/- The program's code, point by point: printed by gen.py. -/
import Derived.Test.YthnifkacfonhgaaR2Seat
set_option linter.unusedVariables false
set_option linter.unusedSimpArgs false
set_option maxRecDepth 100000
set_option linter.unusedVariables false
namespace Go.Ab
open Go.Proofs
/-! 14 poacher/poacherlaw16.EventSigns: 0 calls, 1 who, 2 w, 3 calls, 4 who, 5 w, 7 up, 8 few, 9 m, 10 _, 11 at, 12 n, 13 f, 14 c -/
noncomputable def xg14_0 : Code := codeAt (bodyOf Try.f14) [1, 1, 1, 0, 0]
noncomputable def xk14_0 : List Fr := [.seq (codeAt (bodyOf Try.f14) [1, 1, 1, 0, 1]), .seq (codeAt (bodyOf Try.f14) [1, 1, 1, 1])]
noncomputable def xg14_1 : Code := codeAt (bodyOf Try.f14) [1, 1, 1, 1, 1, 1, 0, 1, 0, 0]
noncomputable def xk14_1 : List Fr := [.seq (codeAt (bodyOf Try.f14) [1, 1, 1, 1, 1, 1, 0, 1, 0, 1]), .seq (codeAt (bodyOf Try.f14) [1, 1, 1, 1, 1, 1, 1])]
noncomputable def xg14_2 : Code := codeAt (bodyOf Try.f14) [1, 1, 1, 1, 1, 1, 1, 1, 0, 0]
noncomputable def xk14_2 : List Fr := [.seq (codeAt (bodyOf Try.f14) [1, 1, 1, 1, 1, 1, 1, 1, 0, 1]), .seq (codeAt (bodyOf Try.f14) [1, 1, 1, 1, 1, 1, 1, 1, 1])]
noncomputable def xg14_3 : Code := codeAt (bodyOf Try.f14) [1, 1, 1, 1, 1, 1, 1, 1, 1, 1, 0]
noncomputable def xk14_3 : List Fr := [.seq (codeAt (bodyOf Try.f14) [1, 1, 1, 1, 1, 1, 1, 1, 1, 1, 1])]
theorem xb14 (s : Sys) (k wl : Nat) (t0 t1 t2 : V) (h : Hp) : bodyV (xX s 14 wl k false) Try.f14 [t0, t1, t2] h =
  bp (callV (xX s 14 wl k false) false true (.fn (.func 44) [] []) [] h) fun v1 h2 =>
  bp (callV (xX s 14 wl k false) false true (.fn (.func 45) [] []) [t0] h2) fun v3 h4 =>
  bm (vUn .not v1) h4 fun v5 h6 =>
  gd v5 (
  opsP (xX s 14 wl k false) xg14_0 5 h4.length ([], []) (runK (xX s 14 wl k false) (bodyK s.P Try.f14) xk14_0) ⟨(t0 :: t1 :: t2 :: uu :: uu :: uu :: (V.lit (Value.bool false)) :: v1 :: v3 :: uu :: uu :: uu :: uu :: uu :: uu :: v1 :: t0 :: v3 :: v1 :: v5 :: (V.lit (Value.bool true)) :: uu :: uu :: uu :: uu :: uu :: uu :: uu :: uu :: uu :: uu :: uu :: uu :: uu :: uu :: uu :: uu :: uu :: uu :: uu :: uu :: uu :: uu :: uu :: uu :: uu :: uu :: uu :: uu :: uu :: uu :: uu :: uu :: uu :: uu :: uu :: uu :: uu :: uu :: uu :: uu :: uu :: uu :: uu :: uu :: uu :: uu :: uu :: uu :: uu :: uu :: uu :: uu :: uu :: uu :: uu :: uu :: uu :: uu :: uu :: uu :: uu :: uu :: uu :: uu :: uu :: uu :: uu :: uu :: uu :: uu :: uu :: uu :: uu :: uu :: uu :: uu :: uu :: uu :: []), h6⟩) (
  bm (vUn .not v3) h6 fun v7 h8 =>
  opsP (xX s 14 wl k false) xg14_0 5 h4.length ([], []) (runK (xX s 14 wl k false) (bodyK s.P Try.f14) xk14_0) ⟨(t0 :: t1 :: t2 :: uu :: uu :: uu :: (V.lit (Value.bool false)) :: v1 :: v3 :: uu :: uu :: uu :: uu :: uu :: uu :: v1 :: t0 :: v3 :: v1 :: v5 :: (V.lit (Value.bool false)) :: v3 :: v7 :: uu :: uu :: uu :: uu :: uu :: uu :: uu :: uu :: uu :: uu :: uu :: uu :: uu :: uu :: uu :: uu :: uu :: uu :: uu :: uu :: uu :: uu :: uu :: uu :: uu :: uu :: uu :: uu :: uu :: uu :: uu :: uu :: uu :: uu :: uu :: uu :: uu :: uu :: uu :: uu :: uu :: uu :: uu :: uu :: uu :: uu :: uu :: uu :: uu :: uu :: uu :: uu :: uu :: uu :: uu :: uu :: uu :: uu :: uu :: uu :: uu :: uu :: uu :: uu :: uu :: uu :: uu :: uu :: uu :: uu :: uu :: uu :: uu :: uu :: uu :: uu :: []), h8⟩) (
  opsP (xX s 14 wl k false) xg14_0 4 h4.length ([], []) (runK (xX s 14 wl k false) (bodyK s.P Try.f14) xk14_0) ⟨(t0 :: t1 :: t2 :: uu :: uu :: uu :: (V.lit (Value.bool false)) :: v1 :: v3 :: uu :: uu :: uu :: uu :: uu :: uu :: v1 :: t0 :: v3 :: v1 :: v5 :: v5 :: uu :: uu :: uu :: uu :: uu :: uu :: uu :: uu :: uu :: uu :: uu :: uu :: uu :: uu :: uu :: uu :: uu :: uu :: uu :: uu :: uu :: uu :: uu :: uu :: uu :: uu :: uu :: uu :: uu :: uu :: uu :: uu :: uu :: uu :: uu :: uu :: uu :: uu :: uu :: uu :: uu :: uu :: uu :: uu :: uu :: uu :: uu :: uu :: uu :: uu :: uu :: uu :: uu :: uu :: uu :: uu :: uu :: uu :: uu :: uu :: uu :: uu :: uu :: uu :: uu :: uu :: uu :: uu :: uu :: uu :: uu :: uu :: uu :: uu :: uu :: uu :: uu :: uu :: []), h6⟩) :=
  bodyV_run rfl (go_seq (go_reg0
  (go_op0 rfl rfl (st_id (v := (V.lit (Value.bool false))) (H := h) (by kernel_rfl)
  (go_end0 (by kernel_rfl)
  (go_seq (go_reg0
  (go_op0 rfl rfl (st_bp (by kernel_rfl) fun v1 h2 =>
  (go_op0 rfl rfl (st_id (v := v1) (H := h2) (by kernel_rfl)
  (go_end0 (by kernel_rfl)
  (go_seq (go_reg0
  (go_op0 rfl rfl (st_id (v := t0) (H := h2) (by kernel_rfl)
  (go_op0 rfl rfl (st_bp (by kernel_rfl) fun v3 h4 =>
  (go_op0 rfl rfl (st_id (v := v3) (H := h4) (by kernel_rfl)
  (go_end0 (by kernel_rfl)
  (go_seq (go_seq (go_reg0
  (go_op0 rfl rfl (st_id (v := v1) (H := h4) (by kernel_rfl)
  (go_op0 rfl rfl (st_bm (by kernel_rfl) fun v5 h6 =>
  (go_op0 rfl rfl (st_id (v := v5) (H := h6) (by kernel_rfl)
  (go_gdF0 rfl rfl rfl (by kernel_rfl)
  (go_skip0 rfl rfl rfl (by kernel_rfl)
  (by kernel_rfl))
  (st_id (v := v3) (H := h6) (by kernel_rfl)
  (go_run0 rfl rfl rfl (by kernel_rfl) (st_bm (by kernel_rfl) fun v7 h8 =>
  (by kernel_rfl))))
  (by kernel_rfl))))))))))))))))))))))))))))))))
theorem xe14 (k wl : Nat) (t0 t1 t2 : V) (h : Hp) : evF Try.prog xM (k + 1) wl 14 [t0, t1, t2] h = bodyV (xX (xS k) 14 wl k false) Try.f14 [t0, t1, t2] h := by kernel_rfl
theorem xm14_0 (s : Sys) (k wl : Nat) (m0 : Nat) (ac : List Nat × List Nat) (t0 t1 t2 t3 t4 t5 t6 t7 t8 t9 t10 t11 t12 t13 t14 t15 t16 t17 t18 t19 t20 t21 t22 t23 t24 t25 t26 t27 t28 t29 t30 t31 t32 t33 t34 t35 t36 t37 t38 t39 t40 t41 t42 t43 t44 t45 t46 t47 t48 t49 t50 t51 t52 t53 t54 t55 t56 t57 t58 t59 t60 t61 t62 t63 t64 t65 t66 t67 t68 t69 t70 t71 t72 t73 t74 t75 t76 t77 t78 t79 t80 t81 t82 t83 t84 t85 t86 t87 t88 t89 t90 t91 t92 t93 t94 t95 t96 t97 t98 : V) (h : Hp) : opsP (xX s 14 wl k false) xg14_0 5 m0 ac (runK (xX s 14 wl k false) (bodyK s.P Try.f14) xk14_0) ⟨(t0 :: t1 :: t2 :: t3 :: t4 :: t5 :: t6 :: t7 :: t8 :: t9 :: t10 :: t11 :: t12 :: t13 :: t14 :: t15 :: t16 :: t17 :: t18 :: t19 :: t20 :: t21 :: t22 :: t23 :: t24 :: t25 :: t26 :: t27 :: t28 :: t29 :: t30 :: t31 :: t32 :: t33 :: t34 :: t35 :: t36 :: t37 :: t38 :: t39 :: t40 :: t41 :: t42 :: t43 :: t44 :: t45 :: t46 :: t47 :: t48 :: t49 :: t50 :: t51 :: t52 :: t53 :: t54 :: t55 :: t56 :: t57 :: t58 :: t59 :: t60 :: t61 :: t62 :: t63 :: t64 :: t65 :: t66 :: t67 :: t68 :: t69 :: t70 :: t71 :: t72 :: t73 :: t74 :: t75 :: t76 :: t77 :: t78 :: t79 :: t80 :: t81 :: t82 :: t83 :: t84 :: t85 :: t86 :: t87 :: t88 :: t89 :: t90 :: t91 :: t92 :: t93 :: t94 :: t95 :: t96 :: t97 :: t98 :: []), h⟩ =
  bm (vPick t20 (V.lit (Value.bool true)) t22) h fun v9 h10 =>
  gd v9 (
  opsP (xX s 14 wl k false) xg14_0 10 m0 ac (runK (xX s 14 wl k false) (bodyK s.P Try.f14) xk14_0) ⟨(t0 :: t1 :: t2 :: t3 :: t4 :: t5 :: t6 :: t7 :: t8 :: t9 :: t10 :: t11 :: t12 :: t13 :: t14 :: t15 :: t16 :: t17 :: t18 :: t19 :: t20 :: t21 :: t22 :: v9 :: (V.lit (Value.bool true)) :: uu :: uu :: uu :: t28 :: t29 :: t30 :: t31 :: t32 :: t33 :: t34 :: t35 :: t36 :: t37 :: t38 :: t39 :: t40 :: t41 :: t42 :: t43 :: t44 :: t45 :: t46 :: t47 :: t48 :: t49 :: t50 :: t51 :: t52 :: t53 :: t54 :: t55 :: t56 :: t57 :: t58 :: t59 :: t60 :: t61 :: t62 :: t63 :: t64 :: t65 :: t66 :: t67 :: t68 :: t69 :: t70 :: t71 :: t72 :: t73 :: t74 :: t75 :: t76 :: t77 :: t78 :: t79 :: t80 :: t81 :: t82 :: t83 :: t84 :: t85 :: t86 :: t87 :: t88 :: t89 :: t90 :: t91 :: t92 :: t93 :: t94 :: t95 :: t96 :: t97 :: t98 :: []), h10⟩) (
  bp (opLen s.P 51 t1 h10) fun v11 h12 =>
  bm (vBin s.P .gtr 3 v11 (V.lit (Value.int .i64 500))) h12 fun v13 h14 =>
  opsP (xX s 14 wl k false) xg14_0 10 m0 ac (runK (xX s 14 wl k false) (bodyK s.P Try.f14) xk14_0) ⟨(t0 :: t1 :: t2 :: t3 :: t4 :: t5 :: t6 :: t7 :: t8 :: t9 :: t10 :: t11 :: t12 :: t13 :: t14 :: t15 :: t16 :: t17 :: t18 :: t19 :: t20 :: t21 :: t22 :: v9 :: (V.lit (Value.bool false)) :: t1 :: v11 :: v13 :: t28 :: t29 :: t30 :: t31 :: t32 :: t33 :: t34 :: t35 :: t36 :: t37 :: t38 :: t39 :: t40 :: t41 :: t42 :: t43 :: t44 :: t45 :: t46 :: t47 :: t48 :: t49 :: t50 :: t51 :: t52 :: t53 :: t54 :: t55 :: t56 :: t57 :: t58 :: t59 :: t60 :: t61 :: t62 :: t63 :: t64 :: t65 :: t66 :: t67 :: t68 :: t69 :: t70 :: t71 :: t72 :: t73 :: t74 :: t75 :: t76 :: t77 :: t78 :: t79 :: t80 :: t81 :: t82 :: t83 :: t84 :: t85 :: t86 :: t87 :: t88 :: t89 :: t90 :: t91 :: t92 :: t93 :: t94 :: t95 :: t96 :: t97 :: t98 :: []), h14⟩) (
  opsP (xX s 14 wl k false) xg14_0 8 m0 ac (runK (xX s 14 wl k false) (bodyK s.P Try.f14) xk14_0) ⟨(t0 :: t1 :: t2 :: t3 :: t4 :: t5 :: t6 :: t7 :: t8 :: t9 :: t10 :: t11 :: t12 :: t13 :: t14 :: t15 :: t16 :: t17 :: t18 :: t19 :: t20 :: t21 :: t22 :: v9 :: v9 :: uu :: t26 :: t27 :: t28 :: t29 :: t30 :: t31 :: t32 :: t33 :: t34 :: t35 :: t36 :: t37 :: t38 :: t39 :: t40 :: t41 :: t42 :: t43 :: t44 :: t45 :: t46 :: t47 :: t48 :: t49 :: t50 :: t51 :: t52 :: t53 :: t54 :: t55 :: t56 :: t57 :: t58 :: t59 :: t60 :: t61 :: t62 :: t63 :: t64 :: t65 :: t66 :: t67 :: t68 :: t69 :: t70 :: t71 :: t72 :: t73 :: t74 :: t75 :: t76 :: t77 :: t78 :: t79 :: t80 :: t81 :: t82 :: t83 :: t84 :: t85 :: t86 :: t87 :: t88 :: t89 :: t90 :: t91 :: t92 :: t93 :: t94 :: t95 :: t96 :: t97 :: t98 :: []), h10⟩) :=
  (go_op0 rfl rfl (st_bm (by kernel_rfl) fun v9 h10 =>
  (go_op0 rfl rfl (st_id (v := v9) (H := h10) (by kernel_rfl)
  (go_gdF0 rfl rfl rfl (by kernel_rfl)
  (go_skip0 rfl rfl rfl (by kernel_rfl)
  (go_skip0 rfl rfl rfl (by kernel_rfl)
  (by kernel_rfl)))
  (st_id (v := t1) (H := h10) (by kernel_rfl)
  (go_run0 rfl rfl rfl (by kernel_rfl) (st_bp (by kernel_rfl) fun v11 h12 =>
  (go_run0 rfl rfl rfl (by kernel_rfl) (st_bm (by kernel_rfl) fun v13 h14 =>
  (by kernel_rfl))))))
  (by kernel_rfl))))))
theorem xm14_1 (s : Sys) (k wl : Nat) (m0 : Nat) (ac : List Nat × List Nat) (t0 t1 t2 t3 t4 t5 t6 t7 t8 t9 t10 t11 t12 t13 t14 t15 t16 t17 t18 t19 t20 t21 t22 t23 t24 t25 t26 t27 t28 t29 t30 t31 t32 t33 t34 t35 t36 t37 t38 t39 t40 t41 t42 t43 t44 t45 t46 t47 t48 t49 t50 t51 t52 t53 t54 t55 t56 t57 t58 t59 t60 t61 t62 t63 t64 t65 t66 t67 t68 t69 t70 t71 t72 t73 t74 t75 t76 t77 t78 t79 t80 t81 t82 t83 t84 t85 t86 t87 t88 t89 t90 t91 t92 t93 t94 t95 t96 t97 t98 : V) (h : Hp) : opsP (xX s 14 wl k false) xg14_0 10 m0 ac (runK (xX s 14 wl k false) (bodyK s.P Try.f14) xk14_0) ⟨(t0 :: t1 :: t2 :: t3 :: t4 :: t5 :: t6 :: t7 :: t8 :: t9 :: t10 :: t11 :: t12 :: t13 :: t14 :: t15 :: t16 :: t17 :: t18 :: t19 :: t20 :: t21 :: t22 :: t23 :: t24 :: t25 :: t26 :: t27 :: t28 :: t29 :: t30 :: t31 :: t32 :: t33 :: t34 :: t35 :: t36 :: t37 :: t38 :: t39 :: t40 :: t41 :: t42 :: t43 :: t44 :: t45 :: t46 :: t47 :: t48 :: t49 :: t50 :: t51 :: t52 :: t53 :: t54 :: t55 :: t56 :: t57 :: t58 :: t59 :: t60 :: t61 :: t62 :: t63 :: t64 :: t65 :: t66 :: t67 :: t68 :: t69 :: t70 :: t71 :: t72 :: t73 :: t74 :: t75 :: t76 :: t77 :: t78 :: t79 :: t80 :: t81 :: t82 :: t83 :: t84 :: t85 :: t86 :: t87 :: t88 :: t89 :: t90 :: t91 :: t92 :: t93 :: t94 :: t95 :: t96 :: t97 :: t98 :: []), h⟩ =
  bm (vPick t24 (V.lit (Value.bool true)) t27) h fun v15 h16 =>
  gd v15 (
  opsP (xX s 14 wl k false) xg14_0 14 m0 ac (runK (xX s 14 wl k false) (bodyK s.P Try.f14) xk14_0) ⟨(t0 :: t1 :: t2 :: t3 :: t4 :: t5 :: t6 :: t7 :: t8 :: t9 :: t10 :: t11 :: t12 :: t13 :: t14 :: t15 :: t16 :: t17 :: t18 :: t19 :: t20 :: t21 :: t22 :: t23 :: t24 :: t25 :: t26 :: t27 :: v15 :: (V.lit (Value.bool true)) :: uu :: uu :: t32 :: t33 :: t34 :: t35 :: t36 :: t37 :: t38 :: t39 :: t40 :: t41 :: t42 :: t43 :: t44 :: t45 :: t46 :: t47 :: t48 :: t49 :: t50 :: t51 :: t52 :: t53 :: t54 :: t55 :: t56 :: t57 :: t58 :: t59 :: t60 :: t61 :: t62 :: t63 :: t64 :: t65 :: t66 :: t67 :: t68 :: t69 :: t70 :: t71 :: t72 :: t73 :: t74 :: t75 :: t76 :: t77 :: t78 :: t79 :: t80 :: t81 :: t82 :: t83 :: t84 :: t85 :: t86 :: t87 :: t88 :: t89 :: t90 :: t91 :: t92 :: t93 :: t94 :: t95 :: t96 :: t97 :: t98 :: []), h16⟩) (
  bm (vBin s.P .lss 3 t2 (V.lit (Value.int .i64 0))) h16 fun v17 h18 =>
  opsP (xX s 14 wl k false) xg14_0 14 m0 ac (runK (xX s 14 wl k false) (bodyK s.P Try.f14) xk14_0) ⟨(t0 :: t1 :: t2 :: t3 :: t4 :: t5 :: t6 :: t7 :: t8 :: t9 :: t10 :: t11 :: t12 :: t13 :: t14 :: t15 :: t16 :: t17 :: t18 :: t19 :: t20 :: t21 :: t22 :: t23 :: t24 :: t25 :: t26 :: t27 :: v15 :: (V.lit (Value.bool false)) :: t2 :: v17 :: t32 :: t33 :: t34 :: t35 :: t36 :: t37 :: t38 :: t39 :: t40 :: t41 :: t42 :: t43 :: t44 :: t45 :: t46 :: t47 :: t48 :: t49 :: t50 :: t51 :: t52 :: t53 :: t54 :: t55 :: t56 :: t57 :: t58 :: t59 :: t60 :: t61 :: t62 :: t63 :: t64 :: t65 :: t66 :: t67 :: t68 :: t69 :: t70 :: t71 :: t72 :: t73 :: t74 :: t75 :: t76 :: t77 :: t78 :: t79 :: t80 :: t81 :: t82 :: t83 :: t84 :: t85 :: t86 :: t87 :: t88 :: t89 :: t90 :: t91 :: t92 :: t93 :: t94 :: t95 :: t96 :: t97 :: t98 :: []), h18⟩) (
  opsP (xX s 14 wl k false) xg14_0 13 m0 ac (runK (xX s 14 wl k false) (bodyK s.P Try.f14) xk14_0) ⟨(t0 :: t1 :: t2 :: t3 :: t4 :: t5 :: t6 :: t7 :: t8 :: t9 :: t10 :: t11 :: t12 :: t13 :: t14 :: t15 :: t16 :: t17 :: t18 :: t19 :: t20 :: t21 :: t22 :: t23 :: t24 :: t25 :: t26 :: t27 :: v15 :: v15 :: uu :: t31 :: t32 :: t33 :: t34 :: t35 :: t36 :: t37 :: t38 :: t39 :: t40 :: t41 :: t42 :: t43 :: t44 :: t45 :: t46 :: t47 :: t48 :: t49 :: t50 :: t51 :: t52 :: t53 :: t54 :: t55 :: t56 :: t57 :: t58 :: t59 :: t60 :: t61 :: t62 :: t63 :: t64 :: t65 :: t66 :: t67 :: t68 :: t69 :: t70 :: t71 :: t72 :: t73 :: t74 :: t75 :: t76 :: t77 :: t78 :: t79 :: t80 :: t81 :: t82 :: t83 :: t84 :: t85 :: t86 :: t87 :: t88 :: t89 :: t90 :: t91 :: t92 :: t93 :: t94 :: t95 :: t96 :: t97 :: t98 :: []), h16⟩) :=
  (go_op0 rfl rfl (st_bm (by kernel_rfl) fun v15 h16 =>
  (go_op0 rfl rfl (st_id (v := v15) (H := h16) (by kernel_rfl)
  (go_gdF0 rfl rfl rfl (by kernel_rfl)
  (go_skip0 rfl rfl rfl (by kernel_rfl)
  (by kernel_rfl))
  (st_id (v := t2) (H := h16) (by kernel_rfl)
  (go_run0 rfl rfl rfl (by kernel_rfl) (st_bm (by kernel_rfl) fun v17 h18 =>
  (by kernel_rfl))))
  (by kernel_rfl))))))
theorem xm14_2 (s : Sys) (k wl : Nat) (m0 : Nat) (ac : List Nat × List Nat) (t0 t1 t2 t3 t4 t5 t6 t7 t8 t9 t10 t11 t12 t13 t14 t15 t16 t17 t18 t19 t20 t21 t22 t23 t24 t25 t26 t27 t28 t29 t30 t31 t32 t33 t34 t35 t36 t37 t38 t39 t40 t41 t42 t43 t44 t45 t46 t47 t48 t49 t50 t51 t52 t53 t54 t55 t56 t57 t58 t59 t60 t61 t62 t63 t64 t65 t66 t67 t68 t69 t70 t71 t72 t73 t74 t75 t76 t77 t78 t79 t80 t81 t82 t83 t84 t85 t86 t87 t88 t89 t90 t91 t92 t93 t94 t95 t96 t97 t98 : V) (h : Hp) : opsP (xX s 14 wl k false) xg14_0 14 m0 ac (runK (xX s 14 wl k false) (bodyK s.P Try.f14) xk14_0) ⟨(t0 :: t1 :: t2 :: t3 :: t4 :: t5 :: t6 :: t7 :: t8 :: t9 :: t10 :: t11 :: t12 :: t13 :: t14 :: t15 :: t16 :: t17 :: t18 :: t19 :: t20 :: t21 :: t22 :: t23 :: t24 :: t25 :: t26 :: t27 :: t28 :: t29 :: t30 :: t31 :: t32 :: t33 :: t34 :: t35 :: t36 :: t37 :: t38 :: t39 :: t40 :: t41 :: t42 :: t43 :: t44 :: t45 :: t46 :: t47 :: t48 :: t49 :: t50 :: t51 :: t52 :: t53 :: t54 :: t55 :: t56 :: t57 :: t58 :: t59 :: t60 :: t61 :: t62 :: t63 :: t64 :: t65 :: t66 :: t67 :: t68 :: t69 :: t70 :: t71 :: t72 :: t73 :: t74 :: t75 :: t76 :: t77 :: t78 :: t79 :: t80 :: t81 :: t82 :: t83 :: t84 :: t85 :: t86 :: t87 :: t88 :: t89 :: t90 :: t91 :: t92 :: t93 :: t94 :: t95 :: t96 :: t97 :: t98 :: []), h⟩ =
  bm (vPick t29 (V.lit (Value.bool true)) t31) h fun v19 h20 =>
  gd v19 (
  opsP (xX s 14 wl k false) xg14_0 20 m0 ac (runK (xX s 14 wl k false) (bodyK s.P Try.f14) xk14_0) ⟨(t0 :: t1 :: t2 :: t3 :: t4 :: t5 :: t6 :: t7 :: t8 :: t9 :: t10 :: t11 :: t12 :: t13 :: t14 :: t15 :: t16 :: t17 :: t18 :: t19 :: t20 :: t21 :: t22 :: t23 :: t24 :: t25 :: t26 :: t27 :: t28 :: t29 :: t30 :: t31 :: v19 :: (V.lit (Value.bool true)) :: uu :: uu :: uu :: uu :: t38 :: t39 :: t40 :: t41 :: t42 :: t43 :: t44 :: t45 :: t46 :: t47 :: t48 :: t49 :: t50 :: t51 :: t52 :: t53 :: t54 :: t55 :: t56 :: t57 :: t58 :: t59 :: t60 :: t61 :: t62 :: t63 :: t64 :: t65 :: t66 :: t67 :: t68 :: t69 :: t70 :: t71 :: t72 :: t73 :: t74 :: t75 :: t76 :: t77 :: t78 :: t79 :: t80 :: t81 :: t82 :: t83 :: t84 :: t85 :: t86 :: t87 :: t88 :: t89 :: t90 :: t91 :: t92 :: t93 :: t94 :: t95 :: t96 :: t97 :: t98 :: []), h20⟩) (
  bp (opLen s.P 50 t0 h20) fun v21 h22 =>
  bm (vBin s.P .geq 3 t2 v21) h22 fun v23 h24 =>
  opsP (xX s 14 wl k false) xg14_0 20 m0 ac (runK (xX s 14 wl k false) (bodyK s.P Try.f14) xk14_0) ⟨(t0 :: t1 :: t2 :: t3 :: t4 :: t5 :: t6 :: t7 :: t8 :: t9 :: t10 :: t11 :: t12 :: t13 :: t14 :: t15 :: t16 :: t17 :: t18 :: t19 :: t20 :: t21 :: t22 :: t23 :: t24 :: t25 :: t26 :: t27 :: t28 :: t29 :: t30 :: t31 :: v19 :: (V.lit (Value.bool false)) :: t2 :: t0 :: v21 :: v23 :: t38 :: t39 :: t40 :: t41 :: t42 :: t43 :: t44 :: t45 :: t46 :: t47 :: t48 :: t49 :: t50 :: t51 :: t52 :: t53 :: t54 :: t55 :: t56 :: t57 :: t58 :: t59 :: t60 :: t61 :: t62 :: t63 :: t64 :: t65 :: t66 :: t67 :: t68 :: t69 :: t70 :: t71 :: t72 :: t73 :: t74 :: t75 :: t76 :: t77 :: t78 :: t79 :: t80 :: t81 :: t82 :: t83 :: t84 :: t85 :: t86 :: t87 :: t88 :: t89 :: t90 :: t91 :: t92 :: t93 :: t94 :: t95 :: t96 :: t97 :: t98 :: []), h24⟩) (
  opsP (xX s 14 wl k false) xg14_0 17 m0 ac (runK (xX s 14 wl k false) (bodyK s.P Try.f14) xk14_0) ⟨(t0 :: t1 :: t2 :: t3 :: t4 :: t5 :: t6 :: t7 :: t8 :: t9 :: t10 :: t11 :: t12 :: t13 :: t14 :: t15 :: t16 :: t17 :: t18 :: t19 :: t20 :: t21 :: t22 :: t23 :: t24 :: t25 :: t26 :: t27 :: t28 :: t29 :: t30 :: t31 :: v19 :: v19 :: uu :: t35 :: t36 :: t37 :: t38 :: t39 :: t40 :: t41 :: t42 :: t43 :: t44 :: t45 :: t46 :: t47 :: t48 :: t49 :: t50 :: t51 :: t52 :: t53 :: t54 :: t55 :: t56 :: t57 :: t58 :: t59 :: t60 :: t61 :: t62 :: t63 :: t64 :: t65 :: t66 :: t67 :: t68 :: t69 :: t70 :: t71 :: t72 :: t73 :: t74 :: t75 :: t76 :: t77 :: t78 :: t79 :: t80 :: t81 :: t82 :: t83 :: t84 :: t85 :: t86 :: t87 :: t88 :: t89 :: t90 :: t91 :: t92 :: t93 :: t94 :: t95 :: t96 :: t97 :: t98 :: []), h20⟩) :=
  (go_op0 rfl rfl (st_bm (by kernel_rfl) fun v19 h20 =>
  (go_op0 rfl rfl (st_id (v := v19) (H := h20) (by kernel_rfl)
  (go_gdF0 rfl rfl rfl (by kernel_rfl)
  (go_skip0 rfl rfl rfl (by kernel_rfl)
  (go_skip0 rfl rfl rfl (by kernel_rfl)
  (go_skip0 rfl rfl rfl (by kernel_rfl)
  (by kernel_rfl))))
  (st_id (v := t2) (H := h20) (by kernel_rfl)
  (go_run0 rfl rfl rfl (by kernel_rfl) (st_id (v := t0) (H := h20) (by kernel_rfl)
  (go_run0 rfl rfl rfl (by kernel_rfl) (st_bp (by kernel_rfl) fun v21 h22 =>
  (go_run0 rfl rfl rfl (by kernel_rfl) (st_bm (by kernel_rfl) fun v23 h24 =>
  (by kernel_rfl))))))))
  (by kernel_rfl))))))
theorem xm14_3 (s : Sys) (k wl : Nat) (m0 : Nat) (ac : List Nat × List Nat) (t0 t1 t2 t3 t4 t5 t6 t7 t8 t9 t10 t11 t12 t13 t14 t15 t16 t17 t18 t19 t20 t21 t22 t23 t24 t25 t26 t27 t28 t29 t30 t31 t32 t33 t34 t35 t36 t37 t38 t39 t40 t41 t42 t43 t44 t45 t46 t47 t48 t49 t50 t51 t52 t53 t54 t55 t56 t57 t58 t59 t60 t61 t62 t63 t64 t65 t66 t67 t68 t69 t70 t71 t72 t73 t74 t75 t76 t77 t78 t79 t80 t81 t82 t83 t84 t85 t86 t87 t88 t89 t90 t91 t92 t93 t94 t95 t96 t97 t98 : V) (h : Hp) : opsP (xX s 14 wl k false) xg14_0 20 m0 ac (runK (xX s 14 wl k false) (bodyK s.P Try.f14) xk14_0) ⟨(t0 :: t1 :: t2 :: t3 :: t4 :: t5 :: t6 :: t7 :: t8 :: t9 :: t10 :: t11 :: t12 :: t13 :: t14 :: t15 :: t16 :: t17 :: t18 :: t19 :: t20 :: t21 :: t22 :: t23 :: t24 :: t25 :: t26 :: t27 :: t28 :: t29 :: t30 :: t31 :: t32 :: t33 :: t34 :: t35 :: t36 :: t37 :: t38 :: t39 :: t40 :: t41 :: t42 :: t43 :: t44 :: t45 :: t46 :: t47 :: t48 :: t49 :: t50 :: t51 :: t52 :: t53 :: t54 :: t55 :: t56 :: t57 :: t58 :: t59 :: t60 :: t61 :: t62 :: t63 :: t64 :: t65 :: t66 :: t67 :: t68 :: t69 :: t70 :: t71 :: t72 :: t73 :: t74 :: t75 :: t76 :: t77 :: t78 :: t79 :: t80 :: t81 :: t82 :: t83 :: t84 :: t85 :: t86 :: t87 :: t88 :: t89 :: t90 :: t91 :: t92 :: t93 :: t94 :: t95 :: t96 :: t97 :: t98 :: []), h⟩ =
  bm (vPick t33 (V.lit (Value.bool true)) t37) h fun v25 h26 =>
  cnd v25 (
  some (t7, h26)) (
  bp (callV (xX s 14 wl k false) false true (.fn (.func 46) [] []) [t0, t1] h26) fun v27 h28 =>
  bm (vExtract v27 0) h28 fun v29 h30 =>
  bm (vExtract v27 1) h30 fun v31 h32 =>
  bm (vExtract v27 2) h32 fun v33 h34 =>
  bp (callV (xX s 14 wl k false) false true (.fn (.func 47) [] []) [t0, t1, t2] h34) fun v35 h36 =>
  bp (opLen s.P 53 v33 h36) fun v37 h38 =>
  bm (vBin s.P .geq 3 t2 v37) h38 fun v39 h40 =>
  cnd v39 (
  bm (vBin s.P .eql 3 v35 (V.lit (Value.int .i64 (-1)))) h40 fun v41 h42 =>
  gd v41 (
  bp (opLen s.P 53 v33 h42) fun v43 h44 =>
  bm (vBin s.P .eql 3 v43 (V.lit (Value.int .i64 0))) h44 fun v45 h46 =>
  opsP (xX s 14 wl k false) xg14_1 6 h40.length ([], []) (runK (xX s 14 wl k false) (bodyK s.P Try.f14) xk14_1) ⟨(t0 :: t1 :: t2 :: t3 :: t4 :: t5 :: t6 :: t7 :: t8 :: v29 :: v31 :: v33 :: v35 :: t13 :: t14 :: t15 :: t16 :: t17 :: t18 :: t19 :: t20 :: t21 :: t22 :: t23 :: t24 :: t25 :: t26 :: t27 :: t28 :: t29 :: t30 :: t31 :: t32 :: t33 :: t34 :: t35 :: t36 :: t37 :: v25 :: t39 :: v27 :: t0 :: t1 :: v27 :: v29 :: v31 :: v33 :: t0 :: t1 :: t2 :: v35 :: t2 :: v33 :: v37 :: v39 :: v35 :: v41 :: (V.lit (Value.bool true)) :: v33 :: v43 :: v45 :: t61 :: t62 :: t63 :: t64 :: t65 :: t66 :: t67 :: t68 :: t69 :: t70 :: t71 :: t72 :: t73 :: t74 :: t75 :: t76 :: t77 :: t78 :: t79 :: t80 :: t81 :: t82 :: t83 :: t84 :: t85 :: t86 :: t87 :: t88 :: t89 :: t90 :: t91 :: t92 :: t93 :: t94 :: t95 :: t96 :: t97 :: t98 :: []), h46⟩) (
  opsP (xX s 14 wl k false) xg14_1 6 h40.length ([], []) (runK (xX s 14 wl k false) (bodyK s.P Try.f14) xk14_1) ⟨(t0 :: t1 :: t2 :: t3 :: t4 :: t5 :: t6 :: t7 :: t8 :: v29 :: v31 :: v33 :: v35 :: t13 :: t14 :: t15 :: t16 :: t17 :: t18 :: t19 :: t20 :: t21 :: t22 :: t23 :: t24 :: t25 :: t26 :: t27 :: t28 :: t29 :: t30 :: t31 :: t32 :: t33 :: t34 :: t35 :: t36 :: t37 :: v25 :: t39 :: v27 :: t0 :: t1 :: v27 :: v29 :: v31 :: v33 :: t0 :: t1 :: t2 :: v35 :: t2 :: v33 :: v37 :: v39 :: v35 :: v41 :: (V.lit (Value.bool false)) :: uu :: uu :: uu :: t61 :: t62 :: t63 :: t64 :: t65 :: t66 :: t67 :: t68 :: t69 :: t70 :: t71 :: t72 :: t73 :: t74 :: t75 :: t76 :: t77 :: t78 :: t79 :: t80 :: t81 :: t82 :: t83 :: t84 :: t85 :: t86 :: t87 :: t88 :: t89 :: t90 :: t91 :: t92 :: t93 :: t94 :: t95 :: t96 :: t97 :: t98 :: []), h42⟩) (
  opsP (xX s 14 wl k false) xg14_1 4 h40.length ([], []) (runK (xX s 14 wl k false) (bodyK s.P Try.f14) xk14_1) ⟨(t0 :: t1 :: t2 :: t3 :: t4 :: t5 :: t6 :: t7 :: t8 :: v29 :: v31 :: v33 :: v35 :: t13 :: t14 :: t15 :: t16 :: t17 :: t18 :: t19 :: t20 :: t21 :: t22 :: t23 :: t24 :: t25 :: t26 :: t27 :: t28 :: t29 :: t30 :: t31 :: t32 :: t33 :: t34 :: t35 :: t36 :: t37 :: v25 :: t39 :: v27 :: t0 :: t1 :: v27 :: v29 :: v31 :: v33 :: t0 :: t1 :: t2 :: v35 :: t2 :: v33 :: v37 :: v39 :: v35 :: v41 :: v41 :: uu :: t59 :: t60 :: t61 :: t62 :: t63 :: t64 :: t65 :: t66 :: t67 :: t68 :: t69 :: t70 :: t71 :: t72 :: t73 :: t74 :: t75 :: t76 :: t77 :: t78 :: t79 :: t80 :: t81 :: t82 :: t83 :: t84 :: t85 :: t86 :: t87 :: t88 :: t89 :: t90 :: t91 :: t92 :: t93 :: t94 :: t95 :: t96 :: t97 :: t98 :: []), h42⟩)) (
  bm (vIndexAddr s.P 53 v33 t2 h40) h40 fun v47 h48 =>
  bm (vLoad s.P 28 v47 h48) h48 fun v49 h50 =>
  bp (opAlloc s.P 28 h50) fun v51 h52 =>
  bs (vStore s.P wl 28 v51 v49 h52) fun h53 =>
  bm (vFieldAddr s.P 28 v51 0) h53 fun v54 h55 =>
  bm (vLoad s.P 3 v54 h55) h55 fun v56 h57 =>
  bm (vBin s.P .neq 3 v56 (V.lit (Value.int .i64 5))) h57 fun v58 h59 =>
  gd v58 (
  opsP (xX s 14 wl k false) xg14_2 7 h53.length ([], []) (runK (xX s 14 wl k false) (bodyK s.P Try.f14) xk14_2) ⟨(t0 :: t1 :: t2 :: t3 :: t4 :: t5 :: t6 :: t7 :: t8 :: v29 :: v31 :: v33 :: v35 :: v51 :: t14 :: t15 :: t16 :: t17 :: t18 :: t19 :: t20 :: t21 :: t22 :: t23 :: t24 :: t25 :: t26 :: t27 :: t28 :: t29 :: t30 :: t31 :: t32 :: t33 :: t34 :: t35 :: t36 :: t37 :: v25 :: t39 :: v27 :: t0 :: t1 :: v27 :: v29 :: v31 :: v33 :: t0 :: t1 :: t2 :: v35 :: t2 :: v33 :: v37 :: v39 :: t55 :: t56 :: t57 :: t58 :: t59 :: t60 :: t61 :: v33 :: t2 :: v47 :: v49 :: v54 :: v56 :: v58 :: (V.lit (Value.bool true)) :: uu :: uu :: uu :: t73 :: t74 :: t75 :: t76 :: t77 :: t78 :: t79 :: t80 :: t81 :: t82 :: t83 :: t84 :: t85 :: t86 :: t87 :: t88 :: t89 :: t90 :: t91 :: t92 :: t93 :: t94 :: t95 :: t96 :: t97 :: t98 :: []), h59⟩) (
  bm (vFieldAddr s.P 28 v51 1) h59 fun v60 h61 =>
  bm (vLoad s.P 3 v60 h61) h61 fun v62 h63 =>
  bm (vBin s.P .lss 3 v62 (V.lit (Value.int .i64 3))) h63 fun v64 h65 =>
  opsP (xX s 14 wl k false) xg14_2 7 h53.length ([], []) (runK (xX s 14 wl k false) (bodyK s.P Try.f14) xk14_2) ⟨(t0 :: t1 :: t2 :: t3 :: t4 :: t5 :: t6 :: t7 :: t8 :: v29 :: v31 :: v33 :: v35 :: v51 :: t14 :: t15 :: t16 :: t17 :: t18 :: t19 :: t20 :: t21 :: t22 :: t23 :: t24 :: t25 :: t26 :: t27 :: t28 :: t29 :: t30 :: t31 :: t32 :: t33 :: t34 :: t35 :: t36 :: t37 :: v25 :: t39 :: v27 :: t0 :: t1 :: v27 :: v29 :: v31 :: v33 :: t0 :: t1 :: t2 :: v35 :: t2 :: v33 :: v37 :: v39 :: t55 :: t56 :: t57 :: t58 :: t59 :: t60 :: t61 :: v33 :: t2 :: v47 :: v49 :: v54 :: v56 :: v58 :: (V.lit (Value.bool false)) :: v60 :: v62 :: v64 :: t73 :: t74 :: t75 :: t76 :: t77 :: t78 :: t79 :: t80 :: t81 :: t82 :: t83 :: t84 :: t85 :: t86 :: t87 :: t88 :: t89 :: t90 :: t91 :: t92 :: t93 :: t94 :: t95 :: t96 :: t97 :: t98 :: []), h65⟩) (
  opsP (xX s 14 wl k false) xg14_2 5 h53.length ([], []) (runK (xX s 14 wl k false) (bodyK s.P Try.f14) xk14_2) ⟨(t0 :: t1 :: t2 :: t3 :: t4 :: t5 :: t6 :: t7 :: t8 :: v29 :: v31 :: v33 :: v35 :: v51 :: t14 :: t15 :: t16 :: t17 :: t18 :: t19 :: t20 :: t21 :: t22 :: t23 :: t24 :: t25 :: t26 :: t27 :: t28 :: t29 :: t30 :: t31 :: t32 :: t33 :: t34 :: t35 :: t36 :: t37 :: v25 :: t39 :: v27 :: t0 :: t1 :: v27 :: v29 :: v31 :: v33 :: t0 :: t1 :: t2 :: v35 :: t2 :: v33 :: v37 :: v39 :: t55 :: t56 :: t57 :: t58 :: t59 :: t60 :: t61 :: v33 :: t2 :: v47 :: v49 :: v54 :: v56 :: v58 :: v58 :: uu :: t71 :: t72 :: t73 :: t74 :: t75 :: t76 :: t77 :: t78 :: t79 :: t80 :: t81 :: t82 :: t83 :: t84 :: t85 :: t86 :: t87 :: t88 :: t89 :: t90 :: t91 :: t92 :: t93 :: t94 :: t95 :: t96 :: t97 :: t98 :: []), h59⟩))) :=
  (go_op0 rfl rfl (st_bm (by kernel_rfl) fun v25 h26 =>
  (go_end0 (by kernel_rfl)
  (go_cond (by kernel_rfl)
  (go_seq (go_reg0
  (go_op0 rfl rfl (st_id (v := t7) (H := h26) (by kernel_rfl)
  (go_op0 rfl rfl (st_id (v := t7) (H := h26) (by kernel_rfl)
  (go_end0 (by kernel_rfl)
  (go_ret (rt_seq_ret (by kernel_rfl))))))))))
  (go_skip (go_seq (go_reg0
  (go_op0 rfl rfl (st_id (v := t0) (H := h26) (by kernel_rfl)
  (go_op0 rfl rfl (st_id (v := t1) (H := h26) (by kernel_rfl)
  (go_op0 rfl rfl (st_bp (by kernel_rfl) fun v27 h28 =>
  (go_op0 rfl rfl (st_id (v := v27) (H := h28) (by kernel_rfl)
  (go_op0 rfl rfl (st_bm (by kernel_rfl) fun v29 h30 =>
  (go_op0 rfl rfl (st_bm (by kernel_rfl) fun v31 h32 =>
  (go_op0 rfl rfl (st_bm (by kernel_rfl) fun v33 h34 =>
  (go_op0 rfl rfl (st_id (v := v29) (H := h34) (by kernel_rfl)
  (go_op0 rfl rfl (st_id (v := v31) (H := h34) (by kernel_rfl)
  (go_op0 rfl rfl (st_id (v := v33) (H := h34) (by kernel_rfl)
  (go_end0 (by kernel_rfl)
  (go_seq (go_reg0
  (go_op0 rfl rfl (st_id (v := t0) (H := h34) (by kernel_rfl)
  (go_op0 rfl rfl (st_id (v := t1) (H := h34) (by kernel_rfl)
  (go_op0 rfl rfl (st_id (v := t2) (H := h34) (by kernel_rfl)
  (go_op0 rfl rfl (st_bp (by kernel_rfl) fun v35 h36 =>
  (go_op0 rfl rfl (st_id (v := v35) (H := h36) (by kernel_rfl)
  (go_end0 (by kernel_rfl)
  (go_seq (go_seq (go_reg0
  (go_op0 rfl rfl (st_id (v := t2) (H := h36) (by kernel_rfl)
  (go_op0 rfl rfl (st_id (v := v33) (H := h36) (by kernel_rfl)
  (go_op0 rfl rfl (st_bp (by kernel_rfl) fun v37 h38 =>
  (go_op0 rfl rfl (st_bm (by kernel_rfl) fun v39 h40 =>
  (go_end0 (by kernel_rfl)
  (go_cond (by kernel_rfl)
  (go_seq (go_reg0
  (go_op0 rfl rfl (st_id (v := v35) (H := h40) (by kernel_rfl)
  (go_op0 rfl rfl (st_bm (by kernel_rfl) fun v41 h42 =>
  (go_op0 rfl rfl (st_id (v := v41) (H := h42) (by kernel_rfl)
  (go_gdT0 rfl rfl rfl (by kernel_rfl)
  (st_id (v := v33) (H := h42) (by kernel_rfl)
  (go_run0 rfl rfl rfl (by kernel_rfl) (st_bp (by kernel_rfl) fun v43 h44 =>
  (go_run0 rfl rfl rfl (by kernel_rfl) (st_bm (by kernel_rfl) fun v45 h46 =>
  (by kernel_rfl))))))
  (go_skip0 rfl rfl rfl (by kernel_rfl)
  (go_skip0 rfl rfl rfl (by kernel_rfl)
  (by kernel_rfl)))
  (by kernel_rfl))))))))))
  (go_skip (go_seq (go_reg0
  (go_op0 rfl rfl (st_id (v := v33) (H := h40) (by kernel_rfl)
  (go_op0 rfl rfl (st_id (v := t2) (H := h40) (by kernel_rfl)
  (go_op0 rfl rfl (st_bm (by kernel_rfl) fun v47 h48 =>
  (go_op0 rfl rfl (st_bm (by kernel_rfl) fun v49 h50 =>
  (go_op0 rfl rfl (st_bp (by kernel_rfl) fun v51 h52 =>
  (go_op0 rfl rfl (st_bs (by kernel_rfl) fun h53 =>
  (go_end0 (by kernel_rfl)
  (go_seq (go_seq (go_reg0
  (go_op0 rfl rfl (st_bm (by kernel_rfl) fun v54 h55 =>
  (go_op0 rfl rfl (st_bm (by kernel_rfl) fun v56 h57 =>
  (go_op0 rfl rfl (st_bm (by kernel_rfl) fun v58 h59 =>
  (go_op0 rfl rfl (st_id (v := v58) (H := h59) (by kernel_rfl)
  (go_gdF0 rfl rfl rfl (by kernel_rfl)
  (go_skip0 rfl rfl rfl (by kernel_rfl)
  (go_skip0 rfl rfl rfl (by kernel_rfl)
  (by kernel_rfl)))
  (st_bm (by kernel_rfl) fun v60 h61 =>
  (go_run0 rfl rfl rfl (by kernel_rfl) (st_bm (by kernel_rfl) fun v62 h63 =>
  (go_run0 rfl rfl rfl (by kernel_rfl) (st_bm (by kernel_rfl) fun v64 h65 =>
  (by kernel_rfl))))))
  (by kernel_rfl)))))))))))))))))))))))))))))))))))))))))))))))))))))))))))))))))))))))))))))))))))
theorem xm14_4 (s : Sys) (k wl : Nat) (m0 : Nat) (ac : List Nat × List Nat) (t0 t1 t2 t3 t4 t5 t6 t7 t8 t9 t10 t11 t12 t13 t14 t15 t16 t17 t18 t19 t20 t21 t22 t23 t24 t25 t26 t27 t28 t29 t30 t31 t32 t33 t34 t35 t36 t37 t38 t39 t40 t41 t42 t43 t44 t45 t46 t47 t48 t49 t50 t51 t52 t53 t54 t55 t56 t57 t58 t59 t60 t61 t62 t63 t64 t65 t66 t67 t68 t69 t70 t71 t72 t73 t74 t75 t76 t77 t78 t79 t80 t81 t82 t83 t84 t85 t86 t87 t88 t89 t90 t91 t92 t93 t94 t95 t96 t97 t98 : V) (h : Hp) : opsP (xX s 14 wl k false) xg14_1 6 m0 ac (runK (xX s 14 wl k false) (bodyK s.P Try.f14) xk14_1) ⟨(t0 :: t1 :: t2 :: t3 :: t4 :: t5 :: t6 :: t7 :: t8 :: t9 :: t10 :: t11 :: t12 :: t13 :: t14 :: t15 :: t16 :: t17 :: t18 :: t19 :: t20 :: t21 :: t22 :: t23 :: t24 :: t25 :: t26 :: t27 :: t28 :: t29 :: t30 :: t31 :: t32 :: t33 :: t34 :: t35 :: t36 :: t37 :: t38 :: t39 :: t40 :: t41 :: t42 :: t43 :: t44 :: t45 :: t46 :: t47 :: t48 :: t49 :: t50 :: t51 :: t52 :: t53 :: t54 :: t55 :: t56 :: t57 :: t58 :: t59 :: t60 :: t61 :: t62 :: t63 :: t64 :: t65 :: t66 :: t67 :: t68 :: t69 :: t70 :: t71 :: t72 :: t73 :: t74 :: t75 :: t76 :: t77 :: t78 :: t79 :: t80 :: t81 :: t82 :: t83 :: t84 :: t85 :: t86 :: t87 :: t88 :: t89 :: t90 :: t91 :: t92 :: t93 :: t94 :: t95 :: t96 :: t97 :: t98 :: []), h⟩ =
  bm (vPick t57 t60 (V.lit (Value.bool false))) h fun v66 h67 =>
  some (v66, h67) :=
  (go_op0 rfl rfl (st_bm (by kernel_rfl) fun v66 h67 =>
  (go_op0 rfl rfl (st_id (v := v66) (H := h67) (by kernel_rfl)
  (go_end0 (by kernel_rfl)
  (go_ret (rt_seq_ret (by kernel_rfl))))))))
theorem xm14_5 (s : Sys) (k wl : Nat) (m0 : Nat) (ac : List Nat × List Nat) (t0 t1 t2 t3 t4 t5 t6 t7 t8 t9 t10 t11 t12 t13 t14 t15 t16 t17 t18 t19 t20 t21 t22 t23 t24 t25 t26 t27 t28 t29 t30 t31 t32 t33 t34 t35 t36 t37 t38 t39 t40 t41 t42 t43 t44 t45 t46 t47 t48 t49 t50 t51 t52 t53 t54 t55 t56 t57 t58 t59 t60 t61 t62 t63 t64 t65 t66 t67 t68 t69 t70 t71 t72 t73 t74 t75 t76 t77 t78 t79 t80 t81 t82 t83 t84 t85 t86 t87 t88 t89 t90 t91 t92 t93 t94 t95 t96 t97 t98 : V) (h : Hp) : opsP (xX s 14 wl k false) xg14_2 7 m0 ac (runK (xX s 14 wl k false) (bodyK s.P Try.f14) xk14_2) ⟨(t0 :: t1 :: t2 :: t3 :: t4 :: t5 :: t6 :: t7 :: t8 :: t9 :: t10 :: t11 :: t12 :: t13 :: t14 :: t15 :: t16 :: t17 :: t18 :: t19 :: t20 :: t21 :: t22 :: t23 :: t24 :: t25 :: t26 :: t27 :: t28 :: t29 :: t30 :: t31 :: t32 :: t33 :: t34 :: t35 :: t36 :: t37 :: t38 :: t39 :: t40 :: t41 :: t42 :: t43 :: t44 :: t45 :: t46 :: t47 :: t48 :: t49 :: t50 :: t51 :: t52 :: t53 :: t54 :: t55 :: t56 :: t57 :: t58 :: t59 :: t60 :: t61 :: t62 :: t63 :: t64 :: t65 :: t66 :: t67 :: t68 :: t69 :: t70 :: t71 :: t72 :: t73 :: t74 :: t75 :: t76 :: t77 :: t78 :: t79 :: t80 :: t81 :: t82 :: t83 :: t84 :: t85 :: t86 :: t87 :: t88 :: t89 :: t90 :: t91 :: t92 :: t93 :: t94 :: t95 :: t96 :: t97 :: t98 :: []), h⟩ =
  bm (vPick t69 (V.lit (Value.bool true)) t72) h fun v68 h69 =>
  cnd v68 (
  bm (vBin s.P .eql 3 t12 (V.lit (Value.int .i64 0))) h69 fun v70 h71 =>
  some (v70, h71)) (
  bp (opLen s.P 50 t0 h69) fun v72 h73 =>
  bm (vBuild s.P 23 [(0, v72), (1, (V.lit (Value.int .i64 1))), (2, (V.lit (Value.int .i64 1)))]) h73 fun v74 h75 =>
  bp (opAlloc s.P 23 h75) fun v76 h77 =>
  bs (vStore s.P wl 23 v76 v74 h77) fun h78 =>
  bm (vBin s.P .eql 3 t12 (V.lit (Value.int .i64 1))) h78 fun v79 h80 =>
  gd v79 (
  bm (vFieldAddr s.P 28 t13 1) h80 fun v81 h82 =>
  bm (vLoad s.P 3 v81 h82) h82 fun v83 h84 =>
  bm (vBin s.P .eql 3 v83 (V.lit (Value.int .i64 3))) h84 fun v85 h86 =>
  opsP (xX s 14 wl k false) xg14_3 7 h78.length ([], []) (runK (xX s 14 wl k false) (bodyK s.P Try.f14) xk14_3) ⟨(t0 :: t1 :: t2 :: t3 :: t4 :: t5 :: t6 :: t7 :: t8 :: t9 :: t10 :: t11 :: t12 :: t13 :: v76 :: t15 :: t16 :: t17 :: t18 :: t19 :: t20 :: t21 :: t22 :: t23 :: t24 :: t25 :: t26 :: t27 :: t28 :: t29 :: t30 :: t31 :: t32 :: t33 :: t34 :: t35 :: t36 :: t37 :: t38 :: t39 :: t40 :: t41 :: t42 :: t43 :: t44 :: t45 :: t46 :: t47 :: t48 :: t49 :: t50 :: t51 :: t52 :: t53 :: t54 :: t55 :: t56 :: t57 :: t58 :: t59 :: t60 :: t61 :: t62 :: t63 :: t64 :: t65 :: t66 :: t67 :: t68 :: t69 :: t70 :: t71 :: t72 :: v68 :: t74 :: t75 :: t0 :: v72 :: v74 :: t12 :: v79 :: (V.lit (Value.bool true)) :: v81 :: v83 :: v85 :: v85 :: t86 :: t87 :: t88 :: t89 :: t90 :: t91 :: t92 :: t93 :: t94 :: t95 :: t96 :: t97 :: t98 :: []), h86⟩) (
  opsP (xX s 14 wl k false) xg14_3 19 h78.length ([], []) (runK (xX s 14 wl k false) (bodyK s.P Try.f14) xk14_3) ⟨(t0 :: t1 :: t2 :: t3 :: t4 :: t5 :: t6 :: t7 :: t8 :: t9 :: t10 :: t11 :: t12 :: t13 :: v76 :: t15 :: t16 :: t17 :: t18 :: t19 :: t20 :: t21 :: t22 :: t23 :: t24 :: t25 :: t26 :: t27 :: t28 :: t29 :: t30 :: t31 :: t32 :: t33 :: t34 :: t35 :: t36 :: t37 :: t38 :: t39 :: t40 :: t41 :: t42 :: t43 :: t44 :: t45 :: t46 :: t47 :: t48 :: t49 :: t50 :: t51 :: t52 :: t53 :: t54 :: t55 :: t56 :: t57 :: t58 :: t59 :: t60 :: t61 :: t62 :: t63 :: t64 :: t65 :: t66 :: t67 :: t68 :: t69 :: t70 :: t71 :: t72 :: v68 :: t74 :: t75 :: t0 :: v72 :: v74 :: t12 :: v79 :: (V.lit (Value.bool false)) :: uu :: uu :: uu :: uu :: uu :: uu :: uu :: uu :: uu :: uu :: uu :: uu :: uu :: uu :: uu :: uu :: t98 :: []), h80⟩) (
  opsP (xX s 14 wl k false) xg14_3 4 h78.length ([], []) (runK (xX s 14 wl k false) (bodyK s.P Try.f14) xk14_3) ⟨(t0 :: t1 :: t2 :: t3 :: t4 :: t5 :: t6 :: t7 :: t8 :: t9 :: t10 :: t11 :: t12 :: t13 :: v76 :: t15 :: t16 :: t17 :: t18 :: t19 :: t20 :: t21 :: t22 :: t23 :: t24 :: t25 :: t26 :: t27 :: t28 :: t29 :: t30 :: t31 :: t32 :: t33 :: t34 :: t35 :: t36 :: t37 :: t38 :: t39 :: t40 :: t41 :: t42 :: t43 :: t44 :: t45 :: t46 :: t47 :: t48 :: t49 :: t50 :: t51 :: t52 :: t53 :: t54 :: t55 :: t56 :: t57 :: t58 :: t59 :: t60 :: t61 :: t62 :: t63 :: t64 :: t65 :: t66 :: t67 :: t68 :: t69 :: t70 :: t71 :: t72 :: v68 :: t74 :: t75 :: t0 :: v72 :: v74 :: t12 :: v79 :: v79 :: uu :: t83 :: t84 :: t85 :: t86 :: t87 :: t88 :: t89 :: t90 :: t91 :: t92 :: t93 :: t94 :: t95 :: t96 :: t97 :: t98 :: []), h80⟩)) :=
  (go_op0 rfl rfl (st_bm (by kernel_rfl) fun v68 h69 =>
  (go_end0 (by kernel_rfl)
  (go_cond (by kernel_rfl)
  (go_seq (go_reg0
  (go_op0 rfl rfl (st_id (v := t12) (H := h69) (by kernel_rfl)
  (go_op0 rfl rfl (st_bm (by kernel_rfl) fun v70 h71 =>
  (go_op0 rfl rfl (st_id (v := v70) (H := h71) (by kernel_rfl)
  (go_end0 (by kernel_rfl)
  (go_ret (rt_seq_ret (by kernel_rfl))))))))))))
  (go_skip (go_seq (go_reg0
  (go_op0 rfl rfl (st_id (v := t0) (H := h69) (by kernel_rfl)
  (go_op0 rfl rfl (st_bp (by kernel_rfl) fun v72 h73 =>
  (go_op0 rfl rfl (st_bm (by kernel_rfl) fun v74 h75 =>
  (go_op0 rfl rfl (st_bp (by kernel_rfl) fun v76 h77 =>
  (go_op0 rfl rfl (st_bs (by kernel_rfl) fun h78 =>
  (go_end0 (by kernel_rfl)
  (go_seq (go_reg0
  (go_op0 rfl rfl (st_id (v := t12) (H := h78) (by kernel_rfl)
  (go_op0 rfl rfl (st_bm (by kernel_rfl) fun v79 h80 =>
  (go_op0 rfl rfl (st_id (v := v79) (H := h80) (by kernel_rfl)
  (go_gdT0 rfl rfl rfl (by kernel_rfl)
  (st_bm (by kernel_rfl) fun v81 h82 =>
  (go_run0 rfl rfl rfl (by kernel_rfl) (st_bm (by kernel_rfl) fun v83 h84 =>
  (go_run0 rfl rfl rfl (by kernel_rfl) (st_bm (by kernel_rfl) fun v85 h86 =>
  (go_run0 rfl rfl rfl (by kernel_rfl) (st_id (v := v85) (H := h86) (by kernel_rfl)
  (by kernel_rfl))))))))
  (go_skip0 rfl rfl rfl (by kernel_rfl)
  (go_skip0 rfl rfl rfl (by kernel_rfl)
  (go_skip0 rfl rfl rfl (by kernel_rfl)
  (go_none0 (x := #[]) rfl rfl rfl (by kernel_rfl)
  (go_none0 (x := #[]) rfl rfl rfl (by kernel_rfl)
  (go_none0 (x := #[]) rfl rfl rfl (by kernel_rfl)
  (go_none0 (x := #[]) rfl rfl rfl (by kernel_rfl)
  (go_none0 (x := #[]) rfl rfl rfl (by kernel_rfl)
  (go_none0 (x := #[]) rfl rfl rfl (by kernel_rfl)
  (go_none0 (x := #[]) rfl rfl rfl (by kernel_rfl)
  (go_none0 (x := #[]) rfl rfl rfl (by kernel_rfl)
  (go_none0 (x := #[]) rfl rfl rfl (by kernel_rfl)
  (go_none0 (x := #[]) rfl rfl rfl (by kernel_rfl)
  (go_none0 (x := #[]) rfl rfl rfl (by kernel_rfl)
  (go_skip0 rfl rfl rfl (by kernel_rfl)
  (by kernel_rfl))))))))))))))))
  (by kernel_rfl))))))))))))))))))))))))))))
theorem xm14_6 (s : Sys) (k wl : Nat) (m0 : Nat) (ac : List Nat × List Nat) (t0 t1 t2 t3 t4 t5 t6 t7 t8 t9 t10 t11 t12 t13 t14 t15 t16 t17 t18 t19 t20 t21 t22 t23 t24 t25 t26 t27 t28 t29 t30 t31 t32 t33 t34 t35 t36 t37 t38 t39 t40 t41 t42 t43 t44 t45 t46 t47 t48 t49 t50 t51 t52 t53 t54 t55 t56 t57 t58 t59 t60 t61 t62 t63 t64 t65 t66 t67 t68 t69 t70 t71 t72 t73 t74 t75 t76 t77 t78 t79 t80 t81 t82 t83 t84 t85 t86 t87 t88 t89 t90 t91 t92 t93 t94 t95 t96 t97 t98 : V) (h : Hp) : opsP (xX s 14 wl k false) xg14_3 7 m0 ac (runK (xX s 14 wl k false) (bodyK s.P Try.f14) xk14_3) ⟨(t0 :: t1 :: t2 :: t3 :: t4 :: t5 :: t6 :: t7 :: t8 :: t9 :: t10 :: t11 :: t12 :: t13 :: t14 :: t15 :: t16 :: t17 :: t18 :: t19 :: t20 :: t21 :: t22 :: t23 :: t24 :: t25 :: t26 :: t27 :: t28 :: t29 :: t30 :: t31 :: t32 :: t33 :: t34 :: t35 :: t36 :: t37 :: t38 :: t39 :: t40 :: t41 :: t42 :: t43 :: t44 :: t45 :: t46 :: t47 :: t48 :: t49 :: t50 :: t51 :: t52 :: t53 :: t54 :: t55 :: t56 :: t57 :: t58 :: t59 :: t60 :: t61 :: t62 :: t63 :: t64 :: t65 :: t66 :: t67 :: t68 :: t69 :: t70 :: t71 :: t72 :: t73 :: t74 :: t75 :: t76 :: t77 :: t78 :: t79 :: t80 :: t81 :: t82 :: t83 :: t84 :: t85 :: t86 :: t87 :: t88 :: t89 :: t90 :: t91 :: t92 :: t93 :: t94 :: t95 :: t96 :: t97 :: t98 :: []), h⟩ =
  gd t85 (
  opsP (xX s 14 wl k false) xg14_3 18 m0 ac (runK (xX s 14 wl k false) (bodyK s.P Try.f14) xk14_3) ⟨(t0 :: t1 :: t2 :: t3 :: t4 :: t5 :: t6 :: t7 :: t8 :: t9 :: t10 :: t11 :: t12 :: t13 :: t14 :: t15 :: t16 :: t17 :: t18 :: t19 :: t20 :: t21 :: t22 :: t23 :: t24 :: t25 :: t26 :: t27 :: t28 :: t29 :: t30 :: t31 :: t32 :: t33 :: t34 :: t35 :: t36 :: t37 :: t38 :: t39 :: t40 :: t41 :: t42 :: t43 :: t44 :: t45 :: t46 :: t47 :: t48 :: t49 :: t50 :: t51 :: t52 :: t53 :: t54 :: t55 :: t56 :: t57 :: t58 :: t59 :: t60 :: t61 :: t62 :: t63 :: t64 :: t65 :: t66 :: t67 :: t68 :: t69 :: t70 :: t71 :: t72 :: t73 :: t74 :: t75 :: t76 :: t77 :: t78 :: t79 :: t80 :: t81 :: t82 :: t83 :: t84 :: (V.lit (Value.bool true)) :: uu :: uu :: uu :: uu :: uu :: uu :: uu :: uu :: uu :: uu :: uu :: t97 :: t98 :: []), h⟩) (
  bm (vFieldAddr s.P 28 t13 1) h fun v87 h88 =>
  bm (vLoad s.P 3 v87 h88) h88 fun v89 h90 =>
  bm (vBin s.P .eql 3 v89 (V.lit (Value.int .i64 4))) h90 fun v91 h92 =>
  opsP (xX s 14 wl k false) xg14_3 11 m0 ac (runK (xX s 14 wl k false) (bodyK s.P Try.f14) xk14_3) ⟨(t0 :: t1 :: t2 :: t3 :: t4 :: t5 :: t6 :: t7 :: t8 :: t9 :: t10 :: t11 :: t12 :: t13 :: t14 :: t15 :: t16 :: t17 :: t18 :: t19 :: t20 :: t21 :: t22 :: t23 :: t24 :: t25 :: t26 :: t27 :: t28 :: t29 :: t30 :: t31 :: t32 :: t33 :: t34 :: t35 :: t36 :: t37 :: t38 :: t39 :: t40 :: t41 :: t42 :: t43 :: t44 :: t45 :: t46 :: t47 :: t48 :: t49 :: t50 :: t51 :: t52 :: t53 :: t54 :: t55 :: t56 :: t57 :: t58 :: t59 :: t60 :: t61 :: t62 :: t63 :: t64 :: t65 :: t66 :: t67 :: t68 :: t69 :: t70 :: t71 :: t72 :: t73 :: t74 :: t75 :: t76 :: t77 :: t78 :: t79 :: t80 :: t81 :: t82 :: t83 :: t84 :: (V.lit (Value.bool false)) :: v87 :: v89 :: v91 :: v91 :: t90 :: t91 :: t92 :: t93 :: t94 :: t95 :: t96 :: t97 :: t98 :: []), h92⟩) (
  opsP (xX s 14 wl k false) xg14_3 8 m0 ac (runK (xX s 14 wl k false) (bodyK s.P Try.f14) xk14_3) ⟨(t0 :: t1 :: t2 :: t3 :: t4 :: t5 :: t6 :: t7 :: t8 :: t9 :: t10 :: t11 :: t12 :: t13 :: t14 :: t15 :: t16 :: t17 :: t18 :: t19 :: t20 :: t21 :: t22 :: t23 :: t24 :: t25 :: t26 :: t27 :: t28 :: t29 :: t30 :: t31 :: t32 :: t33 :: t34 :: t35 :: t36 :: t37 :: t38 :: t39 :: t40 :: t41 :: t42 :: t43 :: t44 :: t45 :: t46 :: t47 :: t48 :: t49 :: t50 :: t51 :: t52 :: t53 :: t54 :: t55 :: t56 :: t57 :: t58 :: t59 :: t60 :: t61 :: t62 :: t63 :: t64 :: t65 :: t66 :: t67 :: t68 :: t69 :: t70 :: t71 :: t72 :: t73 :: t74 :: t75 :: t76 :: t77 :: t78 :: t79 :: t80 :: t81 :: t82 :: t83 :: t84 :: t85 :: uu :: t87 :: t88 :: t89 :: t90 :: t91 :: t92 :: t93 :: t94 :: t95 :: t96 :: t97 :: t98 :: []), h⟩) :=
  (go_gdF0 rfl rfl rfl (by kernel_rfl)
  (go_skip0 rfl rfl rfl (by kernel_rfl)
  (go_skip0 rfl rfl rfl (by kernel_rfl)
  (go_skip0 rfl rfl rfl (by kernel_rfl)
  (go_none0 (x := #[]) rfl rfl rfl (by kernel_rfl)
  (go_none0 (x := #[]) rfl rfl rfl (by kernel_rfl)
  (go_none0 (x := #[]) rfl rfl rfl (by kernel_rfl)
  (go_none0 (x := #[]) rfl rfl rfl (by kernel_rfl)
  (go_none0 (x := #[]) rfl rfl rfl (by kernel_rfl)
  (go_none0 (x := #[]) rfl rfl rfl (by kernel_rfl)
  (go_skip0 rfl rfl rfl (by kernel_rfl)
  (by kernel_rfl)))))))))))
  (st_bm (by kernel_rfl) fun v87 h88 =>
  (go_run0 rfl rfl rfl (by kernel_rfl) (st_bm (by kernel_rfl) fun v89 h90 =>
  (go_run0 rfl rfl rfl (by kernel_rfl) (st_bm (by kernel_rfl) fun v91 h92 =>
  (go_run0 rfl rfl rfl (by kernel_rfl) (st_id (v := v91) (H := h92) (by kernel_rfl)
  (by kernel_rfl))))))))
  (by kernel_rfl))
theorem xm14_7 (s : Sys) (k wl : Nat) (m0 : Nat) (ac : List Nat × List Nat) (t0 t1 t2 t3 t4 t5 t6 t7 t8 t9 t10 t11 t12 t13 t14 t15 t16 t17 t18 t19 t20 t21 t22 t23 t24 t25 t26 t27 t28 t29 t30 t31 t32 t33 t34 t35 t36 t37 t38 t39 t40 t41 t42 t43 t44 t45 t46 t47 t48 t49 t50 t51 t52 t53 t54 t55 t56 t57 t58 t59 t60 t61 t62 t63 t64 t65 t66 t67 t68 t69 t70 t71 t72 t73 t74 t75 t76 t77 t78 t79 t80 t81 t82 t83 t84 t85 t86 t87 t88 t89 t90 t91 t92 t93 t94 t95 t96 t97 t98 : V) (h : Hp) : opsP (xX s 14 wl k false) xg14_3 19 m0 ac (runK (xX s 14 wl k false) (bodyK s.P Try.f14) xk14_3) ⟨(t0 :: t1 :: t2 :: t3 :: t4 :: t5 :: t6 :: t7 :: t8 :: t9 :: t10 :: t11 :: t12 :: t13 :: t14 :: t15 :: t16 :: t17 :: t18 :: t19 :: t20 :: t21 :: t22 :: t23 :: t24 :: t25 :: t26 :: t27 :: t28 :: t29 :: t30 :: t31 :: t32 :: t33 :: t34 :: t35 :: t36 :: t37 :: t38 :: t39 :: t40 :: t41 :: t42 :: t43 :: t44 :: t45 :: t46 :: t47 :: t48 :: t49 :: t50 :: t51 :: t52 :: t53 :: t54 :: t55 :: t56 :: t57 :: t58 :: t59 :: t60 :: t61 :: t62 :: t63 :: t64 :: t65 :: t66 :: t67 :: t68 :: t69 :: t70 :: t71 :: t72 :: t73 :: t74 :: t75 :: t76 :: t77 :: t78 :: t79 :: t80 :: t81 :: t82 :: t83 :: t84 :: t85 :: t86 :: t87 :: t88 :: t89 :: t90 :: t91 :: t92 :: t93 :: t94 :: t95 :: t96 :: t97 :: t98 :: []), h⟩ =
  bm (vPick t81 t97 (V.lit (Value.bool false))) h fun v93 h94 =>
  some (v93, h94) :=
  (go_op0 rfl rfl (st_bm (by kernel_rfl) fun v93 h94 =>
  (go_op0 rfl rfl (st_id (v := v93) (H := h94) (by kernel_rfl)
  (go_end0 (by kernel_rfl)
  (go_ret (by kernel_rfl)))))))
theorem xm14_8 (s : Sys) (k wl : Nat) (m0 : Nat) (ac : List Nat × List Nat) (t0 t1 t2 t3 t4 t5 t6 t7 t8 t9 t10 t11 t12 t13 t14 t15 t16 t17 t18 t19 t20 t21 t22 t23 t24 t25 t26 t27 t28 t29 t30 t31 t32 t33 t34 t35 t36 t37 t38 t39 t40 t41 t42 t43 t44 t45 t46 t47 t48 t49 t50 t51 t52 t53 t54 t55 t56 t57 t58 t59 t60 t61 t62 t63 t64 t65 t66 t67 t68 t69 t70 t71 t72 t73 t74 t75 t76 t77 t78 t79 t80 t81 t82 t83 t84 t85 t86 t87 t88 t89 t90 t91 t92 t93 t94 t95 t96 t97 t98 : V) (h : Hp) : opsP (xX s 14 wl k false) xg14_3 18 m0 ac (runK (xX s 14 wl k false) (bodyK s.P Try.f14) xk14_3) ⟨(t0 :: t1 :: t2 :: t3 :: t4 :: t5 :: t6 :: t7 :: t8 :: t9 :: t10 :: t11 :: t12 :: t13 :: t14 :: t15 :: t16 :: t17 :: t18 :: t19 :: t20 :: t21 :: t22 :: t23 :: t24 :: t25 :: t26 :: t27 :: t28 :: t29 :: t30 :: t31 :: t32 :: t33 :: t34 :: t35 :: t36 :: t37 :: t38 :: t39 :: t40 :: t41 :: t42 :: t43 :: t44 :: t45 :: t46 :: t47 :: t48 :: t49 :: t50 :: t51 :: t52 :: t53 :: t54 :: t55 :: t56 :: t57 :: t58 :: t59 :: t60 :: t61 :: t62 :: t63 :: t64 :: t65 :: t66 :: t67 :: t68 :: t69 :: t70 :: t71 :: t72 :: t73 :: t74 :: t75 :: t76 :: t77 :: t78 :: t79 :: t80 :: t81 :: t82 :: t83 :: t84 :: t85 :: t86 :: t87 :: t88 :: t89 :: t90 :: t91 :: t92 :: t93 :: t94 :: t95 :: t96 :: t97 :: t98 :: []), h⟩ =
  gd t81 (
  bm (vPick t85 (V.lit (Value.bool true)) t96) h fun v95 h96 =>
  opsP (xX s 14 wl k false) xg14_3 19 m0 ac (runK (xX s 14 wl k false) (bodyK s.P Try.f14) xk14_3) ⟨(t0 :: t1 :: t2 :: t3 :: t4 :: t5 :: t6 :: t7 :: t8 :: t9 :: t10 :: t11 :: t12 :: t13 :: t14 :: t15 :: t16 :: t17 :: t18 :: t19 :: t20 :: t21 :: t22 :: t23 :: t24 :: t25 :: t26 :: t27 :: t28 :: t29 :: t30 :: t31 :: t32 :: t33 :: t34 :: t35 :: t36 :: t37 :: t38 :: t39 :: t40 :: t41 :: t42 :: t43 :: t44 :: t45 :: t46 :: t47 :: t48 :: t49 :: t50 :: t51 :: t52 :: t53 :: t54 :: t55 :: t56 :: t57 :: t58 :: t59 :: t60 :: t61 :: t62 :: t63 :: t64 :: t65 :: t66 :: t67 :: t68 :: t69 :: t70 :: t71 :: t72 :: t73 :: t74 :: t75 :: t76 :: t77 :: t78 :: t79 :: t80 :: (V.lit (Value.bool true)) :: t82 :: t83 :: t84 :: t85 :: t86 :: t87 :: t88 :: t89 :: t90 :: t91 :: t92 :: t93 :: t94 :: t95 :: t96 :: v95 :: t98 :: []), h96⟩) (
  opsP (xX s 14 wl k false) xg14_3 19 m0 ac (runK (xX s 14 wl k false) (bodyK s.P Try.f14) xk14_3) ⟨(t0 :: t1 :: t2 :: t3 :: t4 :: t5 :: t6 :: t7 :: t8 :: t9 :: t10 :: t11 :: t12 :: t13 :: t14 :: t15 :: t16 :: t17 :: t18 :: t19 :: t20 :: t21 :: t22 :: t23 :: t24 :: t25 :: t26 :: t27 :: t28 :: t29 :: t30 :: t31 :: t32 :: t33 :: t34 :: t35 :: t36 :: t37 :: t38 :: t39 :: t40 :: t41 :: t42 :: t43 :: t44 :: t45 :: t46 :: t47 :: t48 :: t49 :: t50 :: t51 :: t52 :: t53 :: t54 :: t55 :: t56 :: t57 :: t58 :: t59 :: t60 :: t61 :: t62 :: t63 :: t64 :: t65 :: t66 :: t67 :: t68 :: t69 :: t70 :: t71 :: t72 :: t73 :: t74 :: t75 :: t76 :: t77 :: t78 :: t79 :: t80 :: (V.lit (Value.bool false)) :: t82 :: t83 :: t84 :: t85 :: t86 :: t87 :: t88 :: t89 :: t90 :: t91 :: t92 :: t93 :: t94 :: t95 :: t96 :: uu :: t98 :: []), h⟩) (
  opsP (xX s 14 wl k false) xg14_3 19 m0 ac (runK (xX s 14 wl k false) (bodyK s.P Try.f14) xk14_3) ⟨(t0 :: t1 :: t2 :: t3 :: t4 :: t5 :: t6 :: t7 :: t8 :: t9 :: t10 :: t11 :: t12 :: t13 :: t14 :: t15 :: t16 :: t17 :: t18 :: t19 :: t20 :: t21 :: t22 :: t23 :: t24 :: t25 :: t26 :: t27 :: t28 :: t29 :: t30 :: t31 :: t32 :: t33 :: t34 :: t35 :: t36 :: t37 :: t38 :: t39 :: t40 :: t41 :: t42 :: t43 :: t44 :: t45 :: t46 :: t47 :: t48 :: t49 :: t50 :: t51 :: t52 :: t53 :: t54 :: t55 :: t56 :: t57 :: t58 :: t59 :: t60 :: t61 :: t62 :: t63 :: t64 :: t65 :: t66 :: t67 :: t68 :: t69 :: t70 :: t71 :: t72 :: t73 :: t74 :: t75 :: t76 :: t77 :: t78 :: t79 :: t80 :: t81 :: t82 :: t83 :: t84 :: t85 :: t86 :: t87 :: t88 :: t89 :: t90 :: t91 :: t92 :: t93 :: t94 :: t95 :: t96 :: uu :: t98 :: []), h⟩) :=
  (go_gdT0 rfl rfl rfl (by kernel_rfl)
  (st_bm (by kernel_rfl) fun v95 h96 =>
  (by kernel_rfl))
  (by kernel_rfl)
  (by kernel_rfl))
theorem xm14_9 (s : Sys) (k wl : Nat) (m0 : Nat) (ac : List Nat × List Nat) (t0 t1 t2 t3 t4 t5 t6 t7 t8 t9 t10 t11 t12 t13 t14 t15 t16 t17 t18 t19 t20 t21 t22 t23 t24 t25 t26 t27 t28 t29 t30 t31 t32 t33 t34 t35 t36 t37 t38 t39 t40 t41 t42 t43 t44 t45 t46 t47 t48 t49 t50 t51 t52 t53 t54 t55 t56 t57 t58 t59 t60 t61 t62 t63 t64 t65 t66 t67 t68 t69 t70 t71 t72 t73 t74 t75 t76 t77 t78 t79 t80 t81 t82 t83 t84 t85 t86 t87 t88 t89 t90 t91 t92 t93 t94 t95 t96 t97 t98 : V) (h : Hp) : opsP (xX s 14 wl k false) xg14_3 11 m0 ac (runK (xX s 14 wl k false) (bodyK s.P Try.f14) xk14_3) ⟨(t0 :: t1 :: t2 :: t3 :: t4 :: t5 :: t6 :: t7 :: t8 :: t9 :: t10 :: t11 :: t12 :: t13 :: t14 :: t15 :: t16 :: t17 :: t18 :: t19 :: t20 :: t21 :: t22 :: t23 :: t24 :: t25 :: t26 :: t27 :: t28 :: t29 :: t30 :: t31 :: t32 :: t33 :: t34 :: t35 :: t36 :: t37 :: t38 :: t39 :: t40 :: t41 :: t42 :: t43 :: t44 :: t45 :: t46 :: t47 :: t48 :: t49 :: t50 :: t51 :: t52 :: t53 :: t54 :: t55 :: t56 :: t57 :: t58 :: t59 :: t60 :: t61 :: t62 :: t63 :: t64 :: t65 :: t66 :: t67 :: t68 :: t69 :: t70 :: t71 :: t72 :: t73 :: t74 :: t75 :: t76 :: t77 :: t78 :: t79 :: t80 :: t81 :: t82 :: t83 :: t84 :: t85 :: t86 :: t87 :: t88 :: t89 :: t90 :: t91 :: t92 :: t93 :: t94 :: t95 :: t96 :: t97 :: t98 :: []), h⟩ =
  gd t89 (
  bm (vLoad s.P 23 t14 h) h fun v97 h98 =>
  bp (callV (xX s 14 wl k false) false true (.fn (.func 30) [] []) [v97, t2] h98) fun v99 h100 =>
  bp (callV (xX s 14 wl k false) false true (.fn (.func 34) [] []) [t9, v99] h100) fun v101 h102 =>
  bm (vBin s.P .eql 26 v101 (V.lit (Value.int .u64 1))) h102 fun v103 h104 =>
  opsP (xX s 14 wl k false) xg14_3 17 m0 ac (runK (xX s 14 wl k false) (bodyK s.P Try.f14) xk14_3) ⟨(t0 :: t1 :: t2 :: t3 :: t4 :: t5 :: t6 :: t7 :: t8 :: t9 :: t10 :: t11 :: t12 :: t13 :: t14 :: t15 :: t16 :: t17 :: t18 :: t19 :: t20 :: t21 :: t22 :: t23 :: t24 :: t25 :: t26 :: t27 :: t28 :: t29 :: t30 :: t31 :: t32 :: t33 :: t34 :: t35 :: t36 :: t37 :: t38 :: t39 :: t40 :: t41 :: t42 :: t43 :: t44 :: t45 :: t46 :: t47 :: t48 :: t49 :: t50 :: t51 :: t52 :: t53 :: t54 :: t55 :: t56 :: t57 :: t58 :: t59 :: t60 :: t61 :: t62 :: t63 :: t64 :: t65 :: t66 :: t67 :: t68 :: t69 :: t70 :: t71 :: t72 :: t73 :: t74 :: t75 :: t76 :: t77 :: t78 :: t79 :: t80 :: t81 :: t82 :: t83 :: t84 :: t85 :: t86 :: t87 :: t88 :: (V.lit (Value.bool true)) :: t9 :: v97 :: t2 :: v99 :: v101 :: v103 :: t96 :: t97 :: t98 :: []), h104⟩) (
  opsP (xX s 14 wl k false) xg14_3 17 m0 ac (runK (xX s 14 wl k false) (bodyK s.P Try.f14) xk14_3) ⟨(t0 :: t1 :: t2 :: t3 :: t4 :: t5 :: t6 :: t7 :: t8 :: t9 :: t10 :: t11 :: t12 :: t13 :: t14 :: t15 :: t16 :: t17 :: t18 :: t19 :: t20 :: t21 :: t22 :: t23 :: t24 :: t25 :: t26 :: t27 :: t28 :: t29 :: t30 :: t31 :: t32 :: t33 :: t34 :: t35 :: t36 :: t37 :: t38 :: t39 :: t40 :: t41 :: t42 :: t43 :: t44 :: t45 :: t46 :: t47 :: t48 :: t49 :: t50 :: t51 :: t52 :: t53 :: t54 :: t55 :: t56 :: t57 :: t58 :: t59 :: t60 :: t61 :: t62 :: t63 :: t64 :: t65 :: t66 :: t67 :: t68 :: t69 :: t70 :: t71 :: t72 :: t73 :: t74 :: t75 :: t76 :: t77 :: t78 :: t79 :: t80 :: t81 :: t82 :: t83 :: t84 :: t85 :: t86 :: t87 :: t88 :: (V.lit (Value.bool false)) :: uu :: uu :: uu :: uu :: uu :: uu :: t96 :: t97 :: t98 :: []), h⟩) (
  opsP (xX s 14 wl k false) xg14_3 12 m0 ac (runK (xX s 14 wl k false) (bodyK s.P Try.f14) xk14_3) ⟨(t0 :: t1 :: t2 :: t3 :: t4 :: t5 :: t6 :: t7 :: t8 :: t9 :: t10 :: t11 :: t12 :: t13 :: t14 :: t15 :: t16 :: t17 :: t18 :: t19 :: t20 :: t21 :: t22 :: t23 :: t24 :: t25 :: t26 :: t27 :: t28 :: t29 :: t30 :: t31 :: t32 :: t33 :: t34 :: t35 :: t36 :: t37 :: t38 :: t39 :: t40 :: t41 :: t42 :: t43 :: t44 :: t45 :: t46 :: t47 :: t48 :: t49 :: t50 :: t51 :: t52 :: t53 :: t54 :: t55 :: t56 :: t57 :: t58 :: t59 :: t60 :: t61 :: t62 :: t63 :: t64 :: t65 :: t66 :: t67 :: t68 :: t69 :: t70 :: t71 :: t72 :: t73 :: t74 :: t75 :: t76 :: t77 :: t78 :: t79 :: t80 :: t81 :: t82 :: t83 :: t84 :: t85 :: t86 :: t87 :: t88 :: t89 :: uu :: t91 :: t92 :: t93 :: t94 :: t95 :: t96 :: t97 :: t98 :: []), h⟩) :=
  (go_gdT0 rfl rfl rfl (by kernel_rfl)
  (st_id (v := t9) (H := h) (by kernel_rfl)
  (go_run0 rfl rfl rfl (by kernel_rfl) (st_bm (by kernel_rfl) fun v97 h98 =>
  (go_run0 rfl rfl rfl (by kernel_rfl) (st_id (v := t2) (H := h98) (by kernel_rfl)
  (go_run0 rfl rfl rfl (by kernel_rfl) (st_bp (by kernel_rfl) fun v99 h100 =>
  (go_run0 rfl rfl rfl (by kernel_rfl) (st_bp (by kernel_rfl) fun v101 h102 =>
  (go_run0 rfl rfl rfl (by kernel_rfl) (st_bm (by kernel_rfl) fun v103 h104 =>
  (by kernel_rfl))))))))))))
  (go_skip0 rfl rfl rfl (by kernel_rfl)
  (go_skip0 rfl rfl rfl (by kernel_rfl)
  (go_skip0 rfl rfl rfl (by kernel_rfl)
  (go_skip0 rfl rfl rfl (by kernel_rfl)
  (go_skip0 rfl rfl rfl (by kernel_rfl)
  (by kernel_rfl))))))
  (by kernel_rfl))
theorem xm14_10 (s : Sys) (k wl : Nat) (m0 : Nat) (ac : List Nat × List Nat) (t0 t1 t2 t3 t4 t5 t6 t7 t8 t9 t10 t11 t12 t13 t14 t15 t16 t17 t18 t19 t20 t21 t22 t23 t24 t25 t26 t27 t28 t29 t30 t31 t32 t33 t34 t35 t36 t37 t38 t39 t40 t41 t42 t43 t44 t45 t46 t47 t48 t49 t50 t51 t52 t53 t54 t55 t56 t57 t58 t59 t60 t61 t62 t63 t64 t65 t66 t67 t68 t69 t70 t71 t72 t73 t74 t75 t76 t77 t78 t79 t80 t81 t82 t83 t84 t85 t86 t87 t88 t89 t90 t91 t92 t93 t94 t95 t96 t97 t98 : V) (h : Hp) : opsP (xX s 14 wl k false) xg14_3 8 m0 ac (runK (xX s 14 wl k false) (bodyK s.P Try.f14) xk14_3) ⟨(t0 :: t1 :: t2 :: t3 :: t4 :: t5 :: t6 :: t7 :: t8 :: t9 :: t10 :: t11 :: t12 :: t13 :: t14 :: t15 :: t16 :: t17 :: t18 :: t19 :: t20 :: t21 :: t22 :: t23 :: t24 :: t25 :: t26 :: t27 :: t28 :: t29 :: t30 :: t31 :: t32 :: t33 :: t34 :: t35 :: t36 :: t37 :: t38 :: t39 :: t40 :: t41 :: t42 :: t43 :: t44 :: t45 :: t46 :: t47 :: t48 :: t49 :: t50 :: t51 :: t52 :: t53 :: t54 :: t55 :: t56 :: t57 :: t58 :: t59 :: t60 :: t61 :: t62 :: t63 :: t64 :: t65 :: t66 :: t67 :: t68 :: t69 :: t70 :: t71 :: t72 :: t73 :: t74 :: t75 :: t76 :: t77 :: t78 :: t79 :: t80 :: t81 :: t82 :: t83 :: t84 :: t85 :: t86 :: t87 :: t88 :: t89 :: t90 :: t91 :: t92 :: t93 :: t94 :: t95 :: t96 :: t97 :: t98 :: []), h⟩ =
  gd t85 (
  opsP (xX s 14 wl k false) xg14_3 18 m0 ac (runK (xX s 14 wl k false) (bodyK s.P Try.f14) xk14_3) ⟨(t0 :: t1 :: t2 :: t3 :: t4 :: t5 :: t6 :: t7 :: t8 :: t9 :: t10 :: t11 :: t12 :: t13 :: t14 :: t15 :: t16 :: t17 :: t18 :: t19 :: t20 :: t21 :: t22 :: t23 :: t24 :: t25 :: t26 :: t27 :: t28 :: t29 :: t30 :: t31 :: t32 :: t33 :: t34 :: t35 :: t36 :: t37 :: t38 :: t39 :: t40 :: t41 :: t42 :: t43 :: t44 :: t45 :: t46 :: t47 :: t48 :: t49 :: t50 :: t51 :: t52 :: t53 :: t54 :: t55 :: t56 :: t57 :: t58 :: t59 :: t60 :: t61 :: t62 :: t63 :: t64 :: t65 :: t66 :: t67 :: t68 :: t69 :: t70 :: t71 :: t72 :: t73 :: t74 :: t75 :: t76 :: t77 :: t78 :: t79 :: t80 :: t81 :: t82 :: t83 :: t84 :: (V.lit (Value.bool true)) :: t86 :: uu :: uu :: uu :: uu :: uu :: uu :: uu :: uu :: uu :: uu :: t97 :: t98 :: []), h⟩) (
  bm (vLoad s.P 3 t86 h) h fun v105 h106 =>
  bm (vBin s.P .eql 3 v105 (V.lit (Value.int .i64 4))) h106 fun v107 h108 =>
  opsP (xX s 14 wl k false) xg14_3 11 m0 ac (runK (xX s 14 wl k false) (bodyK s.P Try.f14) xk14_3) ⟨(t0 :: t1 :: t2 :: t3 :: t4 :: t5 :: t6 :: t7 :: t8 :: t9 :: t10 :: t11 :: t12 :: t13 :: t14 :: t15 :: t16 :: t17 :: t18 :: t19 :: t20 :: t21 :: t22 :: t23 :: t24 :: t25 :: t26 :: t27 :: t28 :: t29 :: t30 :: t31 :: t32 :: t33 :: t34 :: t35 :: t36 :: t37 :: t38 :: t39 :: t40 :: t41 :: t42 :: t43 :: t44 :: t45 :: t46 :: t47 :: t48 :: t49 :: t50 :: t51 :: t52 :: t53 :: t54 :: t55 :: t56 :: t57 :: t58 :: t59 :: t60 :: t61 :: t62 :: t63 :: t64 :: t65 :: t66 :: t67 :: t68 :: t69 :: t70 :: t71 :: t72 :: t73 :: t74 :: t75 :: t76 :: t77 :: t78 :: t79 :: t80 :: t81 :: t82 :: t83 :: t84 :: (V.lit (Value.bool false)) :: t86 :: v105 :: v107 :: v107 :: t90 :: t91 :: t92 :: t93 :: t94 :: t95 :: t96 :: t97 :: t98 :: []), h108⟩) (
  opsP (xX s 14 wl k false) xg14_3 9 m0 ac (runK (xX s 14 wl k false) (bodyK s.P Try.f14) xk14_3) ⟨(t0 :: t1 :: t2 :: t3 :: t4 :: t5 :: t6 :: t7 :: t8 :: t9 :: t10 :: t11 :: t12 :: t13 :: t14 :: t15 :: t16 :: t17 :: t18 :: t19 :: t20 :: t21 :: t22 :: t23 :: t24 :: t25 :: t26 :: t27 :: t28 :: t29 :: t30 :: t31 :: t32 :: t33 :: t34 :: t35 :: t36 :: t37 :: t38 :: t39 :: t40 :: t41 :: t42 :: t43 :: t44 :: t45 :: t46 :: t47 :: t48 :: t49 :: t50 :: t51 :: t52 :: t53 :: t54 :: t55 :: t56 :: t57 :: t58 :: t59 :: t60 :: t61 :: t62 :: t63 :: t64 :: t65 :: t66 :: t67 :: t68 :: t69 :: t70 :: t71 :: t72 :: t73 :: t74 :: t75 :: t76 :: t77 :: t78 :: t79 :: t80 :: t81 :: t82 :: t83 :: t84 :: t85 :: t86 :: uu :: t88 :: t89 :: t90 :: t91 :: t92 :: t93 :: t94 :: t95 :: t96 :: t97 :: t98 :: []), h⟩) :=
  (go_gdF0 rfl rfl rfl (by kernel_rfl)
  (go_skip0 rfl rfl rfl (by kernel_rfl)
  (go_skip0 rfl rfl rfl (by kernel_rfl)
  (go_none0 (x := #[]) rfl rfl rfl (by kernel_rfl)
  (go_none0 (x := #[]) rfl rfl rfl (by kernel_rfl)
  (go_none0 (x := #[]) rfl rfl rfl (by kernel_rfl)
  (go_none0 (x := #[]) rfl rfl rfl (by kernel_rfl)
  (go_none0 (x := #[]) rfl rfl rfl (by kernel_rfl)
  (go_none0 (x := #[]) rfl rfl rfl (by kernel_rfl)
  (go_skip0 rfl rfl rfl (by kernel_rfl)
  (by kernel_rfl))))))))))
  (st_bm (by kernel_rfl) fun v105 h106 =>
  (go_run0 rfl rfl rfl (by kernel_rfl) (st_bm (by kernel_rfl) fun v107 h108 =>
  (go_run0 rfl rfl rfl (by kernel_rfl) (st_id (v := v107) (H := h108) (by kernel_rfl)
  (by kernel_rfl))))))
  (by kernel_rfl))
theorem xm14_11 (s : Sys) (k wl : Nat) (m0 : Nat) (ac : List Nat × List Nat) (t0 t1 t2 t3 t4 t5 t6 t7 t8 t9 t10 t11 t12 t13 t14 t15 t16 t17 t18 t19 t20 t21 t22 t23 t24 t25 t26 t27 t28 t29 t30 t31 t32 t33 t34 t35 t36 t37 t38 t39 t40 t41 t42 t43 t44 t45 t46 t47 t48 t49 t50 t51 t52 t53 t54 t55 t56 t57 t58 t59 t60 t61 t62 t63 t64 t65 t66 t67 t68 t69 t70 t71 t72 t73 t74 t75 t76 t77 t78 t79 t80 t81 t82 t83 t84 t85 t86 t87 t88 t89 t90 t91 t92 t93 t94 t95 t96 t97 t98 : V) (h : Hp) : opsP (xX s 14 wl k false) xg14_3 17 m0 ac (runK (xX s 14 wl k false) (bodyK s.P Try.f14) xk14_3) ⟨(t0 :: t1 :: t2 :: t3 :: t4 :: t5 :: t6 :: t7 :: t8 :: t9 :: t10 :: t11 :: t12 :: t13 :: t14 :: t15 :: t16 :: t17 :: t18 :: t19 :: t20 :: t21 :: t22 :: t23 :: t24 :: t25 :: t26 :: t27 :: t28 :: t29 :: t30 :: t31 :: t32 :: t33 :: t34 :: t35 :: t36 :: t37 :: t38 :: t39 :: t40 :: t41 :: t42 :: t43 :: t44 :: t45 :: t46 :: t47 :: t48 :: t49 :: t50 :: t51 :: t52 :: t53 :: t54 :: t55 :: t56 :: t57 :: t58 :: t59 :: t60 :: t61 :: t62 :: t63 :: t64 :: t65 :: t66 :: t67 :: t68 :: t69 :: t70 :: t71 :: t72 :: t73 :: t74 :: t75 :: t76 :: t77 :: t78 :: t79 :: t80 :: t81 :: t82 :: t83 :: t84 :: t85 :: t86 :: t87 :: t88 :: t89 :: t90 :: t91 :: t92 :: t93 :: t94 :: t95 :: t96 :: t97 :: t98 :: []), h⟩ =
  gd t85 (
  opsP (xX s 14 wl k false) xg14_3 18 m0 ac (runK (xX s 14 wl k false) (bodyK s.P Try.f14) xk14_3) ⟨(t0 :: t1 :: t2 :: t3 :: t4 :: t5 :: t6 :: t7 :: t8 :: t9 :: t10 :: t11 :: t12 :: t13 :: t14 :: t15 :: t16 :: t17 :: t18 :: t19 :: t20 :: t21 :: t22 :: t23 :: t24 :: t25 :: t26 :: t27 :: t28 :: t29 :: t30 :: t31 :: t32 :: t33 :: t34 :: t35 :: t36 :: t37 :: t38 :: t39 :: t40 :: t41 :: t42 :: t43 :: t44 :: t45 :: t46 :: t47 :: t48 :: t49 :: t50 :: t51 :: t52 :: t53 :: t54 :: t55 :: t56 :: t57 :: t58 :: t59 :: t60 :: t61 :: t62 :: t63 :: t64 :: t65 :: t66 :: t67 :: t68 :: t69 :: t70 :: t71 :: t72 :: t73 :: t74 :: t75 :: t76 :: t77 :: t78 :: t79 :: t80 :: t81 :: t82 :: t83 :: t84 :: (V.lit (Value.bool true)) :: t86 :: t87 :: t88 :: t89 :: t90 :: t91 :: t92 :: t93 :: t94 :: t95 :: uu :: t97 :: t98 :: []), h⟩) (
  bm (vPick t89 t95 (V.lit (Value.bool false))) h fun v109 h110 =>
  opsP (xX s 14 wl k false) xg14_3 18 m0 ac (runK (xX s 14 wl k false) (bodyK s.P Try.f14) xk14_3) ⟨(t0 :: t1 :: t2 :: t3 :: t4 :: t5 :: t6 :: t7 :: t8 :: t9 :: t10 :: t11 :: t12 :: t13 :: t14 :: t15 :: t16 :: t17 :: t18 :: t19 :: t20 :: t21 :: t22 :: t23 :: t24 :: t25 :: t26 :: t27 :: t28 :: t29 :: t30 :: t31 :: t32 :: t33 :: t34 :: t35 :: t36 :: t37 :: t38 :: t39 :: t40 :: t41 :: t42 :: t43 :: t44 :: t45 :: t46 :: t47 :: t48 :: t49 :: t50 :: t51 :: t52 :: t53 :: t54 :: t55 :: t56 :: t57 :: t58 :: t59 :: t60 :: t61 :: t62 :: t63 :: t64 :: t65 :: t66 :: t67 :: t68 :: t69 :: t70 :: t71 :: t72 :: t73 :: t74 :: t75 :: t76 :: t77 :: t78 :: t79 :: t80 :: t81 :: t82 :: t83 :: t84 :: (V.lit (Value.bool false)) :: t86 :: t87 :: t88 :: t89 :: t90 :: t91 :: t92 :: t93 :: t94 :: t95 :: v109 :: t97 :: t98 :: []), h110⟩) (
  opsP (xX s 14 wl k false) xg14_3 18 m0 ac (runK (xX s 14 wl k false) (bodyK s.P Try.f14) xk14_3) ⟨(t0 :: t1 :: t2 :: t3 :: t4 :: t5 :: t6 :: t7 :: t8 :: t9 :: t10 :: t11 :: t12 :: t13 :: t14 :: t15 :: t16 :: t17 :: t18 :: t19 :: t20 :: t21 :: t22 :: t23 :: t24 :: t25 :: t26 :: t27 :: t28 :: t29 :: t30 :: t31 :: t32 :: t33 :: t34 :: t35 :: t36 :: t37 :: t38 :: t39 :: t40 :: t41 :: t42 :: t43 :: t44 :: t45 :: t46 :: t47 :: t48 :: t49 :: t50 :: t51 :: t52 :: t53 :: t54 :: t55 :: t56 :: t57 :: t58 :: t59 :: t60 :: t61 :: t62 :: t63 :: t64 :: t65 :: t66 :: t67 :: t68 :: t69 :: t70 :: t71 :: t72 :: t73 :: t74 :: t75 :: t76 :: t77 :: t78 :: t79 :: t80 :: t81 :: t82 :: t83 :: t84 :: t85 :: t86 :: t87 :: t88 :: t89 :: t90 :: t91 :: t92 :: t93 :: t94 :: t95 :: uu :: t97 :: t98 :: []), h⟩) :=
  (go_gdF0 rfl rfl rfl (by kernel_rfl)
  (by kernel_rfl)
  (st_bm (by kernel_rfl) fun v109 h110 =>
  (by kernel_rfl))
  (by kernel_rfl))
theorem xm14_12 (s : Sys) (k wl : Nat) (m0 : Nat) (ac : List Nat × List Nat) (t0 t1 t2 t3 t4 t5 t6 t7 t8 t9 t10 t11 t12 t13 t14 t15 t16 t17 t18 t19 t20 t21 t22 t23 t24 t25 t26 t27 t28 t29 t30 t31 t32 t33 t34 t35 t36 t37 t38 t39 t40 t41 t42 t43 t44 t45 t46 t47 t48 t49 t50 t51 t52 t53 t54 t55 t56 t57 t58 t59 t60 t61 t62 t63 t64 t65 t66 t67 t68 t69 t70 t71 t72 t73 t74 t75 t76 t77 t78 t79 t80 t81 t82 t83 t84 t85 t86 t87 t88 t89 t90 t91 t92 t93 t94 t95 t96 t97 t98 : V) (h : Hp) : opsP (xX s 14 wl k false) xg14_3 12 m0 ac (runK (xX s 14 wl k false) (bodyK s.P Try.f14) xk14_3) ⟨(t0 :: t1 :: t2 :: t3 :: t4 :: t5 :: t6 :: t7 :: t8 :: t9 :: t10 :: t11 :: t12 :: t13 :: t14 :: t15 :: t16 :: t17 :: t18 :: t19 :: t20 :: t21 :: t22 :: t23 :: t24 :: t25 :: t26 :: t27 :: t28 :: t29 :: t30 :: t31 :: t32 :: t33 :: t34 :: t35 :: t36 :: t37 :: t38 :: t39 :: t40 :: t41 :: t42 :: t43 :: t44 :: t45 :: t46 :: t47 :: t48 :: t49 :: t50 :: t51 :: t52 :: t53 :: t54 :: t55 :: t56 :: t57 :: t58 :: t59 :: t60 :: t61 :: t62 :: t63 :: t64 :: t65 :: t66 :: t67 :: t68 :: t69 :: t70 :: t71 :: t72 :: t73 :: t74 :: t75 :: t76 :: t77 :: t78 :: t79 :: t80 :: t81 :: t82 :: t83 :: t84 :: t85 :: t86 :: t87 :: t88 :: t89 :: t90 :: t91 :: t92 :: t93 :: t94 :: t95 :: t96 :: t97 :: t98 :: []), h⟩ =
  gd t89 (
  bm (vLoad s.P 23 t14 h) h fun v111 h112 =>
  bp (callV (xX s 14 wl k false) false true (.fn (.func 30) [] []) [v111, t2] h112) fun v113 h114 =>
  bp (callV (xX s 14 wl k false) false true (.fn (.func 34) [] []) [t90, v113] h114) fun v115 h116 =>
  bm (vBin s.P .eql 26 v115 (V.lit (Value.int .u64 1))) h116 fun v117 h118 =>
  opsP (xX s 14 wl k false) xg14_3 17 m0 ac (runK (xX s 14 wl k false) (bodyK s.P Try.f14) xk14_3) ⟨(t0 :: t1 :: t2 :: t3 :: t4 :: t5 :: t6 :: t7 :: t8 :: t9 :: t10 :: t11 :: t12 :: t13 :: t14 :: t15 :: t16 :: t17 :: t18 :: t19 :: t20 :: t21 :: t22 :: t23 :: t24 :: t25 :: t26 :: t27 :: t28 :: t29 :: t30 :: t31 :: t32 :: t33 :: t34 :: t35 :: t36 :: t37 :: t38 :: t39 :: t40 :: t41 :: t42 :: t43 :: t44 :: t45 :: t46 :: t47 :: t48 :: t49 :: t50 :: t51 :: t52 :: t53 :: t54 :: t55 :: t56 :: t57 :: t58 :: t59 :: t60 :: t61 :: t62 :: t63 :: t64 :: t65 :: t66 :: t67 :: t68 :: t69 :: t70 :: t71 :: t72 :: t73 :: t74 :: t75 :: t76 :: t77 :: t78 :: t79 :: t80 :: t81 :: t82 :: t83 :: t84 :: t85 :: t86 :: t87 :: t88 :: (V.lit (Value.bool true)) :: t90 :: v111 :: t2 :: v113 :: v115 :: v117 :: t96 :: t97 :: t98 :: []), h118⟩) (
  opsP (xX s 14 wl k false) xg14_3 17 m0 ac (runK (xX s 14 wl k false) (bodyK s.P Try.f14) xk14_3) ⟨(t0 :: t1 :: t2 :: t3 :: t4 :: t5 :: t6 :: t7 :: t8 :: t9 :: t10 :: t11 :: t12 :: t13 :: t14 :: t15 :: t16 :: t17 :: t18 :: t19 :: t20 :: t21 :: t22 :: t23 :: t24 :: t25 :: t26 :: t27 :: t28 :: t29 :: t30 :: t31 :: t32 :: t33 :: t34 :: t35 :: t36 :: t37 :: t38 :: t39 :: t40 :: t41 :: t42 :: t43 :: t44 :: t45 :: t46 :: t47 :: t48 :: t49 :: t50 :: t51 :: t52 :: t53 :: t54 :: t55 :: t56 :: t57 :: t58 :: t59 :: t60 :: t61 :: t62 :: t63 :: t64 :: t65 :: t66 :: t67 :: t68 :: t69 :: t70 :: t71 :: t72 :: t73 :: t74 :: t75 :: t76 :: t77 :: t78 :: t79 :: t80 :: t81 :: t82 :: t83 :: t84 :: t85 :: t86 :: t87 :: t88 :: (V.lit (Value.bool false)) :: t90 :: uu :: uu :: uu :: uu :: uu :: t96 :: t97 :: t98 :: []), h⟩) (
  opsP (xX s 14 wl k false) xg14_3 13 m0 ac (runK (xX s 14 wl k false) (bodyK s.P Try.f14) xk14_3) ⟨(t0 :: t1 :: t2 :: t3 :: t4 :: t5 :: t6 :: t7 :: t8 :: t9 :: t10 :: t11 :: t12 :: t13 :: t14 :: t15 :: t16 :: t17 :: t18 :: t19 :: t20 :: t21 :: t22 :: t23 :: t24 :: t25 :: t26 :: t27 :: t28 :: t29 :: t30 :: t31 :: t32 :: t33 :: t34 :: t35 :: t36 :: t37 :: t38 :: t39 :: t40 :: t41 :: t42 :: t43 :: t44 :: t45 :: t46 :: t47 :: t48 :: t49 :: t50 :: t51 :: t52 :: t53 :: t54 :: t55 :: t56 :: t57 :: t58 :: t59 :: t60 :: t61 :: t62 :: t63 :: t64 :: t65 :: t66 :: t67 :: t68 :: t69 :: t70 :: t71 :: t72 :: t73 :: t74 :: t75 :: t76 :: t77 :: t78 :: t79 :: t80 :: t81 :: t82 :: t83 :: t84 :: t85 :: t86 :: t87 :: t88 :: t89 :: t90 :: uu :: t92 :: t93 :: t94 :: t95 :: t96 :: t97 :: t98 :: []), h⟩) :=
  (go_gdT0 rfl rfl rfl (by kernel_rfl)
  (st_bm (by kernel_rfl) fun v111 h112 =>
  (go_run0 rfl rfl rfl (by kernel_rfl) (st_id (v := t2) (H := h112) (by kernel_rfl)
  (go_run0 rfl rfl rfl (by kernel_rfl) (st_bp (by kernel_rfl) fun v113 h114 =>
  (go_run0 rfl rfl rfl (by kernel_rfl) (st_bp (by kernel_rfl) fun v115 h116 =>
  (go_run0 rfl rfl rfl (by kernel_rfl) (st_bm (by kernel_rfl) fun v117 h118 =>
  (by kernel_rfl))))))))))
  (go_skip0 rfl rfl rfl (by kernel_rfl)
  (go_skip0 rfl rfl rfl (by kernel_rfl)
  (go_skip0 rfl rfl rfl (by kernel_rfl)
  (go_skip0 rfl rfl rfl (by kernel_rfl)
  (by kernel_rfl)))))
  (by kernel_rfl))
theorem xm14_13 (s : Sys) (k wl : Nat) (m0 : Nat) (ac : List Nat × List Nat) (t0 t1 t2 t3 t4 t5 t6 t7 t8 t9 t10 t11 t12 t13 t14 t15 t16 t17 t18 t19 t20 t21 t22 t23 t24 t25 t26 t27 t28 t29 t30 t31 t32 t33 t34 t35 t36 t37 t38 t39 t40 t41 t42 t43 t44 t45 t46 t47 t48 t49 t50 t51 t52 t53 t54 t55 t56 t57 t58 t59 t60 t61 t62 t63 t64 t65 t66 t67 t68 t69 t70 t71 t72 t73 t74 t75 t76 t77 t78 t79 t80 t81 t82 t83 t84 t85 t86 t87 t88 t89 t90 t91 t92 t93 t94 t95 t96 t97 t98 : V) (h : Hp) : opsP (xX s 14 wl k false) xg14_3 9 m0 ac (runK (xX s 14 wl k false) (bodyK s.P Try.f14) xk14_3) ⟨(t0 :: t1 :: t2 :: t3 :: t4 :: t5 :: t6 :: t7 :: t8 :: t9 :: t10 :: t11 :: t12 :: t13 :: t14 :: t15 :: t16 :: t17 :: t18 :: t19 :: t20 :: t21 :: t22 :: t23 :: t24 :: t25 :: t26 :: t27 :: t28 :: t29 :: t30 :: t31 :: t32 :: t33 :: t34 :: t35 :: t36 :: t37 :: t38 :: t39 :: t40 :: t41 :: t42 :: t43 :: t44 :: t45 :: t46 :: t47 :: t48 :: t49 :: t50 :: t51 :: t52 :: t53 :: t54 :: t55 :: t56 :: t57 :: t58 :: t59 :: t60 :: t61 :: t62 :: t63 :: t64 :: t65 :: t66 :: t67 :: t68 :: t69 :: t70 :: t71 :: t72 :: t73 :: t74 :: t75 :: t76 :: t77 :: t78 :: t79 :: t80 :: t81 :: t82 :: t83 :: t84 :: t85 :: t86 :: t87 :: t88 :: t89 :: t90 :: t91 :: t92 :: t93 :: t94 :: t95 :: t96 :: t97 :: t98 :: []), h⟩ =
  gd t85 (
  opsP (xX s 14 wl k false) xg14_3 18 m0 ac (runK (xX s 14 wl k false) (bodyK s.P Try.f14) xk14_3) ⟨(t0 :: t1 :: t2 :: t3 :: t4 :: t5 :: t6 :: t7 :: t8 :: t9 :: t10 :: t11 :: t12 :: t13 :: t14 :: t15 :: t16 :: t17 :: t18 :: t19 :: t20 :: t21 :: t22 :: t23 :: t24 :: t25 :: t26 :: t27 :: t28 :: t29 :: t30 :: t31 :: t32 :: t33 :: t34 :: t35 :: t36 :: t37 :: t38 :: t39 :: t40 :: t41 :: t42 :: t43 :: t44 :: t45 :: t46 :: t47 :: t48 :: t49 :: t50 :: t51 :: t52 :: t53 :: t54 :: t55 :: t56 :: t57 :: t58 :: t59 :: t60 :: t61 :: t62 :: t63 :: t64 :: t65 :: t66 :: t67 :: t68 :: t69 :: t70 :: t71 :: t72 :: t73 :: t74 :: t75 :: t76 :: t77 :: t78 :: t79 :: t80 :: t81 :: t82 :: t83 :: t84 :: (V.lit (Value.bool true)) :: t86 :: t87 :: uu :: uu :: uu :: uu :: uu :: uu :: uu :: uu :: uu :: t97 :: t98 :: []), h⟩) (
  bm (vBin s.P .eql 3 t87 (V.lit (Value.int .i64 4))) h fun v119 h120 =>
  opsP (xX s 14 wl k false) xg14_3 11 m0 ac (runK (xX s 14 wl k false) (bodyK s.P Try.f14) xk14_3) ⟨(t0 :: t1 :: t2 :: t3 :: t4 :: t5 :: t6 :: t7 :: t8 :: t9 :: t10 :: t11 :: t12 :: t13 :: t14 :: t15 :: t16 :: t17 :: t18 :: t19 :: t20 :: t21 :: t22 :: t23 :: t24 :: t25 :: t26 :: t27 :: t28 :: t29 :: t30 :: t31 :: t32 :: t33 :: t34 :: t35 :: t36 :: t37 :: t38 :: t39 :: t40 :: t41 :: t42 :: t43 :: t44 :: t45 :: t46 :: t47 :: t48 :: t49 :: t50 :: t51 :: t52 :: t53 :: t54 :: t55 :: t56 :: t57 :: t58 :: t59 :: t60 :: t61 :: t62 :: t63 :: t64 :: t65 :: t66 :: t67 :: t68 :: t69 :: t70 :: t71 :: t72 :: t73 :: t74 :: t75 :: t76 :: t77 :: t78 :: t79 :: t80 :: t81 :: t82 :: t83 :: t84 :: (V.lit (Value.bool false)) :: t86 :: t87 :: v119 :: v119 :: t90 :: t91 :: t92 :: t93 :: t94 :: t95 :: t96 :: t97 :: t98 :: []), h120⟩) (
  opsP (xX s 14 wl k false) xg14_3 10 m0 ac (runK (xX s 14 wl k false) (bodyK s.P Try.f14) xk14_3) ⟨(t0 :: t1 :: t2 :: t3 :: t4 :: t5 :: t6 :: t7 :: t8 :: t9 :: t10 :: t11 :: t12 :: t13 :: t14 :: t15 :: t16 :: t17 :: t18 :: t19 :: t20 :: t21 :: t22 :: t23 :: t24 :: t25 :: t26 :: t27 :: t28 :: t29 :: t30 :: t31 :: t32 :: t33 :: t34 :: t35 :: t36 :: t37 :: t38 :: t39 :: t40 :: t41 :: t42 :: t43 :: t44 :: t45 :: t46 :: t47 :: t48 :: t49 :: t50 :: t51 :: t52 :: t53 :: t54 :: t55 :: t56 :: t57 :: t58 :: t59 :: t60 :: t61 :: t62 :: t63 :: t64 :: t65 :: t66 :: t67 :: t68 :: t69 :: t70 :: t71 :: t72 :: t73 :: t74 :: t75 :: t76 :: t77 :: t78 :: t79 :: t80 :: t81 :: t82 :: t83 :: t84 :: t85 :: t86 :: t87 :: uu :: t89 :: t90 :: t91 :: t92 :: t93 :: t94 :: t95 :: t96 :: t97 :: t98 :: []), h⟩) :=
  (go_gdF0 rfl rfl rfl (by kernel_rfl)
  (go_skip0 rfl rfl rfl (by kernel_rfl)
  (go_none0 (x := #[]) rfl rfl rfl (by kernel_rfl)
  (go_none0 (x := #[]) rfl rfl rfl (by kernel_rfl)
  (go_none0 (x := #[]) rfl rfl rfl (by kernel_rfl)
  (go_none0 (x := #[]) rfl rfl rfl (by kernel_rfl)
  (go_none0 (x := #[]) rfl rfl rfl (by kernel_rfl)
  (go_none0 (x := #[]) rfl rfl rfl (by kernel_rfl)
  (go_skip0 rfl rfl rfl (by kernel_rfl)
  (by kernel_rfl)))))))))
  (st_bm (by kernel_rfl) fun v119 h120 =>
  (go_run0 rfl rfl rfl (by kernel_rfl) (st_id (v := v119) (H := h120) (by kernel_rfl)
  (by kernel_rfl))))
  (by kernel_rfl))
theorem xm14_14 (s : Sys) (k wl : Nat) (m0 : Nat) (ac : List Nat × List Nat) (t0 t1 t2 t3 t4 t5 t6 t7 t8 t9 t10 t11 t12 t13 t14 t15 t16 t17 t18 t19 t20 t21 t22 t23 t24 t25 t26 t27 t28 t29 t30 t31 t32 t33 t34 t35 t36 t37 t38 t39 t40 t41 t42 t43 t44 t45 t46 t47 t48 t49 t50 t51 t52 t53 t54 t55 t56 t57 t58 t59 t60 t61 t62 t63 t64 t65 t66 t67 t68 t69 t70 t71 t72 t73 t74 t75 t76 t77 t78 t79 t80 t81 t82 t83 t84 t85 t86 t87 t88 t89 t90 t91 t92 t93 t94 t95 t96 t97 t98 : V) (h : Hp) : opsP (xX s 14 wl k false) xg14_3 13 m0 ac (runK (xX s 14 wl k false) (bodyK s.P Try.f14) xk14_3) ⟨(t0 :: t1 :: t2 :: t3 :: t4 :: t5 :: t6 :: t7 :: t8 :: t9 :: t10 :: t11 :: t12 :: t13 :: t14 :: t15 :: t16 :: t17 :: t18 :: t19 :: t20 :: t21 :: t22 :: t23 :: t24 :: t25 :: t26 :: t27 :: t28 :: t29 :: t30 :: t31 :: t32 :: t33 :: t34 :: t35 :: t36 :: t37 :: t38 :: t39 :: t40 :: t41 :: t42 :: t43 :: t44 :: t45 :: t46 :: t47 :: t48 :: t49 :: t50 :: t51 :: t52 :: t53 :: t54 :: t55 :: t56 :: t57 :: t58 :: t59 :: t60 :: t61 :: t62 :: t63 :: t64 :: t65 :: t66 :: t67 :: t68 :: t69 :: t70 :: t71 :: t72 :: t73 :: t74 :: t75 :: t76 :: t77 :: t78 :: t79 :: t80 :: t81 :: t82 :: t83 :: t84 :: t85 :: t86 :: t87 :: t88 :: t89 :: t90 :: t91 :: t92 :: t93 :: t94 :: t95 :: t96 :: t97 :: t98 :: []), h⟩ =
  gd t89 (
  bp (callV (xX s 14 wl k false) false true (.fn (.func 30) [] []) [t91, t2] h) fun v121 h122 =>
  bp (callV (xX s 14 wl k false) false true (.fn (.func 34) [] []) [t90, v121] h122) fun v123 h124 =>
  bm (vBin s.P .eql 26 v123 (V.lit (Value.int .u64 1))) h124 fun v125 h126 =>
  opsP (xX s 14 wl k false) xg14_3 17 m0 ac (runK (xX s 14 wl k false) (bodyK s.P Try.f14) xk14_3) ⟨(t0 :: t1 :: t2 :: t3 :: t4 :: t5 :: t6 :: t7 :: t8 :: t9 :: t10 :: t11 :: t12 :: t13 :: t14 :: t15 :: t16 :: t17 :: t18 :: t19 :: t20 :: t21 :: t22 :: t23 :: t24 :: t25 :: t26 :: t27 :: t28 :: t29 :: t30 :: t31 :: t32 :: t33 :: t34 :: t35 :: t36 :: t37 :: t38 :: t39 :: t40 :: t41 :: t42 :: t43 :: t44 :: t45 :: t46 :: t47 :: t48 :: t49 :: t50 :: t51 :: t52 :: t53 :: t54 :: t55 :: t56 :: t57 :: t58 :: t59 :: t60 :: t61 :: t62 :: t63 :: t64 :: t65 :: t66 :: t67 :: t68 :: t69 :: t70 :: t71 :: t72 :: t73 :: t74 :: t75 :: t76 :: t77 :: t78 :: t79 :: t80 :: t81 :: t82 :: t83 :: t84 :: t85 :: t86 :: t87 :: t88 :: (V.lit (Value.bool true)) :: t90 :: t91 :: t2 :: v121 :: v123 :: v125 :: t96 :: t97 :: t98 :: []), h126⟩) (
  opsP (xX s 14 wl k false) xg14_3 17 m0 ac (runK (xX s 14 wl k false) (bodyK s.P Try.f14) xk14_3) ⟨(t0 :: t1 :: t2 :: t3 :: t4 :: t5 :: t6 :: t7 :: t8 :: t9 :: t10 :: t11 :: t12 :: t13 :: t14 :: t15 :: t16 :: t17 :: t18 :: t19 :: t20 :: t21 :: t22 :: t23 :: t24 :: t25 :: t26 :: t27 :: t28 :: t29 :: t30 :: t31 :: t32 :: t33 :: t34 :: t35 :: t36 :: t37 :: t38 :: t39 :: t40 :: t41 :: t42 :: t43 :: t44 :: t45 :: t46 :: t47 :: t48 :: t49 :: t50 :: t51 :: t52 :: t53 :: t54 :: t55 :: t56 :: t57 :: t58 :: t59 :: t60 :: t61 :: t62 :: t63 :: t64 :: t65 :: t66 :: t67 :: t68 :: t69 :: t70 :: t71 :: t72 :: t73 :: t74 :: t75 :: t76 :: t77 :: t78 :: t79 :: t80 :: t81 :: t82 :: t83 :: t84 :: t85 :: t86 :: t87 :: t88 :: (V.lit (Value.bool false)) :: t90 :: t91 :: uu :: uu :: uu :: uu :: t96 :: t97 :: t98 :: []), h⟩) (
  opsP (xX s 14 wl k false) xg14_3 14 m0 ac (runK (xX s 14 wl k false) (bodyK s.P Try.f14) xk14_3) ⟨(t0 :: t1 :: t2 :: t3 :: t4 :: t5 :: t6 :: t7 :: t8 :: t9 :: t10 :: t11 :: t12 :: t13 :: t14 :: t15 :: t16 :: t17 :: t18 :: t19 :: t20 :: t21 :: t22 :: t23 :: t24 :: t25 :: t26 :: t27 :: t28 :: t29 :: t30 :: t31 :: t32 :: t33 :: t34 :: t35 :: t36 :: t37 :: t38 :: t39 :: t40 :: t41 :: t42 :: t43 :: t44 :: t45 :: t46 :: t47 :: t48 :: t49 :: t50 :: t51 :: t52 :: t53 :: t54 :: t55 :: t56 :: t57 :: t58 :: t59 :: t60 :: t61 :: t62 :: t63 :: t64 :: t65 :: t66 :: t67 :: t68 :: t69 :: t70 :: t71 :: t72 :: t73 :: t74 :: t75 :: t76 :: t77 :: t78 :: t79 :: t80 :: t81 :: t82 :: t83 :: t84 :: t85 :: t86 :: t87 :: t88 :: t89 :: t90 :: t91 :: uu :: t93 :: t94 :: t95 :: t96 :: t97 :: t98 :: []), h⟩) :=
  (go_gdT0 rfl rfl rfl (by kernel_rfl)
  (st_id (v := t2) (H := h) (by kernel_rfl)
  (go_run0 rfl rfl rfl (by kernel_rfl) (st_bp (by kernel_rfl) fun v121 h122 =>
  (go_run0 rfl rfl rfl (by kernel_rfl) (st_bp (by kernel_rfl) fun v123 h124 =>
  (go_run0 rfl rfl rfl (by kernel_rfl) (st_bm (by kernel_rfl) fun v125 h126 =>
  (by kernel_rfl))))))))
  (go_skip0 rfl rfl rfl (by kernel_rfl)
  (go_skip0 rfl rfl rfl (by kernel_rfl)
  (go_skip0 rfl rfl rfl (by kernel_rfl)
  (by kernel_rfl))))
  (by kernel_rfl))
theorem xm14_15 (s : Sys) (k wl : Nat) (m0 : Nat) (ac : List Nat × List Nat) (t0 t1 t2 t3 t4 t5 t6 t7 t8 t9 t10 t11 t12 t13 t14 t15 t16 t17 t18 t19 t20 t21 t22 t23 t24 t25 t26 t27 t28 t29 t30 t31 t32 t33 t34 t35 t36 t37 t38 t39 t40 t41 t42 t43 t44 t45 t46 t47 t48 t49 t50 t51 t52 t53 t54 t55 t56 t57 t58 t59 t60 t61 t62 t63 t64 t65 t66 t67 t68 t69 t70 t71 t72 t73 t74 t75 t76 t77 t78 t79 t80 t81 t82 t83 t84 t85 t86 t87 t88 t89 t90 t91 t92 t93 t94 t95 t96 t97 t98 : V) (h : Hp) : opsP (xX s 14 wl k false) xg14_3 10 m0 ac (runK (xX s 14 wl k false) (bodyK s.P Try.f14) xk14_3) ⟨(t0 :: t1 :: t2 :: t3 :: t4 :: t5 :: t6 :: t7 :: t8 :: t9 :: t10 :: t11 :: t12 :: t13 :: t14 :: t15 :: t16 :: t17 :: t18 :: t19 :: t20 :: t21 :: t22 :: t23 :: t24 :: t25 :: t26 :: t27 :: t28 :: t29 :: t30 :: t31 :: t32 :: t33 :: t34 :: t35 :: t36 :: t37 :: t38 :: t39 :: t40 :: t41 :: t42 :: t43 :: t44 :: t45 :: t46 :: t47 :: t48 :: t49 :: t50 :: t51 :: t52 :: t53 :: t54 :: t55 :: t56 :: t57 :: t58 :: t59 :: t60 :: t61 :: t62 :: t63 :: t64 :: t65 :: t66 :: t67 :: t68 :: t69 :: t70 :: t71 :: t72 :: t73 :: t74 :: t75 :: t76 :: t77 :: t78 :: t79 :: t80 :: t81 :: t82 :: t83 :: t84 :: t85 :: t86 :: t87 :: t88 :: t89 :: t90 :: t91 :: t92 :: t93 :: t94 :: t95 :: t96 :: t97 :: t98 :: []), h⟩ =
  gd t85 (
  opsP (xX s 14 wl k false) xg14_3 18 m0 ac (runK (xX s 14 wl k false) (bodyK s.P Try.f14) xk14_3) ⟨(t0 :: t1 :: t2 :: t3 :: t4 :: t5 :: t6 :: t7 :: t8 :: t9 :: t10 :: t11 :: t12 :: t13 :: t14 :: t15 :: t16 :: t17 :: t18 :: t19 :: t20 :: t21 :: t22 :: t23 :: t24 :: t25 :: t26 :: t27 :: t28 :: t29 :: t30 :: t31 :: t32 :: t33 :: t34 :: t35 :: t36 :: t37 :: t38 :: t39 :: t40 :: t41 :: t42 :: t43 :: t44 :: t45 :: t46 :: t47 :: t48 :: t49 :: t50 :: t51 :: t52 :: t53 :: t54 :: t55 :: t56 :: t57 :: t58 :: t59 :: t60 :: t61 :: t62 :: t63 :: t64 :: t65 :: t66 :: t67 :: t68 :: t69 :: t70 :: t71 :: t72 :: t73 :: t74 :: t75 :: t76 :: t77 :: t78 :: t79 :: t80 :: t81 :: t82 :: t83 :: t84 :: (V.lit (Value.bool true)) :: t86 :: t87 :: t88 :: uu :: uu :: uu :: uu :: uu :: uu :: uu :: uu :: t97 :: t98 :: []), h⟩) (
  opsP (xX s 14 wl k false) xg14_3 11 m0 ac (runK (xX s 14 wl k false) (bodyK s.P Try.f14) xk14_3) ⟨(t0 :: t1 :: t2 :: t3 :: t4 :: t5 :: t6 :: t7 :: t8 :: t9 :: t10 :: t11 :: t12 :: t13 :: t14 :: t15 :: t16 :: t17 :: t18 :: t19 :: t20 :: t21 :: t22 :: t23 :: t24 :: t25 :: t26 :: t27 :: t28 :: t29 :: t30 :: t31 :: t32 :: t33 :: t34 :: t35 :: t36 :: t37 :: t38 :: t39 :: t40 :: t41 :: t42 :: t43 :: t44 :: t45 :: t46 :: t47 :: t48 :: t49 :: t50 :: t51 :: t52 :: t53 :: t54 :: t55 :: t56 :: t57 :: t58 :: t59 :: t60 :: t61 :: t62 :: t63 :: t64 :: t65 :: t66 :: t67 :: t68 :: t69 :: t70 :: t71 :: t72 :: t73 :: t74 :: t75 :: t76 :: t77 :: t78 :: t79 :: t80 :: t81 :: t82 :: t83 :: t84 :: (V.lit (Value.bool false)) :: t86 :: t87 :: t88 :: t88 :: t90 :: t91 :: t92 :: t93 :: t94 :: t95 :: t96 :: t97 :: t98 :: []), h⟩) (
  opsP (xX s 14 wl k false) xg14_3 11 m0 ac (runK (xX s 14 wl k false) (bodyK s.P Try.f14) xk14_3) ⟨(t0 :: t1 :: t2 :: t3 :: t4 :: t5 :: t6 :: t7 :: t8 :: t9 :: t10 :: t11 :: t12 :: t13 :: t14 :: t15 :: t16 :: t17 :: t18 :: t19 :: t20 :: t21 :: t22 :: t23 :: t24 :: t25 :: t26 :: t27 :: t28 :: t29 :: t30 :: t31 :: t32 :: t33 :: t34 :: t35 :: t36 :: t37 :: t38 :: t39 :: t40 :: t41 :: t42 :: t43 :: t44 :: t45 :: t46 :: t47 :: t48 :: t49 :: t50 :: t51 :: t52 :: t53 :: t54 :: t55 :: t56 :: t57 :: t58 :: t59 :: t60 :: t61 :: t62 :: t63 :: t64 :: t65 :: t66 :: t67 :: t68 :: t69 :: t70 :: t71 :: t72 :: t73 :: t74 :: t75 :: t76 :: t77 :: t78 :: t79 :: t80 :: t81 :: t82 :: t83 :: t84 :: t85 :: t86 :: t87 :: t88 :: uu :: t90 :: t91 :: t92 :: t93 :: t94 :: t95 :: t96 :: t97 :: t98 :: []), h⟩) :=
  (go_gdF0 rfl rfl rfl (by kernel_rfl)
  (go_none0 (x := #[]) rfl rfl rfl (by kernel_rfl)
  (go_none0 (x := #[]) rfl rfl rfl (by kernel_rfl)
  (go_none0 (x := #[]) rfl rfl rfl (by kernel_rfl)
  (go_none0 (x := #[]) rfl rfl rfl (by kernel_rfl)
  (go_none0 (x := #[]) rfl rfl rfl (by kernel_rfl)
  (go_none0 (x := #[]) rfl rfl rfl (by kernel_rfl)
  (go_skip0 rfl rfl rfl (by kernel_rfl)
  (by kernel_rfl))))))))
  (st_id (v := t88) (H := h) (by kernel_rfl)
  (by kernel_rfl))
  (by kernel_rfl))
theorem xm14_16 (s : Sys) (k wl : Nat) (m0 : Nat) (ac : List Nat × List Nat) (t0 t1 t2 t3 t4 t5 t6 t7 t8 t9 t10 t11 t12 t13 t14 t15 t16 t17 t18 t19 t20 t21 t22 t23 t24 t25 t26 t27 t28 t29 t30 t31 t32 t33 t34 t35 t36 t37 t38 t39 t40 t41 t42 t43 t44 t45 t46 t47 t48 t49 t50 t51 t52 t53 t54 t55 t56 t57 t58 t59 t60 t61 t62 t63 t64 t65 t66 t67 t68 t69 t70 t71 t72 t73 t74 t75 t76 t77 t78 t79 t80 t81 t82 t83 t84 t85 t86 t87 t88 t89 t90 t91 t92 t93 t94 t95 t96 t97 t98 : V) (h : Hp) : opsP (xX s 14 wl k false) xg14_3 14 m0 ac (runK (xX s 14 wl k false) (bodyK s.P Try.f14) xk14_3) ⟨(t0 :: t1 :: t2 :: t3 :: t4 :: t5 :: t6 :: t7 :: t8 :: t9 :: t10 :: t11 :: t12 :: t13 :: t14 :: t15 :: t16 :: t17 :: t18 :: t19 :: t20 :: t21 :: t22 :: t23 :: t24 :: t25 :: t26 :: t27 :: t28 :: t29 :: t30 :: t31 :: t32 :: t33 :: t34 :: t35 :: t36 :: t37 :: t38 :: t39 :: t40 :: t41 :: t42 :: t43 :: t44 :: t45 :: t46 :: t47 :: t48 :: t49 :: t50 :: t51 :: t52 :: t53 :: t54 :: t55 :: t56 :: t57 :: t58 :: t59 :: t60 :: t61 :: t62 :: t63 :: t64 :: t65 :: t66 :: t67 :: t68 :: t69 :: t70 :: t71 :: t72 :: t73 :: t74 :: t75 :: t76 :: t77 :: t78 :: t79 :: t80 :: t81 :: t82 :: t83 :: t84 :: t85 :: t86 :: t87 :: t88 :: t89 :: t90 :: t91 :: t92 :: t93 :: t94 :: t95 :: t96 :: t97 :: t98 :: []), h⟩ =
  gd t89 (
  bp (callV (xX s 14 wl k false) false true (.fn (.func 30) [] []) [t91, t92] h) fun v127 h128 =>
  bp (callV (xX s 14 wl k false) false true (.fn (.func 34) [] []) [t90, v127] h128) fun v129 h130 =>
  bm (vBin s.P .eql 26 v129 (V.lit (Value.int .u64 1))) h130 fun v131 h132 =>
  opsP (xX s 14 wl k false) xg14_3 17 m0 ac (runK (xX s 14 wl k false) (bodyK s.P Try.f14) xk14_3) ⟨(t0 :: t1 :: t2 :: t3 :: t4 :: t5 :: t6 :: t7 :: t8 :: t9 :: t10 :: t11 :: t12 :: t13 :: t14 :: t15 :: t16 :: t17 :: t18 :: t19 :: t20 :: t21 :: t22 :: t23 :: t24 :: t25 :: t26 :: t27 :: t28 :: t29 :: t30 :: t31 :: t32 :: t33 :: t34 :: t35 :: t36 :: t37 :: t38 :: t39 :: t40 :: t41 :: t42 :: t43 :: t44 :: t45 :: t46 :: t47 :: t48 :: t49 :: t50 :: t51 :: t52 :: t53 :: t54 :: t55 :: t56 :: t57 :: t58 :: t59 :: t60 :: t61 :: t62 :: t63 :: t64 :: t65 :: t66 :: t67 :: t68 :: t69 :: t70 :: t71 :: t72 :: t73 :: t74 :: t75 :: t76 :: t77 :: t78 :: t79 :: t80 :: t81 :: t82 :: t83 :: t84 :: t85 :: t86 :: t87 :: t88 :: (V.lit (Value.bool true)) :: t90 :: t91 :: t92 :: v127 :: v129 :: v131 :: t96 :: t97 :: t98 :: []), h132⟩) (
  opsP (xX s 14 wl k false) xg14_3 17 m0 ac (runK (xX s 14 wl k false) (bodyK s.P Try.f14) xk14_3) ⟨(t0 :: t1 :: t2 :: t3 :: t4 :: t5 :: t6 :: t7 :: t8 :: t9 :: t10 :: t11 :: t12 :: t13 :: t14 :: t15 :: t16 :: t17 :: t18 :: t19 :: t20 :: t21 :: t22 :: t23 :: t24 :: t25 :: t26 :: t27 :: t28 :: t29 :: t30 :: t31 :: t32 :: t33 :: t34 :: t35 :: t36 :: t37 :: t38 :: t39 :: t40 :: t41 :: t42 :: t43 :: t44 :: t45 :: t46 :: t47 :: t48 :: t49 :: t50 :: t51 :: t52 :: t53 :: t54 :: t55 :: t56 :: t57 :: t58 :: t59 :: t60 :: t61 :: t62 :: t63 :: t64 :: t65 :: t66 :: t67 :: t68 :: t69 :: t70 :: t71 :: t72 :: t73 :: t74 :: t75 :: t76 :: t77 :: t78 :: t79 :: t80 :: t81 :: t82 :: t83 :: t84 :: t85 :: t86 :: t87 :: t88 :: (V.lit (Value.bool false)) :: t90 :: t91 :: t92 :: uu :: uu :: uu :: t96 :: t97 :: t98 :: []), h⟩) (
  opsP (xX s 14 wl k false) xg14_3 15 m0 ac (runK (xX s 14 wl k false) (bodyK s.P Try.f14) xk14_3) ⟨(t0 :: t1 :: t2 :: t3 :: t4 :: t5 :: t6 :: t7 :: t8 :: t9 :: t10 :: t11 :: t12 :: t13 :: t14 :: t15 :: t16 :: t17 :: t18 :: t19 :: t20 :: t21 :: t22 :: t23 :: t24 :: t25 :: t26 :: t27 :: t28 :: t29 :: t30 :: t31 :: t32 :: t33 :: t34 :: t35 :: t36 :: t37 :: t38 :: t39 :: t40 :: t41 :: t42 :: t43 :: t44 :: t45 :: t46 :: t47 :: t48 :: t49 :: t50 :: t51 :: t52 :: t53 :: t54 :: t55 :: t56 :: t57 :: t58 :: t59 :: t60 :: t61 :: t62 :: t63 :: t64 :: t65 :: t66 :: t67 :: t68 :: t69 :: t70 :: t71 :: t72 :: t73 :: t74 :: t75 :: t76 :: t77 :: t78 :: t79 :: t80 :: t81 :: t82 :: t83 :: t84 :: t85 :: t86 :: t87 :: t88 :: t89 :: t90 :: t91 :: t92 :: uu :: t94 :: t95 :: t96 :: t97 :: t98 :: []), h⟩) :=
  (go_gdT0 rfl rfl rfl (by kernel_rfl)
  (st_bp (by kernel_rfl) fun v127 h128 =>
  (go_run0 rfl rfl rfl (by kernel_rfl) (st_bp (by kernel_rfl) fun v129 h130 =>
  (go_run0 rfl rfl rfl (by kernel_rfl) (st_bm (by kernel_rfl) fun v131 h132 =>
  (by kernel_rfl))))))
  (go_skip0 rfl rfl rfl (by kernel_rfl)
  (go_skip0 rfl rfl rfl (by kernel_rfl)
  (by kernel_rfl)))
  (by kernel_rfl))
theorem xm14_17 (s : Sys) (k wl : Nat) (m0 : Nat) (ac : List Nat × List Nat) (t0 t1 t2 t3 t4 t5 t6 t7 t8 t9 t10 t11 t12 t13 t14 t15 t16 t17 t18 t19 t20 t21 t22 t23 t24 t25 t26 t27 t28 t29 t30 t31 t32 t33 t34 t35 t36 t37 t38 t39 t40 t41 t42 t43 t44 t45 t46 t47 t48 t49 t50 t51 t52 t53 t54 t55 t56 t57 t58 t59 t60 t61 t62 t63 t64 t65 t66 t67 t68 t69 t70 t71 t72 t73 t74 t75 t76 t77 t78 t79 t80 t81 t82 t83 t84 t85 t86 t87 t88 t89 t90 t91 t92 t93 t94 t95 t96 t97 t98 : V) (h : Hp) : opsP (xX s 14 wl k false) xg14_3 15 m0 ac (runK (xX s 14 wl k false) (bodyK s.P Try.f14) xk14_3) ⟨(t0 :: t1 :: t2 :: t3 :: t4 :: t5 :: t6 :: t7 :: t8 :: t9 :: t10 :: t11 :: t12 :: t13 :: t14 :: t15 :: t16 :: t17 :: t18 :: t19 :: t20 :: t21 :: t22 :: t23 :: t24 :: t25 :: t26 :: t27 :: t28 :: t29 :: t30 :: t31 :: t32 :: t33 :: t34 :: t35 :: t36 :: t37 :: t38 :: t39 :: t40 :: t41 :: t42 :: t43 :: t44 :: t45 :: t46 :: t47 :: t48 :: t49 :: t50 :: t51 :: t52 :: t53 :: t54 :: t55 :: t56 :: t57 :: t58 :: t59 :: t60 :: t61 :: t62 :: t63 :: t64 :: t65 :: t66 :: t67 :: t68 :: t69 :: t70 :: t71 :: t72 :: t73 :: t74 :: t75 :: t76 :: t77 :: t78 :: t79 :: t80 :: t81 :: t82 :: t83 :: t84 :: t85 :: t86 :: t87 :: t88 :: t89 :: t90 :: t91 :: t92 :: t93 :: t94 :: t95 :: t96 :: t97 :: t98 :: []), h⟩ =
  gd t89 (
  bp (callV (xX s 14 wl k false) false true (.fn (.func 34) [] []) [t90, t93] h) fun v133 h134 =>
  bm (vBin s.P .eql 26 v133 (V.lit (Value.int .u64 1))) h134 fun v135 h136 =>
  opsP (xX s 14 wl k false) xg14_3 17 m0 ac (runK (xX s 14 wl k false) (bodyK s.P Try.f14) xk14_3) ⟨(t0 :: t1 :: t2 :: t3 :: t4 :: t5 :: t6 :: t7 :: t8 :: t9 :: t10 :: t11 :: t12 :: t13 :: t14 :: t15 :: t16 :: t17 :: t18 :: t19 :: t20 :: t21 :: t22 :: t23 :: t24 :: t25 :: t26 :: t27 :: t28 :: t29 :: t30 :: t31 :: t32 :: t33 :: t34 :: t35 :: t36 :: t37 :: t38 :: t39 :: t40 :: t41 :: t42 :: t43 :: t44 :: t45 :: t46 :: t47 :: t48 :: t49 :: t50 :: t51 :: t52 :: t53 :: t54 :: t55 :: t56 :: t57 :: t58 :: t59 :: t60 :: t61 :: t62 :: t63 :: t64 :: t65 :: t66 :: t67 :: t68 :: t69 :: t70 :: t71 :: t72 :: t73 :: t74 :: t75 :: t76 :: t77 :: t78 :: t79 :: t80 :: t81 :: t82 :: t83 :: t84 :: t85 :: t86 :: t87 :: t88 :: (V.lit (Value.bool true)) :: t90 :: t91 :: t92 :: t93 :: v133 :: v135 :: t96 :: t97 :: t98 :: []), h136⟩) (
  opsP (xX s 14 wl k false) xg14_3 17 m0 ac (runK (xX s 14 wl k false) (bodyK s.P Try.f14) xk14_3) ⟨(t0 :: t1 :: t2 :: t3 :: t4 :: t5 :: t6 :: t7 :: t8 :: t9 :: t10 :: t11 :: t12 :: t13 :: t14 :: t15 :: t16 :: t17 :: t18 :: t19 :: t20 :: t21 :: t22 :: t23 :: t24 :: t25 :: t26 :: t27 :: t28 :: t29 :: t30 :: t31 :: t32 :: t33 :: t34 :: t35 :: t36 :: t37 :: t38 :: t39 :: t40 :: t41 :: t42 :: t43 :: t44 :: t45 :: t46 :: t47 :: t48 :: t49 :: t50 :: t51 :: t52 :: t53 :: t54 :: t55 :: t56 :: t57 :: t58 :: t59 :: t60 :: t61 :: t62 :: t63 :: t64 :: t65 :: t66 :: t67 :: t68 :: t69 :: t70 :: t71 :: t72 :: t73 :: t74 :: t75 :: t76 :: t77 :: t78 :: t79 :: t80 :: t81 :: t82 :: t83 :: t84 :: t85 :: t86 :: t87 :: t88 :: (V.lit (Value.bool false)) :: t90 :: t91 :: t92 :: t93 :: uu :: uu :: t96 :: t97 :: t98 :: []), h⟩) (
  opsP (xX s 14 wl k false) xg14_3 16 m0 ac (runK (xX s 14 wl k false) (bodyK s.P Try.f14) xk14_3) ⟨(t0 :: t1 :: t2 :: t3 :: t4 :: t5 :: t6 :: t7 :: t8 :: t9 :: t10 :: t11 :: t12 :: t13 :: t14 :: t15 :: t16 :: t17 :: t18 :: t19 :: t20 :: t21 :: t22 :: t23 :: t24 :: t25 :: t26 :: t27 :: t28 :: t29 :: t30 :: t31 :: t32 :: t33 :: t34 :: t35 :: t36 :: t37 :: t38 :: t39 :: t40 :: t41 :: t42 :: t43 :: t44 :: t45 :: t46 :: t47 :: t48 :: t49 :: t50 :: t51 :: t52 :: t53 :: t54 :: t55 :: t56 :: t57 :: t58 :: t59 :: t60 :: t61 :: t62 :: t63 :: t64 :: t65 :: t66 :: t67 :: t68 :: t69 :: t70 :: t71 :: t72 :: t73 :: t74 :: t75 :: t76 :: t77 :: t78 :: t79 :: t80 :: t81 :: t82 :: t83 :: t84 :: t85 :: t86 :: t87 :: t88 :: t89 :: t90 :: t91 :: t92 :: t93 :: uu :: t95 :: t96 :: t97 :: t98 :: []), h⟩) :=
  (go_gdT0 rfl rfl rfl (by kernel_rfl)
  (st_bp (by kernel_rfl) fun v133 h134 =>
  (go_run0 rfl rfl rfl (by kernel_rfl) (st_bm (by kernel_rfl) fun v135 h136 =>
  (by kernel_rfl))))
  (go_skip0 rfl rfl rfl (by kernel_rfl)
  (by kernel_rfl))
  (by kernel_rfl))
theorem xm14_18 (s : Sys) (k wl : Nat) (m0 : Nat) (ac : List Nat × List Nat) (t0 t1 t2 t3 t4 t5 t6 t7 t8 t9 t10 t11 t12 t13 t14 t15 t16 t17 t18 t19 t20 t21 t22 t23 t24 t25 t26 t27 t28 t29 t30 t31 t32 t33 t34 t35 t36 t37 t38 t39 t40 t41 t42 t43 t44 t45 t46 t47 t48 t49 t50 t51 t52 t53 t54 t55 t56 t57 t58 t59 t60 t61 t62 t63 t64 t65 t66 t67 t68 t69 t70 t71 t72 t73 t74 t75 t76 t77 t78 t79 t80 t81 t82 t83 t84 t85 t86 t87 t88 t89 t90 t91 t92 t93 t94 t95 t96 t97 t98 : V) (h : Hp) : opsP (xX s 14 wl k false) xg14_3 16 m0 ac (runK (xX s 14 wl k false) (bodyK s.P Try.f14) xk14_3) ⟨(t0 :: t1 :: t2 :: t3 :: t4 :: t5 :: t6 :: t7 :: t8 :: t9 :: t10 :: t11 :: t12 :: t13 :: t14 :: t15 :: t16 :: t17 :: t18 :: t19 :: t20 :: t21 :: t22 :: t23 :: t24 :: t25 :: t26 :: t27 :: t28 :: t29 :: t30 :: t31 :: t32 :: t33 :: t34 :: t35 :: t36 :: t37 :: t38 :: t39 :: t40 :: t41 :: t42 :: t43 :: t44 :: t45 :: t46 :: t47 :: t48 :: t49 :: t50 :: t51 :: t52 :: t53 :: t54 :: t55 :: t56 :: t57 :: t58 :: t59 :: t60 :: t61 :: t62 :: t63 :: t64 :: t65 :: t66 :: t67 :: t68 :: t69 :: t70 :: t71 :: t72 :: t73 :: t74 :: t75 :: t76 :: t77 :: t78 :: t79 :: t80 :: t81 :: t82 :: t83 :: t84 :: t85 :: t86 :: t87 :: t88 :: t89 :: t90 :: t91 :: t92 :: t93 :: t94 :: t95 :: t96 :: t97 :: t98 :: []), h⟩ =
  gd t89 (
  bm (vBin s.P .eql 26 t94 (V.lit (Value.int .u64 1))) h fun v137 h138 =>
  opsP (xX s 14 wl k false) xg14_3 17 m0 ac (runK (xX s 14 wl k false) (bodyK s.P Try.f14) xk14_3) ⟨(t0 :: t1 :: t2 :: t3 :: t4 :: t5 :: t6 :: t7 :: t8 :: t9 :: t10 :: t11 :: t12 :: t13 :: t14 :: t15 :: t16 :: t17 :: t18 :: t19 :: t20 :: t21 :: t22 :: t23 :: t24 :: t25 :: t26 :: t27 :: t28 :: t29 :: t30 :: t31 :: t32 :: t33 :: t34 :: t35 :: t36 :: t37 :: t38 :: t39 :: t40 :: t41 :: t42 :: t43 :: t44 :: t45 :: t46 :: t47 :: t48 :: t49 :: t50 :: t51 :: t52 :: t53 :: t54 :: t55 :: t56 :: t57 :: t58 :: t59 :: t60 :: t61 :: t62 :: t63 :: t64 :: t65 :: t66 :: t67 :: t68 :: t69 :: t70 :: t71 :: t72 :: t73 :: t74 :: t75 :: t76 :: t77 :: t78 :: t79 :: t80 :: t81 :: t82 :: t83 :: t84 :: t85 :: t86 :: t87 :: t88 :: (V.lit (Value.bool true)) :: t90 :: t91 :: t92 :: t93 :: t94 :: v137 :: t96 :: t97 :: t98 :: []), h138⟩) (
  opsP (xX s 14 wl k false) xg14_3 17 m0 ac (runK (xX s 14 wl k false) (bodyK s.P Try.f14) xk14_3) ⟨(t0 :: t1 :: t2 :: t3 :: t4 :: t5 :: t6 :: t7 :: t8 :: t9 :: t10 :: t11 :: t12 :: t13 :: t14 :: t15 :: t16 :: t17 :: t18 :: t19 :: t20 :: t21 :: t22 :: t23 :: t24 :: t25 :: t26 :: t27 :: t28 :: t29 :: t30 :: t31 :: t32 :: t33 :: t34 :: t35 :: t36 :: t37 :: t38 :: t39 :: t40 :: t41 :: t42 :: t43 :: t44 :: t45 :: t46 :: t47 :: t48 :: t49 :: t50 :: t51 :: t52 :: t53 :: t54 :: t55 :: t56 :: t57 :: t58 :: t59 :: t60 :: t61 :: t62 :: t63 :: t64 :: t65 :: t66 :: t67 :: t68 :: t69 :: t70 :: t71 :: t72 :: t73 :: t74 :: t75 :: t76 :: t77 :: t78 :: t79 :: t80 :: t81 :: t82 :: t83 :: t84 :: t85 :: t86 :: t87 :: t88 :: (V.lit (Value.bool false)) :: t90 :: t91 :: t92 :: t93 :: t94 :: uu :: t96 :: t97 :: t98 :: []), h⟩) (
  opsP (xX s 14 wl k false) xg14_3 17 m0 ac (runK (xX s 14 wl k false) (bodyK s.P Try.f14) xk14_3) ⟨(t0 :: t1 :: t2 :: t3 :: t4 :: t5 :: t6 :: t7 :: t8 :: t9 :: t10 :: t11 :: t12 :: t13 :: t14 :: t15 :: t16 :: t17 :: t18 :: t19 :: t20 :: t21 :: t22 :: t23 :: t24 :: t25 :: t26 :: t27 :: t28 :: t29 :: t30 :: t31 :: t32 :: t33 :: t34 :: t35 :: t36 :: t37 :: t38 :: t39 :: t40 :: t41 :: t42 :: t43 :: t44 :: t45 :: t46 :: t47 :: t48 :: t49 :: t50 :: t51 :: t52 :: t53 :: t54 :: t55 :: t56 :: t57 :: t58 :: t59 :: t60 :: t61 :: t62 :: t63 :: t64 :: t65 :: t66 :: t67 :: t68 :: t69 :: t70 :: t71 :: t72 :: t73 :: t74 :: t75 :: t76 :: t77 :: t78 :: t79 :: t80 :: t81 :: t82 :: t83 :: t84 :: t85 :: t86 :: t87 :: t88 :: t89 :: t90 :: t91 :: t92 :: t93 :: t94 :: uu :: t96 :: t97 :: t98 :: []), h⟩) :=
  (go_gdT0 rfl rfl rfl (by kernel_rfl)
  (st_bm (by kernel_rfl) fun v137 h138 =>
  (by kernel_rfl))
  (by kernel_rfl)
  (by kernel_rfl))
theorem xk14_0_ret (cx : Cx) (K : Out → St → Option (V × Hp)) (s : St) : runK cx K xk14_0 .ret s = K .ret s := by kernel_rfl
theorem xk14_1_ret (cx : Cx) (K : Out → St → Option (V × Hp)) (s : St) : runK cx K xk14_1 .ret s = K .ret s := by kernel_rfl
theorem xk14_2_ret (cx : Cx) (K : Out → St → Option (V × Hp)) (s : St) : runK cx K xk14_2 .ret s = K .ret s := by kernel_rfl
theorem xk14_3_ret (cx : Cx) (K : Out → St → Option (V × Hp)) (s : St) : runK cx K xk14_3 .ret s = K .ret s := by kernel_rfl
-- names: xb14, xm14_0, xm14_1, xm14_2, xm14_3, xm14_4, xm14_5, xm14_6, xm14_7, xm14_8, xm14_9, xm14_10, xm14_11, xm14_12, xm14_13, xm14_14, xm14_15, xm14_16, xm14_17, xm14_18, xk14_0_ret, xk14_1_ret, xk14_2_ret, xk14_3_ret
end Go.Ab
