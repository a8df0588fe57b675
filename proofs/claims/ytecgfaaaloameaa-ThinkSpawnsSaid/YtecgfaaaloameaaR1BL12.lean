/- The program's code, point by point: printed by gen.py. -/
import Derived.Test.YtecgfaaaloameaaR1Seat
set_option maxRecDepth 100000
set_option linter.unusedVariables false
namespace Go.Ab
open Go.Proofs
/-! 12 poacher/poacherlaw17.ThinkSpawns: 0 t, 1 s, 2 k, 3 t, 4 s, 5 k, 7 up, 8 few, 9 x, 10 i, 11 i, 12 last, 13 same -/
noncomputable def xg12_0 : Code := codeAt (bodyOf Try.f12) [1, 1, 1, 0, 0]
noncomputable def xk12_0 : List Fr := [.seq (codeAt (bodyOf Try.f12) [1, 1, 1, 0, 1]), .seq (codeAt (bodyOf Try.f12) [1, 1, 1, 1])]
noncomputable def xl12_0 : Code := codeAt (bodyOf Try.f12) [1, 1, 1, 1, 1, 0, 1, 0, 0]
noncomputable def xk12_1 : List Fr := [.block 0, .seq (codeAt (bodyOf Try.f12) [1, 1, 1, 1, 1, 1])]
noncomputable def xl12_1 : Code := codeAt (bodyOf Try.f12) [1, 1, 1, 1, 1, 1, 0, 1, 0, 0]
noncomputable def xk12_2 : List Fr := [.block 2, .seq (codeAt (bodyOf Try.f12) [1, 1, 1, 1, 1, 1, 1])]
noncomputable def xg12_1 : Code := codeAt (bodyOf Try.f12) [1, 1, 1, 1, 1, 1, 0, 1, 0, 0, 1, 0, 0, 0, 0]
noncomputable def xg12_2 : Code := codeAt (bodyOf Try.f12) [1, 1, 1, 1, 1, 1, 1, 1, 1, 1, 0]
noncomputable def xk12_3 : List Fr := [.seq (codeAt (bodyOf Try.f12) [1, 1, 1, 1, 1, 1, 1, 1, 1, 1, 1])]
theorem xo12_15 : orderIx (opsOf xg12_1) = [0, 1, 2, 3, 4, 5, 6, 7, 8, 9, 10, 11, 12] := by kernel_rfl
theorem xo12_15a : (rgOf (opsOf xg12_1)).any = false := by kernel_rfl
theorem xo12_15r : regOk (opsOf xg12_1) = true := by kernel_rfl
theorem xb12 (s : Sys) (k wl : Nat) (t0 t1 t2 : V) (h : Hp) : bodyV (xX s 12 wl k false) Try.f12 [t0, t1, t2] h =
  bp (callV (xX s 12 wl k false) false true (.fn (.func 37) [] []) [] h) fun v1 h2 =>
  bp (callV (xX s 12 wl k false) false true (.fn (.func 24) [] []) [t0] h2) fun v3 h4 =>
  bm (vUn .not v1) h4 fun v5 h6 =>
  gd v5 (
  opsP (xX s 12 wl k false) xg12_0 5 h4.length ([], []) (runK (xX s 12 wl k false) (bodyK s.P Try.f12) xk12_0) ⟨(t0 :: t1 :: t2 :: uu :: uu :: uu :: (V.lit (Value.bool false)) :: v1 :: v3 :: uu :: uu :: uu :: uu :: uu :: v1 :: t0 :: v3 :: v1 :: v5 :: (V.lit (Value.bool true)) :: uu :: uu :: uu :: uu :: uu :: uu :: uu :: uu :: uu :: uu :: uu :: uu :: uu :: uu :: uu :: uu :: uu :: uu :: uu :: uu :: uu :: uu :: uu :: uu :: uu :: uu :: uu :: uu :: uu :: uu :: uu :: uu :: uu :: uu :: uu :: uu :: uu :: uu :: uu :: uu :: uu :: uu :: uu :: uu :: uu :: uu :: uu :: uu :: uu :: uu :: uu :: uu :: uu :: uu :: uu :: uu :: uu :: uu :: uu :: uu :: uu :: uu :: uu :: uu :: uu :: uu :: uu :: uu :: uu :: uu :: uu :: uu :: uu :: uu :: uu :: uu :: uu :: uu :: uu :: uu :: uu :: uu :: uu :: uu :: uu :: uu :: uu :: uu :: uu :: uu :: uu :: uu :: uu :: uu :: []), h6⟩) (
  bm (vUn .not v3) h6 fun v7 h8 =>
  opsP (xX s 12 wl k false) xg12_0 5 h4.length ([], []) (runK (xX s 12 wl k false) (bodyK s.P Try.f12) xk12_0) ⟨(t0 :: t1 :: t2 :: uu :: uu :: uu :: (V.lit (Value.bool false)) :: v1 :: v3 :: uu :: uu :: uu :: uu :: uu :: v1 :: t0 :: v3 :: v1 :: v5 :: (V.lit (Value.bool false)) :: v3 :: v7 :: uu :: uu :: uu :: uu :: uu :: uu :: uu :: uu :: uu :: uu :: uu :: uu :: uu :: uu :: uu :: uu :: uu :: uu :: uu :: uu :: uu :: uu :: uu :: uu :: uu :: uu :: uu :: uu :: uu :: uu :: uu :: uu :: uu :: uu :: uu :: uu :: uu :: uu :: uu :: uu :: uu :: uu :: uu :: uu :: uu :: uu :: uu :: uu :: uu :: uu :: uu :: uu :: uu :: uu :: uu :: uu :: uu :: uu :: uu :: uu :: uu :: uu :: uu :: uu :: uu :: uu :: uu :: uu :: uu :: uu :: uu :: uu :: uu :: uu :: uu :: uu :: uu :: uu :: uu :: uu :: uu :: uu :: uu :: uu :: uu :: uu :: uu :: uu :: uu :: uu :: uu :: uu :: []), h8⟩) (
  opsP (xX s 12 wl k false) xg12_0 4 h4.length ([], []) (runK (xX s 12 wl k false) (bodyK s.P Try.f12) xk12_0) ⟨(t0 :: t1 :: t2 :: uu :: uu :: uu :: (V.lit (Value.bool false)) :: v1 :: v3 :: uu :: uu :: uu :: uu :: uu :: v1 :: t0 :: v3 :: v1 :: v5 :: v5 :: uu :: uu :: uu :: uu :: uu :: uu :: uu :: uu :: uu :: uu :: uu :: uu :: uu :: uu :: uu :: uu :: uu :: uu :: uu :: uu :: uu :: uu :: uu :: uu :: uu :: uu :: uu :: uu :: uu :: uu :: uu :: uu :: uu :: uu :: uu :: uu :: uu :: uu :: uu :: uu :: uu :: uu :: uu :: uu :: uu :: uu :: uu :: uu :: uu :: uu :: uu :: uu :: uu :: uu :: uu :: uu :: uu :: uu :: uu :: uu :: uu :: uu :: uu :: uu :: uu :: uu :: uu :: uu :: uu :: uu :: uu :: uu :: uu :: uu :: uu :: uu :: uu :: uu :: uu :: uu :: uu :: uu :: uu :: uu :: uu :: uu :: uu :: uu :: uu :: uu :: uu :: uu :: uu :: uu :: []), h6⟩) :=
  bodyV_run rfl (go_seq (go_reg0
  (go_op0 rfl rfl (st_id (v := (V.lit (Value.bool false))) (H := h) (by kernel_rfl)
  (go_end0 (by kernel_rfl)
  (go_seq (go_reg0
  (go_op0 rfl rfl (st_bp (by kernel_rfl) fun v1 h2 =>
  (go_op0 rfl rfl (st_id (v := v1) (H := h2) (by kernel_rfl)
  (go_end0 (by kernel_rfl)
  (go_seq (go_reg0
  (go_op0 rfl rfl (st_id (v := t0) (H := h2) (by kernel_rfl)
  (go_op0 rfl rfl (st_bp (by kernel_rfl) fun v3 h4 =>
  (go_op0 rfl rfl (st_id (v := v3) (H := h4) (by kernel_rfl)
  (go_end0 (by kernel_rfl)
  (go_seq (go_seq (go_reg0
  (go_op0 rfl rfl (st_id (v := v1) (H := h4) (by kernel_rfl)
  (go_op0 rfl rfl (st_bm (by kernel_rfl) fun v5 h6 =>
  (go_op0 rfl rfl (st_id (v := v5) (H := h6) (by kernel_rfl)
  (go_gdF0 rfl rfl rfl (by kernel_rfl)
  (go_skip0 rfl rfl rfl (by kernel_rfl)
  (by kernel_rfl))
  (st_id (v := v3) (H := h6) (by kernel_rfl)
  (go_run0 rfl rfl rfl (by kernel_rfl) (st_bm (by kernel_rfl) fun v7 h8 =>
  (by kernel_rfl))))
  (by kernel_rfl))))))))))))))))))))))))))))))))
theorem xe12 (k wl : Nat) (t0 t1 t2 : V) (h : Hp) : evF Try.prog xM (k + 1) wl 12 [t0, t1, t2] h = bodyV (xX (xS k) 12 wl k false) Try.f12 [t0, t1, t2] h := by kernel_rfl
theorem xz12 (P : Program) (t0 t1 t2 t3 t4 t5 t6 t7 t8 t9 t10 t11 t12 t13 t14 t15 t16 t17 t18 t19 t20 t21 t22 t23 t24 t25 t26 t27 t28 t29 t30 t31 t32 t33 t34 t35 t36 t37 t38 t39 t40 t41 t42 t43 t44 t45 t46 t47 t48 t49 t50 t51 t52 t53 t54 t55 t56 t57 t58 t59 t60 t61 t62 t63 t64 t65 t66 t67 t68 t69 t70 t71 t72 t73 t74 t75 t76 t77 t78 t79 t80 t81 t82 t83 t84 t85 t86 t87 t88 t89 t90 t91 t92 t93 t94 t95 t96 t97 t98 t99 t100 t101 t102 t103 t104 t105 t106 t107 t108 t109 t110 t111 t112 t113 : V) (h : Hp) : bodyK P Try.f12 .ret ⟨(t0 :: t1 :: t2 :: t3 :: t4 :: t5 :: t6 :: t7 :: t8 :: t9 :: t10 :: t11 :: t12 :: t13 :: t14 :: t15 :: t16 :: t17 :: t18 :: t19 :: t20 :: t21 :: t22 :: t23 :: t24 :: t25 :: t26 :: t27 :: t28 :: t29 :: t30 :: t31 :: t32 :: t33 :: t34 :: t35 :: t36 :: t37 :: t38 :: t39 :: t40 :: t41 :: t42 :: t43 :: t44 :: t45 :: t46 :: t47 :: t48 :: t49 :: t50 :: t51 :: t52 :: t53 :: t54 :: t55 :: t56 :: t57 :: t58 :: t59 :: t60 :: t61 :: t62 :: t63 :: t64 :: t65 :: t66 :: t67 :: t68 :: t69 :: t70 :: t71 :: t72 :: t73 :: t74 :: t75 :: t76 :: t77 :: t78 :: t79 :: t80 :: t81 :: t82 :: t83 :: t84 :: t85 :: t86 :: t87 :: t88 :: t89 :: t90 :: t91 :: t92 :: t93 :: t94 :: t95 :: t96 :: t97 :: t98 :: t99 :: t100 :: t101 :: t102 :: t103 :: t104 :: t105 :: t106 :: t107 :: t108 :: t109 :: t110 :: t111 :: t112 :: t113 :: []), h⟩ = some (t6, h) := by kernel_rfl
theorem xm12_0 (s : Sys) (k wl : Nat) (m0 : Nat) (ac : List Nat × List Nat) (t0 t1 t2 t3 t4 t5 t6 t7 t8 t9 t10 t11 t12 t13 t14 t15 t16 t17 t18 t19 t20 t21 t22 t23 t24 t25 t26 t27 t28 t29 t30 t31 t32 t33 t34 t35 t36 t37 t38 t39 t40 t41 t42 t43 t44 t45 t46 t47 t48 t49 t50 t51 t52 t53 t54 t55 t56 t57 t58 t59 t60 t61 t62 t63 t64 t65 t66 t67 t68 t69 t70 t71 t72 t73 t74 t75 t76 t77 t78 t79 t80 t81 t82 t83 t84 t85 t86 t87 t88 t89 t90 t91 t92 t93 t94 t95 t96 t97 t98 t99 t100 t101 t102 t103 t104 t105 t106 t107 t108 t109 t110 t111 t112 t113 : V) (h : Hp) : opsP (xX s 12 wl k false) xg12_0 5 m0 ac (runK (xX s 12 wl k false) (bodyK s.P Try.f12) xk12_0) ⟨(t0 :: t1 :: t2 :: t3 :: t4 :: t5 :: t6 :: t7 :: t8 :: t9 :: t10 :: t11 :: t12 :: t13 :: t14 :: t15 :: t16 :: t17 :: t18 :: t19 :: t20 :: t21 :: t22 :: t23 :: t24 :: t25 :: t26 :: t27 :: t28 :: t29 :: t30 :: t31 :: t32 :: t33 :: t34 :: t35 :: t36 :: t37 :: t38 :: t39 :: t40 :: t41 :: t42 :: t43 :: t44 :: t45 :: t46 :: t47 :: t48 :: t49 :: t50 :: t51 :: t52 :: t53 :: t54 :: t55 :: t56 :: t57 :: t58 :: t59 :: t60 :: t61 :: t62 :: t63 :: t64 :: t65 :: t66 :: t67 :: t68 :: t69 :: t70 :: t71 :: t72 :: t73 :: t74 :: t75 :: t76 :: t77 :: t78 :: t79 :: t80 :: t81 :: t82 :: t83 :: t84 :: t85 :: t86 :: t87 :: t88 :: t89 :: t90 :: t91 :: t92 :: t93 :: t94 :: t95 :: t96 :: t97 :: t98 :: t99 :: t100 :: t101 :: t102 :: t103 :: t104 :: t105 :: t106 :: t107 :: t108 :: t109 :: t110 :: t111 :: t112 :: t113 :: []), h⟩ =
  bm (vPick t19 (V.lit (Value.bool true)) t21) h fun v9 h10 =>
  gd v9 (
  opsP (xX s 12 wl k false) xg12_0 10 m0 ac (runK (xX s 12 wl k false) (bodyK s.P Try.f12) xk12_0) ⟨(t0 :: t1 :: t2 :: t3 :: t4 :: t5 :: t6 :: t7 :: t8 :: t9 :: t10 :: t11 :: t12 :: t13 :: t14 :: t15 :: t16 :: t17 :: t18 :: t19 :: t20 :: t21 :: v9 :: (V.lit (Value.bool true)) :: uu :: uu :: uu :: t27 :: t28 :: t29 :: t30 :: t31 :: t32 :: t33 :: t34 :: t35 :: t36 :: t37 :: t38 :: t39 :: t40 :: t41 :: t42 :: t43 :: t44 :: t45 :: t46 :: t47 :: t48 :: t49 :: t50 :: t51 :: t52 :: t53 :: t54 :: t55 :: t56 :: t57 :: t58 :: t59 :: t60 :: t61 :: t62 :: t63 :: t64 :: t65 :: t66 :: t67 :: t68 :: t69 :: t70 :: t71 :: t72 :: t73 :: t74 :: t75 :: t76 :: t77 :: t78 :: t79 :: t80 :: t81 :: t82 :: t83 :: t84 :: t85 :: t86 :: t87 :: t88 :: t89 :: t90 :: t91 :: t92 :: t93 :: t94 :: t95 :: t96 :: t97 :: t98 :: t99 :: t100 :: t101 :: t102 :: t103 :: t104 :: t105 :: t106 :: t107 :: t108 :: t109 :: t110 :: t111 :: t112 :: t113 :: []), h10⟩) (
  bp (opLen s.P 43 t1 h10) fun v11 h12 =>
  bm (vBin s.P .gtr 3 v11 (V.lit (Value.int .i64 40))) h12 fun v13 h14 =>
  opsP (xX s 12 wl k false) xg12_0 10 m0 ac (runK (xX s 12 wl k false) (bodyK s.P Try.f12) xk12_0) ⟨(t0 :: t1 :: t2 :: t3 :: t4 :: t5 :: t6 :: t7 :: t8 :: t9 :: t10 :: t11 :: t12 :: t13 :: t14 :: t15 :: t16 :: t17 :: t18 :: t19 :: t20 :: t21 :: v9 :: (V.lit (Value.bool false)) :: t1 :: v11 :: v13 :: t27 :: t28 :: t29 :: t30 :: t31 :: t32 :: t33 :: t34 :: t35 :: t36 :: t37 :: t38 :: t39 :: t40 :: t41 :: t42 :: t43 :: t44 :: t45 :: t46 :: t47 :: t48 :: t49 :: t50 :: t51 :: t52 :: t53 :: t54 :: t55 :: t56 :: t57 :: t58 :: t59 :: t60 :: t61 :: t62 :: t63 :: t64 :: t65 :: t66 :: t67 :: t68 :: t69 :: t70 :: t71 :: t72 :: t73 :: t74 :: t75 :: t76 :: t77 :: t78 :: t79 :: t80 :: t81 :: t82 :: t83 :: t84 :: t85 :: t86 :: t87 :: t88 :: t89 :: t90 :: t91 :: t92 :: t93 :: t94 :: t95 :: t96 :: t97 :: t98 :: t99 :: t100 :: t101 :: t102 :: t103 :: t104 :: t105 :: t106 :: t107 :: t108 :: t109 :: t110 :: t111 :: t112 :: t113 :: []), h14⟩) (
  opsP (xX s 12 wl k false) xg12_0 8 m0 ac (runK (xX s 12 wl k false) (bodyK s.P Try.f12) xk12_0) ⟨(t0 :: t1 :: t2 :: t3 :: t4 :: t5 :: t6 :: t7 :: t8 :: t9 :: t10 :: t11 :: t12 :: t13 :: t14 :: t15 :: t16 :: t17 :: t18 :: t19 :: t20 :: t21 :: v9 :: v9 :: uu :: t25 :: t26 :: t27 :: t28 :: t29 :: t30 :: t31 :: t32 :: t33 :: t34 :: t35 :: t36 :: t37 :: t38 :: t39 :: t40 :: t41 :: t42 :: t43 :: t44 :: t45 :: t46 :: t47 :: t48 :: t49 :: t50 :: t51 :: t52 :: t53 :: t54 :: t55 :: t56 :: t57 :: t58 :: t59 :: t60 :: t61 :: t62 :: t63 :: t64 :: t65 :: t66 :: t67 :: t68 :: t69 :: t70 :: t71 :: t72 :: t73 :: t74 :: t75 :: t76 :: t77 :: t78 :: t79 :: t80 :: t81 :: t82 :: t83 :: t84 :: t85 :: t86 :: t87 :: t88 :: t89 :: t90 :: t91 :: t92 :: t93 :: t94 :: t95 :: t96 :: t97 :: t98 :: t99 :: t100 :: t101 :: t102 :: t103 :: t104 :: t105 :: t106 :: t107 :: t108 :: t109 :: t110 :: t111 :: t112 :: t113 :: []), h10⟩) :=
  (go_op0 rfl rfl (st_bm (by kernel_rfl) fun v9 h10 =>
  (go_op0 rfl rfl (st_id (v := v9) (H := h10) (by kernel_rfl)
  (go_gdF0 rfl rfl rfl (by kernel_rfl)
  (go_skip0 rfl rfl rfl (by kernel_rfl)
  (go_skip0 rfl rfl rfl (by kernel_rfl)
  (by kernel_rfl)))
  (st_id (v := t1) (H := h10) (by kernel_rfl)
  (go_run0 rfl rfl rfl (by kernel_rfl) (st_bp (by kernel_rfl) fun v11 h12 =>
  (go_run0 rfl rfl rfl (by kernel_rfl) (st_bm (by kernel_rfl) fun v13 h14 =>
  (by kernel_rfl))))))
  (by kernel_rfl))))))
theorem xm12_1 (s : Sys) (k wl : Nat) (m0 : Nat) (ac : List Nat × List Nat) (t0 t1 t2 t3 t4 t5 t6 t7 t8 t9 t10 t11 t12 t13 t14 t15 t16 t17 t18 t19 t20 t21 t22 t23 t24 t25 t26 t27 t28 t29 t30 t31 t32 t33 t34 t35 t36 t37 t38 t39 t40 t41 t42 t43 t44 t45 t46 t47 t48 t49 t50 t51 t52 t53 t54 t55 t56 t57 t58 t59 t60 t61 t62 t63 t64 t65 t66 t67 t68 t69 t70 t71 t72 t73 t74 t75 t76 t77 t78 t79 t80 t81 t82 t83 t84 t85 t86 t87 t88 t89 t90 t91 t92 t93 t94 t95 t96 t97 t98 t99 t100 t101 t102 t103 t104 t105 t106 t107 t108 t109 t110 t111 t112 t113 : V) (h : Hp) : opsP (xX s 12 wl k false) xg12_0 10 m0 ac (runK (xX s 12 wl k false) (bodyK s.P Try.f12) xk12_0) ⟨(t0 :: t1 :: t2 :: t3 :: t4 :: t5 :: t6 :: t7 :: t8 :: t9 :: t10 :: t11 :: t12 :: t13 :: t14 :: t15 :: t16 :: t17 :: t18 :: t19 :: t20 :: t21 :: t22 :: t23 :: t24 :: t25 :: t26 :: t27 :: t28 :: t29 :: t30 :: t31 :: t32 :: t33 :: t34 :: t35 :: t36 :: t37 :: t38 :: t39 :: t40 :: t41 :: t42 :: t43 :: t44 :: t45 :: t46 :: t47 :: t48 :: t49 :: t50 :: t51 :: t52 :: t53 :: t54 :: t55 :: t56 :: t57 :: t58 :: t59 :: t60 :: t61 :: t62 :: t63 :: t64 :: t65 :: t66 :: t67 :: t68 :: t69 :: t70 :: t71 :: t72 :: t73 :: t74 :: t75 :: t76 :: t77 :: t78 :: t79 :: t80 :: t81 :: t82 :: t83 :: t84 :: t85 :: t86 :: t87 :: t88 :: t89 :: t90 :: t91 :: t92 :: t93 :: t94 :: t95 :: t96 :: t97 :: t98 :: t99 :: t100 :: t101 :: t102 :: t103 :: t104 :: t105 :: t106 :: t107 :: t108 :: t109 :: t110 :: t111 :: t112 :: t113 :: []), h⟩ =
  bm (vPick t23 (V.lit (Value.bool true)) t26) h fun v15 h16 =>
  gd v15 (
  opsP (xX s 12 wl k false) xg12_0 16 m0 ac (runK (xX s 12 wl k false) (bodyK s.P Try.f12) xk12_0) ⟨(t0 :: t1 :: t2 :: t3 :: t4 :: t5 :: t6 :: t7 :: t8 :: t9 :: t10 :: t11 :: t12 :: t13 :: t14 :: t15 :: t16 :: t17 :: t18 :: t19 :: t20 :: t21 :: t22 :: t23 :: t24 :: t25 :: t26 :: v15 :: (V.lit (Value.bool true)) :: uu :: uu :: uu :: uu :: t33 :: t34 :: t35 :: t36 :: t37 :: t38 :: t39 :: t40 :: t41 :: t42 :: t43 :: t44 :: t45 :: t46 :: t47 :: t48 :: t49 :: t50 :: t51 :: t52 :: t53 :: t54 :: t55 :: t56 :: t57 :: t58 :: t59 :: t60 :: t61 :: t62 :: t63 :: t64 :: t65 :: t66 :: t67 :: t68 :: t69 :: t70 :: t71 :: t72 :: t73 :: t74 :: t75 :: t76 :: t77 :: t78 :: t79 :: t80 :: t81 :: t82 :: t83 :: t84 :: t85 :: t86 :: t87 :: t88 :: t89 :: t90 :: t91 :: t92 :: t93 :: t94 :: t95 :: t96 :: t97 :: t98 :: t99 :: t100 :: t101 :: t102 :: t103 :: t104 :: t105 :: t106 :: t107 :: t108 :: t109 :: t110 :: t111 :: t112 :: t113 :: []), h16⟩) (
  bp (callV (xX s 12 wl k false) false true (.fn (.func 48) [] []) [t0, t1] h16) fun v17 h18 =>
  bm (vUn .not v17) h18 fun v19 h20 =>
  opsP (xX s 12 wl k false) xg12_0 16 m0 ac (runK (xX s 12 wl k false) (bodyK s.P Try.f12) xk12_0) ⟨(t0 :: t1 :: t2 :: t3 :: t4 :: t5 :: t6 :: t7 :: t8 :: t9 :: t10 :: t11 :: t12 :: t13 :: t14 :: t15 :: t16 :: t17 :: t18 :: t19 :: t20 :: t21 :: t22 :: t23 :: t24 :: t25 :: t26 :: v15 :: (V.lit (Value.bool false)) :: t0 :: t1 :: v17 :: v19 :: t33 :: t34 :: t35 :: t36 :: t37 :: t38 :: t39 :: t40 :: t41 :: t42 :: t43 :: t44 :: t45 :: t46 :: t47 :: t48 :: t49 :: t50 :: t51 :: t52 :: t53 :: t54 :: t55 :: t56 :: t57 :: t58 :: t59 :: t60 :: t61 :: t62 :: t63 :: t64 :: t65 :: t66 :: t67 :: t68 :: t69 :: t70 :: t71 :: t72 :: t73 :: t74 :: t75 :: t76 :: t77 :: t78 :: t79 :: t80 :: t81 :: t82 :: t83 :: t84 :: t85 :: t86 :: t87 :: t88 :: t89 :: t90 :: t91 :: t92 :: t93 :: t94 :: t95 :: t96 :: t97 :: t98 :: t99 :: t100 :: t101 :: t102 :: t103 :: t104 :: t105 :: t106 :: t107 :: t108 :: t109 :: t110 :: t111 :: t112 :: t113 :: []), h20⟩) (
  opsP (xX s 12 wl k false) xg12_0 13 m0 ac (runK (xX s 12 wl k false) (bodyK s.P Try.f12) xk12_0) ⟨(t0 :: t1 :: t2 :: t3 :: t4 :: t5 :: t6 :: t7 :: t8 :: t9 :: t10 :: t11 :: t12 :: t13 :: t14 :: t15 :: t16 :: t17 :: t18 :: t19 :: t20 :: t21 :: t22 :: t23 :: t24 :: t25 :: t26 :: v15 :: v15 :: uu :: t30 :: t31 :: t32 :: t33 :: t34 :: t35 :: t36 :: t37 :: t38 :: t39 :: t40 :: t41 :: t42 :: t43 :: t44 :: t45 :: t46 :: t47 :: t48 :: t49 :: t50 :: t51 :: t52 :: t53 :: t54 :: t55 :: t56 :: t57 :: t58 :: t59 :: t60 :: t61 :: t62 :: t63 :: t64 :: t65 :: t66 :: t67 :: t68 :: t69 :: t70 :: t71 :: t72 :: t73 :: t74 :: t75 :: t76 :: t77 :: t78 :: t79 :: t80 :: t81 :: t82 :: t83 :: t84 :: t85 :: t86 :: t87 :: t88 :: t89 :: t90 :: t91 :: t92 :: t93 :: t94 :: t95 :: t96 :: t97 :: t98 :: t99 :: t100 :: t101 :: t102 :: t103 :: t104 :: t105 :: t106 :: t107 :: t108 :: t109 :: t110 :: t111 :: t112 :: t113 :: []), h16⟩) :=
  (go_op0 rfl rfl (st_bm (by kernel_rfl) fun v15 h16 =>
  (go_op0 rfl rfl (st_id (v := v15) (H := h16) (by kernel_rfl)
  (go_gdF0 rfl rfl rfl (by kernel_rfl)
  (go_skip0 rfl rfl rfl (by kernel_rfl)
  (go_skip0 rfl rfl rfl (by kernel_rfl)
  (go_skip0 rfl rfl rfl (by kernel_rfl)
  (by kernel_rfl))))
  (st_id (v := t0) (H := h16) (by kernel_rfl)
  (go_run0 rfl rfl rfl (by kernel_rfl) (st_id (v := t1) (H := h16) (by kernel_rfl)
  (go_run0 rfl rfl rfl (by kernel_rfl) (st_bp (by kernel_rfl) fun v17 h18 =>
  (go_run0 rfl rfl rfl (by kernel_rfl) (st_bm (by kernel_rfl) fun v19 h20 =>
  (by kernel_rfl))))))))
  (by kernel_rfl))))))
theorem xm12_2 (s : Sys) (k wl : Nat) (m0 : Nat) (ac : List Nat × List Nat) (t0 t1 t2 t3 t4 t5 t6 t7 t8 t9 t10 t11 t12 t13 t14 t15 t16 t17 t18 t19 t20 t21 t22 t23 t24 t25 t26 t27 t28 t29 t30 t31 t32 t33 t34 t35 t36 t37 t38 t39 t40 t41 t42 t43 t44 t45 t46 t47 t48 t49 t50 t51 t52 t53 t54 t55 t56 t57 t58 t59 t60 t61 t62 t63 t64 t65 t66 t67 t68 t69 t70 t71 t72 t73 t74 t75 t76 t77 t78 t79 t80 t81 t82 t83 t84 t85 t86 t87 t88 t89 t90 t91 t92 t93 t94 t95 t96 t97 t98 t99 t100 t101 t102 t103 t104 t105 t106 t107 t108 t109 t110 t111 t112 t113 : V) (h : Hp) : opsP (xX s 12 wl k false) xg12_0 16 m0 ac (runK (xX s 12 wl k false) (bodyK s.P Try.f12) xk12_0) ⟨(t0 :: t1 :: t2 :: t3 :: t4 :: t5 :: t6 :: t7 :: t8 :: t9 :: t10 :: t11 :: t12 :: t13 :: t14 :: t15 :: t16 :: t17 :: t18 :: t19 :: t20 :: t21 :: t22 :: t23 :: t24 :: t25 :: t26 :: t27 :: t28 :: t29 :: t30 :: t31 :: t32 :: t33 :: t34 :: t35 :: t36 :: t37 :: t38 :: t39 :: t40 :: t41 :: t42 :: t43 :: t44 :: t45 :: t46 :: t47 :: t48 :: t49 :: t50 :: t51 :: t52 :: t53 :: t54 :: t55 :: t56 :: t57 :: t58 :: t59 :: t60 :: t61 :: t62 :: t63 :: t64 :: t65 :: t66 :: t67 :: t68 :: t69 :: t70 :: t71 :: t72 :: t73 :: t74 :: t75 :: t76 :: t77 :: t78 :: t79 :: t80 :: t81 :: t82 :: t83 :: t84 :: t85 :: t86 :: t87 :: t88 :: t89 :: t90 :: t91 :: t92 :: t93 :: t94 :: t95 :: t96 :: t97 :: t98 :: t99 :: t100 :: t101 :: t102 :: t103 :: t104 :: t105 :: t106 :: t107 :: t108 :: t109 :: t110 :: t111 :: t112 :: t113 :: []), h⟩ =
  bm (vPick t28 (V.lit (Value.bool true)) t32) h fun v21 h22 =>
  gd v21 (
  opsP (xX s 12 wl k false) xg12_0 21 m0 ac (runK (xX s 12 wl k false) (bodyK s.P Try.f12) xk12_0) ⟨(t0 :: t1 :: t2 :: t3 :: t4 :: t5 :: t6 :: t7 :: t8 :: t9 :: t10 :: t11 :: t12 :: t13 :: t14 :: t15 :: t16 :: t17 :: t18 :: t19 :: t20 :: t21 :: t22 :: t23 :: t24 :: t25 :: t26 :: t27 :: t28 :: t29 :: t30 :: t31 :: t32 :: v21 :: (V.lit (Value.bool true)) :: uu :: uu :: uu :: t38 :: t39 :: t40 :: t41 :: t42 :: t43 :: t44 :: t45 :: t46 :: t47 :: t48 :: t49 :: t50 :: t51 :: t52 :: t53 :: t54 :: t55 :: t56 :: t57 :: t58 :: t59 :: t60 :: t61 :: t62 :: t63 :: t64 :: t65 :: t66 :: t67 :: t68 :: t69 :: t70 :: t71 :: t72 :: t73 :: t74 :: t75 :: t76 :: t77 :: t78 :: t79 :: t80 :: t81 :: t82 :: t83 :: t84 :: t85 :: t86 :: t87 :: t88 :: t89 :: t90 :: t91 :: t92 :: t93 :: t94 :: t95 :: t96 :: t97 :: t98 :: t99 :: t100 :: t101 :: t102 :: t103 :: t104 :: t105 :: t106 :: t107 :: t108 :: t109 :: t110 :: t111 :: t112 :: t113 :: []), h22⟩) (
  bp (callV (xX s 12 wl k false) false true (.fn (.func 50) [] []) [t0] h22) fun v23 h24 =>
  bm (vUn .not v23) h24 fun v25 h26 =>
  opsP (xX s 12 wl k false) xg12_0 21 m0 ac (runK (xX s 12 wl k false) (bodyK s.P Try.f12) xk12_0) ⟨(t0 :: t1 :: t2 :: t3 :: t4 :: t5 :: t6 :: t7 :: t8 :: t9 :: t10 :: t11 :: t12 :: t13 :: t14 :: t15 :: t16 :: t17 :: t18 :: t19 :: t20 :: t21 :: t22 :: t23 :: t24 :: t25 :: t26 :: t27 :: t28 :: t29 :: t30 :: t31 :: t32 :: v21 :: (V.lit (Value.bool false)) :: t0 :: v23 :: v25 :: t38 :: t39 :: t40 :: t41 :: t42 :: t43 :: t44 :: t45 :: t46 :: t47 :: t48 :: t49 :: t50 :: t51 :: t52 :: t53 :: t54 :: t55 :: t56 :: t57 :: t58 :: t59 :: t60 :: t61 :: t62 :: t63 :: t64 :: t65 :: t66 :: t67 :: t68 :: t69 :: t70 :: t71 :: t72 :: t73 :: t74 :: t75 :: t76 :: t77 :: t78 :: t79 :: t80 :: t81 :: t82 :: t83 :: t84 :: t85 :: t86 :: t87 :: t88 :: t89 :: t90 :: t91 :: t92 :: t93 :: t94 :: t95 :: t96 :: t97 :: t98 :: t99 :: t100 :: t101 :: t102 :: t103 :: t104 :: t105 :: t106 :: t107 :: t108 :: t109 :: t110 :: t111 :: t112 :: t113 :: []), h26⟩) (
  opsP (xX s 12 wl k false) xg12_0 19 m0 ac (runK (xX s 12 wl k false) (bodyK s.P Try.f12) xk12_0) ⟨(t0 :: t1 :: t2 :: t3 :: t4 :: t5 :: t6 :: t7 :: t8 :: t9 :: t10 :: t11 :: t12 :: t13 :: t14 :: t15 :: t16 :: t17 :: t18 :: t19 :: t20 :: t21 :: t22 :: t23 :: t24 :: t25 :: t26 :: t27 :: t28 :: t29 :: t30 :: t31 :: t32 :: v21 :: v21 :: uu :: t36 :: t37 :: t38 :: t39 :: t40 :: t41 :: t42 :: t43 :: t44 :: t45 :: t46 :: t47 :: t48 :: t49 :: t50 :: t51 :: t52 :: t53 :: t54 :: t55 :: t56 :: t57 :: t58 :: t59 :: t60 :: t61 :: t62 :: t63 :: t64 :: t65 :: t66 :: t67 :: t68 :: t69 :: t70 :: t71 :: t72 :: t73 :: t74 :: t75 :: t76 :: t77 :: t78 :: t79 :: t80 :: t81 :: t82 :: t83 :: t84 :: t85 :: t86 :: t87 :: t88 :: t89 :: t90 :: t91 :: t92 :: t93 :: t94 :: t95 :: t96 :: t97 :: t98 :: t99 :: t100 :: t101 :: t102 :: t103 :: t104 :: t105 :: t106 :: t107 :: t108 :: t109 :: t110 :: t111 :: t112 :: t113 :: []), h22⟩) :=
  (go_op0 rfl rfl (st_bm (by kernel_rfl) fun v21 h22 =>
  (go_op0 rfl rfl (st_id (v := v21) (H := h22) (by kernel_rfl)
  (go_gdF0 rfl rfl rfl (by kernel_rfl)
  (go_skip0 rfl rfl rfl (by kernel_rfl)
  (go_skip0 rfl rfl rfl (by kernel_rfl)
  (by kernel_rfl)))
  (st_id (v := t0) (H := h22) (by kernel_rfl)
  (go_run0 rfl rfl rfl (by kernel_rfl) (st_bp (by kernel_rfl) fun v23 h24 =>
  (go_run0 rfl rfl rfl (by kernel_rfl) (st_bm (by kernel_rfl) fun v25 h26 =>
  (by kernel_rfl))))))
  (by kernel_rfl))))))
theorem xm12_3 (s : Sys) (k wl : Nat) (m0 : Nat) (ac : List Nat × List Nat) (t0 t1 t2 t3 t4 t5 t6 t7 t8 t9 t10 t11 t12 t13 t14 t15 t16 t17 t18 t19 t20 t21 t22 t23 t24 t25 t26 t27 t28 t29 t30 t31 t32 t33 t34 t35 t36 t37 t38 t39 t40 t41 t42 t43 t44 t45 t46 t47 t48 t49 t50 t51 t52 t53 t54 t55 t56 t57 t58 t59 t60 t61 t62 t63 t64 t65 t66 t67 t68 t69 t70 t71 t72 t73 t74 t75 t76 t77 t78 t79 t80 t81 t82 t83 t84 t85 t86 t87 t88 t89 t90 t91 t92 t93 t94 t95 t96 t97 t98 t99 t100 t101 t102 t103 t104 t105 t106 t107 t108 t109 t110 t111 t112 t113 : V) (h : Hp) : opsP (xX s 12 wl k false) xg12_0 21 m0 ac (runK (xX s 12 wl k false) (bodyK s.P Try.f12) xk12_0) ⟨(t0 :: t1 :: t2 :: t3 :: t4 :: t5 :: t6 :: t7 :: t8 :: t9 :: t10 :: t11 :: t12 :: t13 :: t14 :: t15 :: t16 :: t17 :: t18 :: t19 :: t20 :: t21 :: t22 :: t23 :: t24 :: t25 :: t26 :: t27 :: t28 :: t29 :: t30 :: t31 :: t32 :: t33 :: t34 :: t35 :: t36 :: t37 :: t38 :: t39 :: t40 :: t41 :: t42 :: t43 :: t44 :: t45 :: t46 :: t47 :: t48 :: t49 :: t50 :: t51 :: t52 :: t53 :: t54 :: t55 :: t56 :: t57 :: t58 :: t59 :: t60 :: t61 :: t62 :: t63 :: t64 :: t65 :: t66 :: t67 :: t68 :: t69 :: t70 :: t71 :: t72 :: t73 :: t74 :: t75 :: t76 :: t77 :: t78 :: t79 :: t80 :: t81 :: t82 :: t83 :: t84 :: t85 :: t86 :: t87 :: t88 :: t89 :: t90 :: t91 :: t92 :: t93 :: t94 :: t95 :: t96 :: t97 :: t98 :: t99 :: t100 :: t101 :: t102 :: t103 :: t104 :: t105 :: t106 :: t107 :: t108 :: t109 :: t110 :: t111 :: t112 :: t113 :: []), h⟩ =
  bm (vPick t34 (V.lit (Value.bool true)) t37) h fun v27 h28 =>
  gd v27 (
  opsP (xX s 12 wl k false) xg12_0 25 m0 ac (runK (xX s 12 wl k false) (bodyK s.P Try.f12) xk12_0) ⟨(t0 :: t1 :: t2 :: t3 :: t4 :: t5 :: t6 :: t7 :: t8 :: t9 :: t10 :: t11 :: t12 :: t13 :: t14 :: t15 :: t16 :: t17 :: t18 :: t19 :: t20 :: t21 :: t22 :: t23 :: t24 :: t25 :: t26 :: t27 :: t28 :: t29 :: t30 :: t31 :: t32 :: t33 :: t34 :: t35 :: t36 :: t37 :: v27 :: (V.lit (Value.bool true)) :: uu :: uu :: t42 :: t43 :: t44 :: t45 :: t46 :: t47 :: t48 :: t49 :: t50 :: t51 :: t52 :: t53 :: t54 :: t55 :: t56 :: t57 :: t58 :: t59 :: t60 :: t61 :: t62 :: t63 :: t64 :: t65 :: t66 :: t67 :: t68 :: t69 :: t70 :: t71 :: t72 :: t73 :: t74 :: t75 :: t76 :: t77 :: t78 :: t79 :: t80 :: t81 :: t82 :: t83 :: t84 :: t85 :: t86 :: t87 :: t88 :: t89 :: t90 :: t91 :: t92 :: t93 :: t94 :: t95 :: t96 :: t97 :: t98 :: t99 :: t100 :: t101 :: t102 :: t103 :: t104 :: t105 :: t106 :: t107 :: t108 :: t109 :: t110 :: t111 :: t112 :: t113 :: []), h28⟩) (
  bm (vBin s.P .lss 3 t2 (V.lit (Value.int .i64 0))) h28 fun v29 h30 =>
  opsP (xX s 12 wl k false) xg12_0 25 m0 ac (runK (xX s 12 wl k false) (bodyK s.P Try.f12) xk12_0) ⟨(t0 :: t1 :: t2 :: t3 :: t4 :: t5 :: t6 :: t7 :: t8 :: t9 :: t10 :: t11 :: t12 :: t13 :: t14 :: t15 :: t16 :: t17 :: t18 :: t19 :: t20 :: t21 :: t22 :: t23 :: t24 :: t25 :: t26 :: t27 :: t28 :: t29 :: t30 :: t31 :: t32 :: t33 :: t34 :: t35 :: t36 :: t37 :: v27 :: (V.lit (Value.bool false)) :: t2 :: v29 :: t42 :: t43 :: t44 :: t45 :: t46 :: t47 :: t48 :: t49 :: t50 :: t51 :: t52 :: t53 :: t54 :: t55 :: t56 :: t57 :: t58 :: t59 :: t60 :: t61 :: t62 :: t63 :: t64 :: t65 :: t66 :: t67 :: t68 :: t69 :: t70 :: t71 :: t72 :: t73 :: t74 :: t75 :: t76 :: t77 :: t78 :: t79 :: t80 :: t81 :: t82 :: t83 :: t84 :: t85 :: t86 :: t87 :: t88 :: t89 :: t90 :: t91 :: t92 :: t93 :: t94 :: t95 :: t96 :: t97 :: t98 :: t99 :: t100 :: t101 :: t102 :: t103 :: t104 :: t105 :: t106 :: t107 :: t108 :: t109 :: t110 :: t111 :: t112 :: t113 :: []), h30⟩) (
  opsP (xX s 12 wl k false) xg12_0 24 m0 ac (runK (xX s 12 wl k false) (bodyK s.P Try.f12) xk12_0) ⟨(t0 :: t1 :: t2 :: t3 :: t4 :: t5 :: t6 :: t7 :: t8 :: t9 :: t10 :: t11 :: t12 :: t13 :: t14 :: t15 :: t16 :: t17 :: t18 :: t19 :: t20 :: t21 :: t22 :: t23 :: t24 :: t25 :: t26 :: t27 :: t28 :: t29 :: t30 :: t31 :: t32 :: t33 :: t34 :: t35 :: t36 :: t37 :: v27 :: v27 :: uu :: t41 :: t42 :: t43 :: t44 :: t45 :: t46 :: t47 :: t48 :: t49 :: t50 :: t51 :: t52 :: t53 :: t54 :: t55 :: t56 :: t57 :: t58 :: t59 :: t60 :: t61 :: t62 :: t63 :: t64 :: t65 :: t66 :: t67 :: t68 :: t69 :: t70 :: t71 :: t72 :: t73 :: t74 :: t75 :: t76 :: t77 :: t78 :: t79 :: t80 :: t81 :: t82 :: t83 :: t84 :: t85 :: t86 :: t87 :: t88 :: t89 :: t90 :: t91 :: t92 :: t93 :: t94 :: t95 :: t96 :: t97 :: t98 :: t99 :: t100 :: t101 :: t102 :: t103 :: t104 :: t105 :: t106 :: t107 :: t108 :: t109 :: t110 :: t111 :: t112 :: t113 :: []), h28⟩) :=
  (go_op0 rfl rfl (st_bm (by kernel_rfl) fun v27 h28 =>
  (go_op0 rfl rfl (st_id (v := v27) (H := h28) (by kernel_rfl)
  (go_gdF0 rfl rfl rfl (by kernel_rfl)
  (go_skip0 rfl rfl rfl (by kernel_rfl)
  (by kernel_rfl))
  (st_id (v := t2) (H := h28) (by kernel_rfl)
  (go_run0 rfl rfl rfl (by kernel_rfl) (st_bm (by kernel_rfl) fun v29 h30 =>
  (by kernel_rfl))))
  (by kernel_rfl))))))
theorem xm12_4 (s : Sys) (k wl : Nat) (m0 : Nat) (ac : List Nat × List Nat) (t0 t1 t2 t3 t4 t5 t6 t7 t8 t9 t10 t11 t12 t13 t14 t15 t16 t17 t18 t19 t20 t21 t22 t23 t24 t25 t26 t27 t28 t29 t30 t31 t32 t33 t34 t35 t36 t37 t38 t39 t40 t41 t42 t43 t44 t45 t46 t47 t48 t49 t50 t51 t52 t53 t54 t55 t56 t57 t58 t59 t60 t61 t62 t63 t64 t65 t66 t67 t68 t69 t70 t71 t72 t73 t74 t75 t76 t77 t78 t79 t80 t81 t82 t83 t84 t85 t86 t87 t88 t89 t90 t91 t92 t93 t94 t95 t96 t97 t98 t99 t100 t101 t102 t103 t104 t105 t106 t107 t108 t109 t110 t111 t112 t113 : V) (h : Hp) : opsP (xX s 12 wl k false) xg12_0 25 m0 ac (runK (xX s 12 wl k false) (bodyK s.P Try.f12) xk12_0) ⟨(t0 :: t1 :: t2 :: t3 :: t4 :: t5 :: t6 :: t7 :: t8 :: t9 :: t10 :: t11 :: t12 :: t13 :: t14 :: t15 :: t16 :: t17 :: t18 :: t19 :: t20 :: t21 :: t22 :: t23 :: t24 :: t25 :: t26 :: t27 :: t28 :: t29 :: t30 :: t31 :: t32 :: t33 :: t34 :: t35 :: t36 :: t37 :: t38 :: t39 :: t40 :: t41 :: t42 :: t43 :: t44 :: t45 :: t46 :: t47 :: t48 :: t49 :: t50 :: t51 :: t52 :: t53 :: t54 :: t55 :: t56 :: t57 :: t58 :: t59 :: t60 :: t61 :: t62 :: t63 :: t64 :: t65 :: t66 :: t67 :: t68 :: t69 :: t70 :: t71 :: t72 :: t73 :: t74 :: t75 :: t76 :: t77 :: t78 :: t79 :: t80 :: t81 :: t82 :: t83 :: t84 :: t85 :: t86 :: t87 :: t88 :: t89 :: t90 :: t91 :: t92 :: t93 :: t94 :: t95 :: t96 :: t97 :: t98 :: t99 :: t100 :: t101 :: t102 :: t103 :: t104 :: t105 :: t106 :: t107 :: t108 :: t109 :: t110 :: t111 :: t112 :: t113 :: []), h⟩ =
  bm (vPick t39 (V.lit (Value.bool true)) t41) h fun v31 h32 =>
  gd v31 (
  opsP (xX s 12 wl k false) xg12_0 31 m0 ac (runK (xX s 12 wl k false) (bodyK s.P Try.f12) xk12_0) ⟨(t0 :: t1 :: t2 :: t3 :: t4 :: t5 :: t6 :: t7 :: t8 :: t9 :: t10 :: t11 :: t12 :: t13 :: t14 :: t15 :: t16 :: t17 :: t18 :: t19 :: t20 :: t21 :: t22 :: t23 :: t24 :: t25 :: t26 :: t27 :: t28 :: t29 :: t30 :: t31 :: t32 :: t33 :: t34 :: t35 :: t36 :: t37 :: t38 :: t39 :: t40 :: t41 :: v31 :: (V.lit (Value.bool true)) :: uu :: uu :: uu :: uu :: t48 :: t49 :: t50 :: t51 :: t52 :: t53 :: t54 :: t55 :: t56 :: t57 :: t58 :: t59 :: t60 :: t61 :: t62 :: t63 :: t64 :: t65 :: t66 :: t67 :: t68 :: t69 :: t70 :: t71 :: t72 :: t73 :: t74 :: t75 :: t76 :: t77 :: t78 :: t79 :: t80 :: t81 :: t82 :: t83 :: t84 :: t85 :: t86 :: t87 :: t88 :: t89 :: t90 :: t91 :: t92 :: t93 :: t94 :: t95 :: t96 :: t97 :: t98 :: t99 :: t100 :: t101 :: t102 :: t103 :: t104 :: t105 :: t106 :: t107 :: t108 :: t109 :: t110 :: t111 :: t112 :: t113 :: []), h32⟩) (
  bp (opLen s.P 22 t0 h32) fun v33 h34 =>
  bm (vBin s.P .geq 3 t2 v33) h34 fun v35 h36 =>
  opsP (xX s 12 wl k false) xg12_0 31 m0 ac (runK (xX s 12 wl k false) (bodyK s.P Try.f12) xk12_0) ⟨(t0 :: t1 :: t2 :: t3 :: t4 :: t5 :: t6 :: t7 :: t8 :: t9 :: t10 :: t11 :: t12 :: t13 :: t14 :: t15 :: t16 :: t17 :: t18 :: t19 :: t20 :: t21 :: t22 :: t23 :: t24 :: t25 :: t26 :: t27 :: t28 :: t29 :: t30 :: t31 :: t32 :: t33 :: t34 :: t35 :: t36 :: t37 :: t38 :: t39 :: t40 :: t41 :: v31 :: (V.lit (Value.bool false)) :: t2 :: t0 :: v33 :: v35 :: t48 :: t49 :: t50 :: t51 :: t52 :: t53 :: t54 :: t55 :: t56 :: t57 :: t58 :: t59 :: t60 :: t61 :: t62 :: t63 :: t64 :: t65 :: t66 :: t67 :: t68 :: t69 :: t70 :: t71 :: t72 :: t73 :: t74 :: t75 :: t76 :: t77 :: t78 :: t79 :: t80 :: t81 :: t82 :: t83 :: t84 :: t85 :: t86 :: t87 :: t88 :: t89 :: t90 :: t91 :: t92 :: t93 :: t94 :: t95 :: t96 :: t97 :: t98 :: t99 :: t100 :: t101 :: t102 :: t103 :: t104 :: t105 :: t106 :: t107 :: t108 :: t109 :: t110 :: t111 :: t112 :: t113 :: []), h36⟩) (
  opsP (xX s 12 wl k false) xg12_0 28 m0 ac (runK (xX s 12 wl k false) (bodyK s.P Try.f12) xk12_0) ⟨(t0 :: t1 :: t2 :: t3 :: t4 :: t5 :: t6 :: t7 :: t8 :: t9 :: t10 :: t11 :: t12 :: t13 :: t14 :: t15 :: t16 :: t17 :: t18 :: t19 :: t20 :: t21 :: t22 :: t23 :: t24 :: t25 :: t26 :: t27 :: t28 :: t29 :: t30 :: t31 :: t32 :: t33 :: t34 :: t35 :: t36 :: t37 :: t38 :: t39 :: t40 :: t41 :: v31 :: v31 :: uu :: t45 :: t46 :: t47 :: t48 :: t49 :: t50 :: t51 :: t52 :: t53 :: t54 :: t55 :: t56 :: t57 :: t58 :: t59 :: t60 :: t61 :: t62 :: t63 :: t64 :: t65 :: t66 :: t67 :: t68 :: t69 :: t70 :: t71 :: t72 :: t73 :: t74 :: t75 :: t76 :: t77 :: t78 :: t79 :: t80 :: t81 :: t82 :: t83 :: t84 :: t85 :: t86 :: t87 :: t88 :: t89 :: t90 :: t91 :: t92 :: t93 :: t94 :: t95 :: t96 :: t97 :: t98 :: t99 :: t100 :: t101 :: t102 :: t103 :: t104 :: t105 :: t106 :: t107 :: t108 :: t109 :: t110 :: t111 :: t112 :: t113 :: []), h32⟩) :=
  (go_op0 rfl rfl (st_bm (by kernel_rfl) fun v31 h32 =>
  (go_op0 rfl rfl (st_id (v := v31) (H := h32) (by kernel_rfl)
  (go_gdF0 rfl rfl rfl (by kernel_rfl)
  (go_skip0 rfl rfl rfl (by kernel_rfl)
  (go_skip0 rfl rfl rfl (by kernel_rfl)
  (go_skip0 rfl rfl rfl (by kernel_rfl)
  (by kernel_rfl))))
  (st_id (v := t2) (H := h32) (by kernel_rfl)
  (go_run0 rfl rfl rfl (by kernel_rfl) (st_id (v := t0) (H := h32) (by kernel_rfl)
  (go_run0 rfl rfl rfl (by kernel_rfl) (st_bp (by kernel_rfl) fun v33 h34 =>
  (go_run0 rfl rfl rfl (by kernel_rfl) (st_bm (by kernel_rfl) fun v35 h36 =>
  (by kernel_rfl))))))))
  (by kernel_rfl))))))
theorem xm12_5 (s : Sys) (k wl : Nat) (m0 : Nat) (ac : List Nat × List Nat) (t0 t1 t2 t3 t4 t5 t6 t7 t8 t9 t10 t11 t12 t13 t14 t15 t16 t17 t18 t19 t20 t21 t22 t23 t24 t25 t26 t27 t28 t29 t30 t31 t32 t33 t34 t35 t36 t37 t38 t39 t40 t41 t42 t43 t44 t45 t46 t47 t48 t49 t50 t51 t52 t53 t54 t55 t56 t57 t58 t59 t60 t61 t62 t63 t64 t65 t66 t67 t68 t69 t70 t71 t72 t73 t74 t75 t76 t77 t78 t79 t80 t81 t82 t83 t84 t85 t86 t87 t88 t89 t90 t91 t92 t93 t94 t95 t96 t97 t98 t99 t100 t101 t102 t103 t104 t105 t106 t107 t108 t109 t110 t111 t112 t113 : V) (h : Hp) : opsP (xX s 12 wl k false) xg12_0 31 m0 ac (runK (xX s 12 wl k false) (bodyK s.P Try.f12) xk12_0) ⟨(t0 :: t1 :: t2 :: t3 :: t4 :: t5 :: t6 :: t7 :: t8 :: t9 :: t10 :: t11 :: t12 :: t13 :: t14 :: t15 :: t16 :: t17 :: t18 :: t19 :: t20 :: t21 :: t22 :: t23 :: t24 :: t25 :: t26 :: t27 :: t28 :: t29 :: t30 :: t31 :: t32 :: t33 :: t34 :: t35 :: t36 :: t37 :: t38 :: t39 :: t40 :: t41 :: t42 :: t43 :: t44 :: t45 :: t46 :: t47 :: t48 :: t49 :: t50 :: t51 :: t52 :: t53 :: t54 :: t55 :: t56 :: t57 :: t58 :: t59 :: t60 :: t61 :: t62 :: t63 :: t64 :: t65 :: t66 :: t67 :: t68 :: t69 :: t70 :: t71 :: t72 :: t73 :: t74 :: t75 :: t76 :: t77 :: t78 :: t79 :: t80 :: t81 :: t82 :: t83 :: t84 :: t85 :: t86 :: t87 :: t88 :: t89 :: t90 :: t91 :: t92 :: t93 :: t94 :: t95 :: t96 :: t97 :: t98 :: t99 :: t100 :: t101 :: t102 :: t103 :: t104 :: t105 :: t106 :: t107 :: t108 :: t109 :: t110 :: t111 :: t112 :: t113 :: []), h⟩ =
  bm (vPick t43 (V.lit (Value.bool true)) t47) h fun v37 h38 =>
  cnd v37 (
  some (t7, h38)) (
  bp (callV (xX s 12 wl k false) false true (.fn (.func 41) [] []) [t0, t1, t2] h38) fun v39 h40 =>
  itX (xX s 12 wl k false) xl12_0 h40.length (runK (xX s 12 wl k false) (bodyK s.P Try.f12) xk12_1) k ⟨((V.kill h40.length t0) :: (V.kill h40.length t1) :: (V.kill h40.length t2) :: (V.kill h40.length t3) :: (V.kill h40.length t4) :: (V.kill h40.length t5) :: (V.kill h40.length t6) :: (V.kill h40.length t7) :: (V.kill h40.length t8) :: (V.kill h40.length v39) :: (V.lit (Value.int .i64 0)) :: (V.kill h40.length t11) :: (V.kill h40.length t12) :: (V.kill h40.length t13) :: (V.kill h40.length t14) :: (V.kill h40.length t15) :: (V.kill h40.length t16) :: (V.kill h40.length t17) :: (V.kill h40.length t18) :: (V.kill h40.length t19) :: (V.kill h40.length t20) :: (V.kill h40.length t21) :: (V.kill h40.length t22) :: (V.kill h40.length t23) :: (V.kill h40.length t24) :: (V.kill h40.length t25) :: (V.kill h40.length t26) :: (V.kill h40.length t27) :: (V.kill h40.length t28) :: (V.kill h40.length t29) :: (V.kill h40.length t30) :: (V.kill h40.length t31) :: (V.kill h40.length t32) :: (V.kill h40.length t33) :: (V.kill h40.length t34) :: (V.kill h40.length t35) :: (V.kill h40.length t36) :: (V.kill h40.length t37) :: (V.kill h40.length t38) :: (V.kill h40.length t39) :: (V.kill h40.length t40) :: (V.kill h40.length t41) :: (V.kill h40.length t42) :: (V.kill h40.length t43) :: (V.kill h40.length t44) :: (V.kill h40.length t45) :: (V.kill h40.length t46) :: (V.kill h40.length t47) :: (V.kill h40.length v37) :: (V.kill h40.length t49) :: (V.kill h40.length t0) :: (V.kill h40.length t1) :: (V.kill h40.length t2) :: (V.kill h40.length v39) :: .junk :: .junk :: .junk :: .junk :: .junk :: .junk :: .junk :: .junk :: .junk :: .junk :: .junk :: .junk :: .junk :: .junk :: .junk :: .junk :: .junk :: .junk :: (V.kill h40.length t72) :: (V.kill h40.length t73) :: (V.kill h40.length t74) :: (V.kill h40.length t75) :: (V.kill h40.length t76) :: (V.kill h40.length t77) :: (V.kill h40.length t78) :: (V.kill h40.length t79) :: (V.kill h40.length t80) :: (V.kill h40.length t81) :: (V.kill h40.length t82) :: (V.kill h40.length t83) :: (V.kill h40.length t84) :: (V.kill h40.length t85) :: (V.kill h40.length t86) :: (V.kill h40.length t87) :: (V.kill h40.length t88) :: (V.kill h40.length t89) :: (V.kill h40.length t90) :: (V.kill h40.length t91) :: (V.kill h40.length t92) :: (V.kill h40.length t93) :: (V.kill h40.length t94) :: (V.kill h40.length t95) :: (V.kill h40.length t96) :: (V.kill h40.length t97) :: (V.kill h40.length t98) :: (V.kill h40.length t99) :: (V.kill h40.length t100) :: (V.kill h40.length t101) :: (V.kill h40.length t102) :: (V.kill h40.length t103) :: (V.kill h40.length t104) :: (V.kill h40.length t105) :: (V.kill h40.length t106) :: (V.kill h40.length t107) :: (V.kill h40.length t108) :: (V.kill h40.length t109) :: (V.kill h40.length t110) :: (V.kill h40.length t111) :: (V.kill h40.length t112) :: (V.kill h40.length t113) :: []), cutH h40.length h40⟩) :=
  (go_op0 rfl rfl (st_bm (by kernel_rfl) fun v37 h38 =>
  (go_end0 (by kernel_rfl)
  (go_cond (by kernel_rfl)
  (go_seq (go_reg0
  (go_op0 rfl rfl (st_id (v := t7) (H := h38) (by kernel_rfl)
  (go_op0 rfl rfl (st_id (v := t7) (H := h38) (by kernel_rfl)
  (go_end0 (by kernel_rfl)
  (go_ret (rt_seq_ret (by kernel_rfl))))))))))
  (go_skip (go_seq (go_reg0
  (go_op0 rfl rfl (st_id (v := t0) (H := h38) (by kernel_rfl)
  (go_op0 rfl rfl (st_id (v := t1) (H := h38) (by kernel_rfl)
  (go_op0 rfl rfl (st_id (v := t2) (H := h38) (by kernel_rfl)
  (go_op0 rfl rfl (st_bp (by kernel_rfl) fun v39 h40 =>
  (go_op0 rfl rfl (st_id (v := v39) (H := h40) (by kernel_rfl)
  (go_end0 (by kernel_rfl)
  (go_seq (go_seq (go_reg0
  (go_op0 rfl rfl (st_id (v := (V.lit (Value.int .i64 0))) (H := h40) (by kernel_rfl)
  (go_end0 (by kernel_rfl)
  (go_block (by kernel_rfl))))))))))))))))))))))))))
theorem xr12_0 (s : Sys) (K : Out → St → Option (V × Hp)) (k wl : Nat) (rd : Bool) (n n0 : Nat) (t0 t1 t2 t3 t4 t5 t6 t7 t8 t9 t10 t11 t12 t13 t14 t15 t16 t17 t18 t19 t20 t21 t22 t23 t24 t25 t26 t27 t28 t29 t30 t31 t32 t33 t34 t35 t36 t37 t38 t39 t40 t41 t42 t43 t44 t45 t46 t47 t48 t49 t50 t51 t52 t53 t54 t55 t56 t57 t58 t59 t60 t61 t62 t63 t64 t65 t66 t67 t68 t69 t70 t71 t72 t73 t74 t75 t76 t77 t78 t79 t80 t81 t82 t83 t84 t85 t86 t87 t88 t89 t90 t91 t92 t93 t94 t95 t96 t97 t98 t99 t100 t101 t102 t103 t104 t105 t106 t107 t108 t109 t110 t111 t112 t113 : V) (h : Hp) : itX (xX s 12 wl k rd) xl12_0 n0 K (n + 1) ⟨(t0 :: t1 :: t2 :: t3 :: t4 :: t5 :: t6 :: t7 :: t8 :: t9 :: t10 :: t11 :: t12 :: t13 :: t14 :: t15 :: t16 :: t17 :: t18 :: t19 :: t20 :: t21 :: t22 :: t23 :: t24 :: t25 :: t26 :: t27 :: t28 :: t29 :: t30 :: t31 :: t32 :: t33 :: t34 :: t35 :: t36 :: t37 :: t38 :: t39 :: t40 :: t41 :: t42 :: t43 :: t44 :: t45 :: t46 :: t47 :: t48 :: t49 :: t50 :: t51 :: t52 :: t53 :: t54 :: t55 :: t56 :: t57 :: t58 :: t59 :: t60 :: t61 :: t62 :: t63 :: t64 :: t65 :: t66 :: t67 :: t68 :: t69 :: t70 :: t71 :: t72 :: t73 :: t74 :: t75 :: t76 :: t77 :: t78 :: t79 :: t80 :: t81 :: t82 :: t83 :: t84 :: t85 :: t86 :: t87 :: t88 :: t89 :: t90 :: t91 :: t92 :: t93 :: t94 :: t95 :: t96 :: t97 :: t98 :: t99 :: t100 :: t101 :: t102 :: t103 :: t104 :: t105 :: t106 :: t107 :: t108 :: t109 :: t110 :: t111 :: t112 :: t113 :: []), h⟩ =
  bm (vIndexAddr s.P 22 t0 t2 h) h fun v41 h42 =>
  bm (vFieldAddr s.P 40 v41 0) h42 fun v43 h44 =>
  bm (vLoad s.P 3 v43 h44) h44 fun v45 h46 =>
  bm (vBin s.P .lss 3 t10 v45) h46 fun v47 h48 =>
  cnd v47 (
  bp (callV (xX s 12 wl k rd) false true (.fn (.func 44) [] []) [t0, t9] h48) fun v49 h50 =>
  bm (vBuild s.P 49 [(0, (V.lit (Value.int .i64 1))), (1, t2)]) h50 fun v51 h52 =>
  bm (vBin s.P .neq 49 v49 v51) h52 fun v53 h54 =>
  cnd v53 (
  K .ret ⟨(t0 :: t1 :: t2 :: t3 :: t4 :: t5 :: (V.lit (Value.bool false)) :: t7 :: t8 :: t9 :: t10 :: t11 :: t12 :: t13 :: t14 :: t15 :: t16 :: t17 :: t18 :: t19 :: t20 :: t21 :: t22 :: t23 :: t24 :: t25 :: t26 :: t27 :: t28 :: t29 :: t30 :: t31 :: t32 :: t33 :: t34 :: t35 :: t36 :: t37 :: t38 :: t39 :: t40 :: t41 :: t42 :: t43 :: t44 :: t45 :: t46 :: t47 :: t48 :: t49 :: t50 :: t51 :: t52 :: t53 :: t10 :: t0 :: t2 :: v41 :: v43 :: v45 :: v47 :: t61 :: t62 :: t0 :: t9 :: v49 :: t2 :: v51 :: v53 :: t69 :: t70 :: t71 :: t72 :: t73 :: t74 :: t75 :: t76 :: t77 :: t78 :: t79 :: t80 :: t81 :: t82 :: t83 :: t84 :: t85 :: t86 :: t87 :: t88 :: t89 :: t90 :: t91 :: t92 :: t93 :: t94 :: t95 :: t96 :: t97 :: t98 :: t99 :: t100 :: t101 :: t102 :: t103 :: t104 :: t105 :: t106 :: t107 :: t108 :: t109 :: t110 :: t111 :: t112 :: t113 :: []), h54⟩) (
  bp (callV (xX s 12 wl k rd) false true (.fn (.func 39) [] []) [t0, t9] h54) fun v55 h56 =>
  bm (vBin s.P .add 3 t10 (V.lit (Value.int .i64 1))) h56 fun v57 h58 =>
  itX (xX s 12 wl k rd) xl12_0 n0 K n ⟨((V.kill n0 t0) :: (V.kill n0 t1) :: (V.kill n0 t2) :: (V.kill n0 t3) :: (V.kill n0 t4) :: (V.kill n0 t5) :: (V.kill n0 t6) :: (V.kill n0 t7) :: (V.kill n0 t8) :: (V.kill n0 v55) :: (V.kill n0 v57) :: (V.kill n0 t11) :: (V.kill n0 t12) :: (V.kill n0 t13) :: (V.kill n0 t14) :: (V.kill n0 t15) :: (V.kill n0 t16) :: (V.kill n0 t17) :: (V.kill n0 t18) :: (V.kill n0 t19) :: (V.kill n0 t20) :: (V.kill n0 t21) :: (V.kill n0 t22) :: (V.kill n0 t23) :: (V.kill n0 t24) :: (V.kill n0 t25) :: (V.kill n0 t26) :: (V.kill n0 t27) :: (V.kill n0 t28) :: (V.kill n0 t29) :: (V.kill n0 t30) :: (V.kill n0 t31) :: (V.kill n0 t32) :: (V.kill n0 t33) :: (V.kill n0 t34) :: (V.kill n0 t35) :: (V.kill n0 t36) :: (V.kill n0 t37) :: (V.kill n0 t38) :: (V.kill n0 t39) :: (V.kill n0 t40) :: (V.kill n0 t41) :: (V.kill n0 t42) :: (V.kill n0 t43) :: (V.kill n0 t44) :: (V.kill n0 t45) :: (V.kill n0 t46) :: (V.kill n0 t47) :: (V.kill n0 t48) :: (V.kill n0 t49) :: (V.kill n0 t50) :: (V.kill n0 t51) :: (V.kill n0 t52) :: (V.kill n0 t53) :: .junk :: .junk :: .junk :: .junk :: .junk :: .junk :: .junk :: .junk :: .junk :: .junk :: .junk :: .junk :: .junk :: .junk :: .junk :: .junk :: .junk :: .junk :: (V.kill n0 t72) :: (V.kill n0 t73) :: (V.kill n0 t74) :: (V.kill n0 t75) :: (V.kill n0 t76) :: (V.kill n0 t77) :: (V.kill n0 t78) :: (V.kill n0 t79) :: (V.kill n0 t80) :: (V.kill n0 t81) :: (V.kill n0 t82) :: (V.kill n0 t83) :: (V.kill n0 t84) :: (V.kill n0 t85) :: (V.kill n0 t86) :: (V.kill n0 t87) :: (V.kill n0 t88) :: (V.kill n0 t89) :: (V.kill n0 t90) :: (V.kill n0 t91) :: (V.kill n0 t92) :: (V.kill n0 t93) :: (V.kill n0 t94) :: (V.kill n0 t95) :: (V.kill n0 t96) :: (V.kill n0 t97) :: (V.kill n0 t98) :: (V.kill n0 t99) :: (V.kill n0 t100) :: (V.kill n0 t101) :: (V.kill n0 t102) :: (V.kill n0 t103) :: (V.kill n0 t104) :: (V.kill n0 t105) :: (V.kill n0 t106) :: (V.kill n0 t107) :: (V.kill n0 t108) :: (V.kill n0 t109) :: (V.kill n0 t110) :: (V.kill n0 t111) :: (V.kill n0 t112) :: (V.kill n0 t113) :: []), cutH n0 h58⟩)) (
  K (.exit 0) ⟨((V.kill n0 t0) :: (V.kill n0 t1) :: (V.kill n0 t2) :: (V.kill n0 t3) :: (V.kill n0 t4) :: (V.kill n0 t5) :: (V.kill n0 t6) :: (V.kill n0 t7) :: (V.kill n0 t8) :: (V.kill n0 t9) :: (V.kill n0 t10) :: (V.kill n0 t11) :: (V.kill n0 t12) :: (V.kill n0 t13) :: (V.kill n0 t14) :: (V.kill n0 t15) :: (V.kill n0 t16) :: (V.kill n0 t17) :: (V.kill n0 t18) :: (V.kill n0 t19) :: (V.kill n0 t20) :: (V.kill n0 t21) :: (V.kill n0 t22) :: (V.kill n0 t23) :: (V.kill n0 t24) :: (V.kill n0 t25) :: (V.kill n0 t26) :: (V.kill n0 t27) :: (V.kill n0 t28) :: (V.kill n0 t29) :: (V.kill n0 t30) :: (V.kill n0 t31) :: (V.kill n0 t32) :: (V.kill n0 t33) :: (V.kill n0 t34) :: (V.kill n0 t35) :: (V.kill n0 t36) :: (V.kill n0 t37) :: (V.kill n0 t38) :: (V.kill n0 t39) :: (V.kill n0 t40) :: (V.kill n0 t41) :: (V.kill n0 t42) :: (V.kill n0 t43) :: (V.kill n0 t44) :: (V.kill n0 t45) :: (V.kill n0 t46) :: (V.kill n0 t47) :: (V.kill n0 t48) :: (V.kill n0 t49) :: (V.kill n0 t50) :: (V.kill n0 t51) :: (V.kill n0 t52) :: (V.kill n0 t53) :: .junk :: .junk :: .junk :: .junk :: .junk :: .junk :: .junk :: .junk :: .junk :: .junk :: .junk :: .junk :: .junk :: .junk :: .junk :: .junk :: .junk :: .junk :: (V.kill n0 t72) :: (V.kill n0 t73) :: (V.kill n0 t74) :: (V.kill n0 t75) :: (V.kill n0 t76) :: (V.kill n0 t77) :: (V.kill n0 t78) :: (V.kill n0 t79) :: (V.kill n0 t80) :: (V.kill n0 t81) :: (V.kill n0 t82) :: (V.kill n0 t83) :: (V.kill n0 t84) :: (V.kill n0 t85) :: (V.kill n0 t86) :: (V.kill n0 t87) :: (V.kill n0 t88) :: (V.kill n0 t89) :: (V.kill n0 t90) :: (V.kill n0 t91) :: (V.kill n0 t92) :: (V.kill n0 t93) :: (V.kill n0 t94) :: (V.kill n0 t95) :: (V.kill n0 t96) :: (V.kill n0 t97) :: (V.kill n0 t98) :: (V.kill n0 t99) :: (V.kill n0 t100) :: (V.kill n0 t101) :: (V.kill n0 t102) :: (V.kill n0 t103) :: (V.kill n0 t104) :: (V.kill n0 t105) :: (V.kill n0 t106) :: (V.kill n0 t107) :: (V.kill n0 t108) :: (V.kill n0 t109) :: (V.kill n0 t110) :: (V.kill n0 t111) :: (V.kill n0 t112) :: (V.kill n0 t113) :: []), cutH n0 h48⟩) :=
  itX_step (go_seq (go_seq (go_reg0
  (go_op0 rfl rfl (st_id (v := t10) (H := h) (by kernel_rfl)
  (go_op0 rfl rfl (st_id (v := t0) (H := h) (by kernel_rfl)
  (go_op0 rfl rfl (st_id (v := t2) (H := h) (by kernel_rfl)
  (go_op0 rfl rfl (st_bm (by kernel_rfl) fun v41 h42 =>
  (go_op0 rfl rfl (st_bm (by kernel_rfl) fun v43 h44 =>
  (go_op0 rfl rfl (st_bm (by kernel_rfl) fun v45 h46 =>
  (go_op0 rfl rfl (st_bm (by kernel_rfl) fun v47 h48 =>
  (go_end0 (by kernel_rfl)
  (go_cond (by kernel_rfl)
  (go_skip (go_seq (go_block (go_seq (go_seq (go_reg0
  (go_op0 rfl rfl (st_id (v := t0) (H := h48) (by kernel_rfl)
  (go_op0 rfl rfl (st_id (v := t9) (H := h48) (by kernel_rfl)
  (go_op0 rfl rfl (st_bp (by kernel_rfl) fun v49 h50 =>
  (go_op0 rfl rfl (st_id (v := t2) (H := h50) (by kernel_rfl)
  (go_op0 rfl rfl (st_bm (by kernel_rfl) fun v51 h52 =>
  (go_op0 rfl rfl (st_bm (by kernel_rfl) fun v53 h54 =>
  (go_end0 (by kernel_rfl)
  (go_cond (by kernel_rfl)
  (go_seq (go_reg0
  (go_op0 rfl rfl (st_id (v := (V.lit (Value.bool false))) (H := h54) (by kernel_rfl)
  (go_end0 (by kernel_rfl)
  (go_ret (rt_seq_ret (rt_block_ret (rt_seq_ret (by kernel_rfl))))))))))
  (go_skip (go_reg0
  (go_op0 rfl rfl (st_id (v := t0) (H := h54) (by kernel_rfl)
  (go_op0 rfl rfl (st_id (v := t9) (H := h54) (by kernel_rfl)
  (go_op0 rfl rfl (st_bp (by kernel_rfl) fun v55 h56 =>
  (go_op0 rfl rfl (st_id (v := v55) (H := h56) (by kernel_rfl)
  (go_end0 (by kernel_rfl)
  (rt_block_norm (go_reg0
  (go_op0 rfl rfl (st_id (v := t10) (H := h56) (by kernel_rfl)
  (go_op0 rfl rfl (st_bm (by kernel_rfl) fun v57 h58 =>
  (go_op0 rfl rfl (st_id (v := v57) (H := h58) (by kernel_rfl)
  (go_end0 (by kernel_rfl)
  (by kernel_rfl)))))))))))))))))))))))))))))))))))))))))
  (go_exit (rt_seq_exit (by kernel_rfl))))))))))))))))))))))
theorem xj12_6 (s : Sys) (k wl : Nat) (t0 t1 t2 t3 t4 t5 t6 t7 t8 t9 t10 t11 t12 t13 t14 t15 t16 t17 t18 t19 t20 t21 t22 t23 t24 t25 t26 t27 t28 t29 t30 t31 t32 t33 t34 t35 t36 t37 t38 t39 t40 t41 t42 t43 t44 t45 t46 t47 t48 t49 t50 t51 t52 t53 t54 t55 t56 t57 t58 t59 t60 t61 t62 t63 t64 t65 t66 t67 t68 t69 t70 t71 t72 t73 t74 t75 t76 t77 t78 t79 t80 t81 t82 t83 t84 t85 t86 t87 t88 t89 t90 t91 t92 t93 t94 t95 t96 t97 t98 t99 t100 t101 t102 t103 t104 t105 t106 t107 t108 t109 t110 t111 t112 t113 : V) (h : Hp) : runK (xX s 12 wl k false) (bodyK s.P Try.f12) xk12_1 (.exit 0) ⟨(t0 :: t1 :: t2 :: t3 :: t4 :: t5 :: t6 :: t7 :: t8 :: t9 :: t10 :: t11 :: t12 :: t13 :: t14 :: t15 :: t16 :: t17 :: t18 :: t19 :: t20 :: t21 :: t22 :: t23 :: t24 :: t25 :: t26 :: t27 :: t28 :: t29 :: t30 :: t31 :: t32 :: t33 :: t34 :: t35 :: t36 :: t37 :: t38 :: t39 :: t40 :: t41 :: t42 :: t43 :: t44 :: t45 :: t46 :: t47 :: t48 :: t49 :: t50 :: t51 :: t52 :: t53 :: t54 :: t55 :: t56 :: t57 :: t58 :: t59 :: t60 :: t61 :: t62 :: t63 :: t64 :: t65 :: t66 :: t67 :: t68 :: t69 :: t70 :: t71 :: t72 :: t73 :: t74 :: t75 :: t76 :: t77 :: t78 :: t79 :: t80 :: t81 :: t82 :: t83 :: t84 :: t85 :: t86 :: t87 :: t88 :: t89 :: t90 :: t91 :: t92 :: t93 :: t94 :: t95 :: t96 :: t97 :: t98 :: t99 :: t100 :: t101 :: t102 :: t103 :: t104 :: t105 :: t106 :: t107 :: t108 :: t109 :: t110 :: t111 :: t112 :: t113 :: []), h⟩ =
  itX (xX s 12 wl k false) xl12_1 h.length (runK (xX s 12 wl k false) (bodyK s.P Try.f12) xk12_2) k ⟨((V.kill h.length t0) :: (V.kill h.length t1) :: (V.kill h.length t2) :: (V.kill h.length t3) :: (V.kill h.length t4) :: (V.kill h.length t5) :: (V.kill h.length t6) :: (V.kill h.length t7) :: (V.kill h.length t8) :: (V.kill h.length t9) :: (V.kill h.length t10) :: (V.lit (Value.int .i64 0)) :: (V.kill h.length t12) :: (V.kill h.length t13) :: (V.kill h.length t14) :: (V.kill h.length t15) :: (V.kill h.length t16) :: (V.kill h.length t17) :: (V.kill h.length t18) :: (V.kill h.length t19) :: (V.kill h.length t20) :: (V.kill h.length t21) :: (V.kill h.length t22) :: (V.kill h.length t23) :: (V.kill h.length t24) :: (V.kill h.length t25) :: (V.kill h.length t26) :: (V.kill h.length t27) :: (V.kill h.length t28) :: (V.kill h.length t29) :: (V.kill h.length t30) :: (V.kill h.length t31) :: (V.kill h.length t32) :: (V.kill h.length t33) :: (V.kill h.length t34) :: (V.kill h.length t35) :: (V.kill h.length t36) :: (V.kill h.length t37) :: (V.kill h.length t38) :: (V.kill h.length t39) :: (V.kill h.length t40) :: (V.kill h.length t41) :: (V.kill h.length t42) :: (V.kill h.length t43) :: (V.kill h.length t44) :: (V.kill h.length t45) :: (V.kill h.length t46) :: (V.kill h.length t47) :: (V.kill h.length t48) :: (V.kill h.length t49) :: (V.kill h.length t50) :: (V.kill h.length t51) :: (V.kill h.length t52) :: (V.kill h.length t53) :: (V.kill h.length t54) :: (V.kill h.length t55) :: (V.kill h.length t56) :: (V.kill h.length t57) :: (V.kill h.length t58) :: (V.kill h.length t59) :: (V.kill h.length t60) :: (V.kill h.length t61) :: (V.kill h.length t62) :: (V.kill h.length t63) :: (V.kill h.length t64) :: (V.kill h.length t65) :: (V.kill h.length t66) :: (V.kill h.length t67) :: (V.kill h.length t68) :: (V.kill h.length t69) :: (V.kill h.length t70) :: (V.kill h.length t71) :: .junk :: .junk :: .junk :: .junk :: .junk :: .junk :: .junk :: .junk :: .junk :: .junk :: .junk :: .junk :: .junk :: .junk :: .junk :: .junk :: .junk :: .junk :: .junk :: .junk :: .junk :: .junk :: .junk :: .junk :: .junk :: .junk :: (V.kill h.length t98) :: (V.kill h.length t99) :: (V.kill h.length t100) :: (V.kill h.length t101) :: (V.kill h.length t102) :: (V.kill h.length t103) :: (V.kill h.length t104) :: (V.kill h.length t105) :: (V.kill h.length t106) :: (V.kill h.length t107) :: (V.kill h.length t108) :: (V.kill h.length t109) :: (V.kill h.length t110) :: (V.kill h.length t111) :: (V.kill h.length t112) :: (V.kill h.length t113) :: []), cutH h.length h⟩ :=
  (rt_block_eq (go_seq (go_seq (go_reg0
  (go_op0 rfl rfl (st_id (v := (V.lit (Value.int .i64 0))) (H := h) (by kernel_rfl)
  (go_end0 (by kernel_rfl)
  (go_block (by kernel_rfl)))))))))
theorem xr12_1 (s : Sys) (K : Out → St → Option (V × Hp)) (k wl : Nat) (rd : Bool) (n n0 : Nat) (t0 t1 t2 t3 t4 t5 t6 t7 t8 t9 t10 t11 t12 t13 t14 t15 t16 t17 t18 t19 t20 t21 t22 t23 t24 t25 t26 t27 t28 t29 t30 t31 t32 t33 t34 t35 t36 t37 t38 t39 t40 t41 t42 t43 t44 t45 t46 t47 t48 t49 t50 t51 t52 t53 t54 t55 t56 t57 t58 t59 t60 t61 t62 t63 t64 t65 t66 t67 t68 t69 t70 t71 t72 t73 t74 t75 t76 t77 t78 t79 t80 t81 t82 t83 t84 t85 t86 t87 t88 t89 t90 t91 t92 t93 t94 t95 t96 t97 t98 t99 t100 t101 t102 t103 t104 t105 t106 t107 t108 t109 t110 t111 t112 t113 : V) (h : Hp) : itX (xX s 12 wl k rd) xl12_1 n0 K (n + 1) ⟨(t0 :: t1 :: t2 :: t3 :: t4 :: t5 :: t6 :: t7 :: t8 :: t9 :: t10 :: t11 :: t12 :: t13 :: t14 :: t15 :: t16 :: t17 :: t18 :: t19 :: t20 :: t21 :: t22 :: t23 :: t24 :: t25 :: t26 :: t27 :: t28 :: t29 :: t30 :: t31 :: t32 :: t33 :: t34 :: t35 :: t36 :: t37 :: t38 :: t39 :: t40 :: t41 :: t42 :: t43 :: t44 :: t45 :: t46 :: t47 :: t48 :: t49 :: t50 :: t51 :: t52 :: t53 :: t54 :: t55 :: t56 :: t57 :: t58 :: t59 :: t60 :: t61 :: t62 :: t63 :: t64 :: t65 :: t66 :: t67 :: t68 :: t69 :: t70 :: t71 :: t72 :: t73 :: t74 :: t75 :: t76 :: t77 :: t78 :: t79 :: t80 :: t81 :: t82 :: t83 :: t84 :: t85 :: t86 :: t87 :: t88 :: t89 :: t90 :: t91 :: t92 :: t93 :: t94 :: t95 :: t96 :: t97 :: t98 :: t99 :: t100 :: t101 :: t102 :: t103 :: t104 :: t105 :: t106 :: t107 :: t108 :: t109 :: t110 :: t111 :: t112 :: t113 :: []), h⟩ =
  bm (vIndexAddr s.P 22 t0 t2 h) h fun v59 h60 =>
  bm (vFieldAddr s.P 40 v59 1) h60 fun v61 h62 =>
  bm (vLoad s.P 23 v61 h62) h62 fun v63 h64 =>
  bp (opLen s.P 23 v63 h64) fun v65 h66 =>
  bm (vBin s.P .lss 3 t11 v65) h66 fun v67 h68 =>
  cnd v67 (
  bp (callV (xX s 12 wl k rd) true true (.fn (.func 44) [] []) [t0, t9] h68) fun v69 h70 =>
  stO h68.length t0 (
  bm (vIndexAddr s.P 22 t0 t2 h70) h70 fun v71 h72 =>
  bm (vFieldAddr s.P 40 v71 1) h72 fun v73 h74 =>
  stO h68.length v73 (
  bm (vLoad s.P 23 v73 h74) h74 fun v75 h76 =>
  stO h68.length v75 (
  bm (vIndexAddr s.P 23 v75 t11 h76) h76 fun v77 h78 =>
  stO h68.length v77 (
  bm (vLoad s.P 3 v77 h78) h78 fun v79 h80 =>
  bm (vBuild s.P 49 [(0, (V.lit (Value.int .i64 2))), (1, v79)]) h80 fun v81 h82 =>
  bm (vBin s.P .neq 49 v69 v81) h82 fun v83 h84 =>
  cnd v83 (
  K .ret ⟨(t0 :: t1 :: t2 :: t3 :: t4 :: t5 :: (V.lit (Value.bool false)) :: t7 :: t8 :: t9 :: t10 :: t11 :: t12 :: t13 :: t14 :: t15 :: t16 :: t17 :: t18 :: t19 :: t20 :: t21 :: t22 :: t23 :: t24 :: t25 :: t26 :: t27 :: t28 :: t29 :: t30 :: t31 :: t32 :: t33 :: t34 :: t35 :: t36 :: t37 :: t38 :: t39 :: t40 :: t41 :: t42 :: t43 :: t44 :: t45 :: t46 :: t47 :: t48 :: t49 :: t50 :: t51 :: t52 :: t53 :: t54 :: t55 :: t56 :: t57 :: t58 :: t59 :: t60 :: t61 :: t62 :: t63 :: t64 :: t65 :: t66 :: t67 :: t68 :: t69 :: t70 :: t71 :: t11 :: t0 :: t2 :: v59 :: v61 :: v63 :: v65 :: v67 :: t80 :: t81 :: t0 :: t9 :: v69 :: t0 :: t2 :: v71 :: v73 :: v75 :: t11 :: v77 :: v79 :: v81 :: v83 :: t95 :: t96 :: t97 :: t98 :: t99 :: t100 :: t101 :: t102 :: t103 :: t104 :: t105 :: t106 :: t107 :: t108 :: t109 :: t110 :: t111 :: t112 :: t113 :: []), h84⟩) (
  bp (callV (xX s 12 wl k rd) false true (.fn (.func 39) [] []) [t0, t9] h84) fun v85 h86 =>
  bm (vBin s.P .add 3 t11 (V.lit (Value.int .i64 1))) h86 fun v87 h88 =>
  itX (xX s 12 wl k rd) xl12_1 n0 K n ⟨((V.kill n0 t0) :: (V.kill n0 t1) :: (V.kill n0 t2) :: (V.kill n0 t3) :: (V.kill n0 t4) :: (V.kill n0 t5) :: (V.kill n0 t6) :: (V.kill n0 t7) :: (V.kill n0 t8) :: (V.kill n0 v85) :: (V.kill n0 t10) :: (V.kill n0 v87) :: (V.kill n0 t12) :: (V.kill n0 t13) :: (V.kill n0 t14) :: (V.kill n0 t15) :: (V.kill n0 t16) :: (V.kill n0 t17) :: (V.kill n0 t18) :: (V.kill n0 t19) :: (V.kill n0 t20) :: (V.kill n0 t21) :: (V.kill n0 t22) :: (V.kill n0 t23) :: (V.kill n0 t24) :: (V.kill n0 t25) :: (V.kill n0 t26) :: (V.kill n0 t27) :: (V.kill n0 t28) :: (V.kill n0 t29) :: (V.kill n0 t30) :: (V.kill n0 t31) :: (V.kill n0 t32) :: (V.kill n0 t33) :: (V.kill n0 t34) :: (V.kill n0 t35) :: (V.kill n0 t36) :: (V.kill n0 t37) :: (V.kill n0 t38) :: (V.kill n0 t39) :: (V.kill n0 t40) :: (V.kill n0 t41) :: (V.kill n0 t42) :: (V.kill n0 t43) :: (V.kill n0 t44) :: (V.kill n0 t45) :: (V.kill n0 t46) :: (V.kill n0 t47) :: (V.kill n0 t48) :: (V.kill n0 t49) :: (V.kill n0 t50) :: (V.kill n0 t51) :: (V.kill n0 t52) :: (V.kill n0 t53) :: (V.kill n0 t54) :: (V.kill n0 t55) :: (V.kill n0 t56) :: (V.kill n0 t57) :: (V.kill n0 t58) :: (V.kill n0 t59) :: (V.kill n0 t60) :: (V.kill n0 t61) :: (V.kill n0 t62) :: (V.kill n0 t63) :: (V.kill n0 t64) :: (V.kill n0 t65) :: (V.kill n0 t66) :: (V.kill n0 t67) :: (V.kill n0 t68) :: (V.kill n0 t69) :: (V.kill n0 t70) :: (V.kill n0 t71) :: .junk :: .junk :: .junk :: .junk :: .junk :: .junk :: .junk :: .junk :: .junk :: .junk :: .junk :: .junk :: .junk :: .junk :: .junk :: .junk :: .junk :: .junk :: .junk :: .junk :: .junk :: .junk :: .junk :: .junk :: .junk :: .junk :: (V.kill n0 t98) :: (V.kill n0 t99) :: (V.kill n0 t100) :: (V.kill n0 t101) :: (V.kill n0 t102) :: (V.kill n0 t103) :: (V.kill n0 t104) :: (V.kill n0 t105) :: (V.kill n0 t106) :: (V.kill n0 t107) :: (V.kill n0 t108) :: (V.kill n0 t109) :: (V.kill n0 t110) :: (V.kill n0 t111) :: (V.kill n0 t112) :: (V.kill n0 t113) :: []), cutH n0 h88⟩)))))) (
  K (.exit 2) ⟨((V.kill n0 t0) :: (V.kill n0 t1) :: (V.kill n0 t2) :: (V.kill n0 t3) :: (V.kill n0 t4) :: (V.kill n0 t5) :: (V.kill n0 t6) :: (V.kill n0 t7) :: (V.kill n0 t8) :: (V.kill n0 t9) :: (V.kill n0 t10) :: (V.kill n0 t11) :: (V.kill n0 t12) :: (V.kill n0 t13) :: (V.kill n0 t14) :: (V.kill n0 t15) :: (V.kill n0 t16) :: (V.kill n0 t17) :: (V.kill n0 t18) :: (V.kill n0 t19) :: (V.kill n0 t20) :: (V.kill n0 t21) :: (V.kill n0 t22) :: (V.kill n0 t23) :: (V.kill n0 t24) :: (V.kill n0 t25) :: (V.kill n0 t26) :: (V.kill n0 t27) :: (V.kill n0 t28) :: (V.kill n0 t29) :: (V.kill n0 t30) :: (V.kill n0 t31) :: (V.kill n0 t32) :: (V.kill n0 t33) :: (V.kill n0 t34) :: (V.kill n0 t35) :: (V.kill n0 t36) :: (V.kill n0 t37) :: (V.kill n0 t38) :: (V.kill n0 t39) :: (V.kill n0 t40) :: (V.kill n0 t41) :: (V.kill n0 t42) :: (V.kill n0 t43) :: (V.kill n0 t44) :: (V.kill n0 t45) :: (V.kill n0 t46) :: (V.kill n0 t47) :: (V.kill n0 t48) :: (V.kill n0 t49) :: (V.kill n0 t50) :: (V.kill n0 t51) :: (V.kill n0 t52) :: (V.kill n0 t53) :: (V.kill n0 t54) :: (V.kill n0 t55) :: (V.kill n0 t56) :: (V.kill n0 t57) :: (V.kill n0 t58) :: (V.kill n0 t59) :: (V.kill n0 t60) :: (V.kill n0 t61) :: (V.kill n0 t62) :: (V.kill n0 t63) :: (V.kill n0 t64) :: (V.kill n0 t65) :: (V.kill n0 t66) :: (V.kill n0 t67) :: (V.kill n0 t68) :: (V.kill n0 t69) :: (V.kill n0 t70) :: (V.kill n0 t71) :: .junk :: .junk :: .junk :: .junk :: .junk :: .junk :: .junk :: .junk :: .junk :: .junk :: .junk :: .junk :: .junk :: .junk :: .junk :: .junk :: .junk :: .junk :: .junk :: .junk :: .junk :: .junk :: .junk :: .junk :: .junk :: .junk :: (V.kill n0 t98) :: (V.kill n0 t99) :: (V.kill n0 t100) :: (V.kill n0 t101) :: (V.kill n0 t102) :: (V.kill n0 t103) :: (V.kill n0 t104) :: (V.kill n0 t105) :: (V.kill n0 t106) :: (V.kill n0 t107) :: (V.kill n0 t108) :: (V.kill n0 t109) :: (V.kill n0 t110) :: (V.kill n0 t111) :: (V.kill n0 t112) :: (V.kill n0 t113) :: []), cutH n0 h68⟩) :=
  itX_step (go_seq (go_seq (go_reg0
  (go_op0 rfl rfl (st_id (v := t11) (H := h) (by kernel_rfl)
  (go_op0 rfl rfl (st_id (v := t0) (H := h) (by kernel_rfl)
  (go_op0 rfl rfl (st_id (v := t2) (H := h) (by kernel_rfl)
  (go_op0 rfl rfl (st_bm (by kernel_rfl) fun v59 h60 =>
  (go_op0 rfl rfl (st_bm (by kernel_rfl) fun v61 h62 =>
  (go_op0 rfl rfl (st_bm (by kernel_rfl) fun v63 h64 =>
  (go_op0 rfl rfl (st_bp (by kernel_rfl) fun v65 h66 =>
  (go_op0 rfl rfl (st_bm (by kernel_rfl) fun v67 h68 =>
  (go_end0 (by kernel_rfl)
  (go_cond (by kernel_rfl)
  (go_skip (go_seq (go_block (go_seq (go_seq (go_reg1 xo12_15r
  (go_op1 xo12_15 xo12_15a rfl rfl rfl (st_no (by kernel_rfl) (st_id (v := t0) (H := h68) (by kernel_rfl)
  (go_op1 xo12_15 xo12_15a rfl rfl rfl (st_no (by kernel_rfl) (st_id (v := t9) (H := h68) (by kernel_rfl)
  (go_op1 xo12_15 xo12_15a rfl rfl rfl (st_no (by kernel_rfl) (st_bp (by kernel_rfl) fun v69 h70 =>
  (go_op1 xo12_15 xo12_15a rfl rfl rfl (st_no (by kernel_rfl) (st_id (v := t0) (H := h70) (by kernel_rfl)
  (go_op1 xo12_15 xo12_15a rfl rfl rfl (st_no (by kernel_rfl) (st_id (v := t2) (H := h70) (by kernel_rfl)
  (go_op1 xo12_15 xo12_15a rfl rfl rfl (st_yes (by kernel_rfl) (st_bm (by kernel_rfl) fun v71 h72 =>
  (go_op1 xo12_15 xo12_15a rfl rfl rfl (st_no (by kernel_rfl) (st_bm (by kernel_rfl) fun v73 h74 =>
  (go_op1 xo12_15 xo12_15a rfl rfl rfl (st_yes (by kernel_rfl) (st_bm (by kernel_rfl) fun v75 h76 =>
  (go_op1 xo12_15 xo12_15a rfl rfl rfl (st_no (by kernel_rfl) (st_id (v := t11) (H := h76) (by kernel_rfl)
  (go_op1 xo12_15 xo12_15a rfl rfl rfl (st_yes (by kernel_rfl) (st_bm (by kernel_rfl) fun v77 h78 =>
  (go_op1 xo12_15 xo12_15a rfl rfl rfl (st_yes (by kernel_rfl) (st_bm (by kernel_rfl) fun v79 h80 =>
  (go_op1 xo12_15 xo12_15a rfl rfl rfl (st_no (by kernel_rfl) (st_bm (by kernel_rfl) fun v81 h82 =>
  (go_op1 xo12_15 xo12_15a rfl rfl rfl (st_no (by kernel_rfl) (st_bm (by kernel_rfl) fun v83 h84 =>
  (go_end1 xo12_15 (by kernel_rfl) xo12_15a
  (go_cond (by kernel_rfl)
  (go_seq (go_reg0
  (go_op0 rfl rfl (st_id (v := (V.lit (Value.bool false))) (H := h84) (by kernel_rfl)
  (go_end0 (by kernel_rfl)
  (go_ret (rt_seq_ret (rt_block_ret (rt_seq_ret (by kernel_rfl))))))))))
  (go_skip (go_reg0
  (go_op0 rfl rfl (st_id (v := t0) (H := h84) (by kernel_rfl)
  (go_op0 rfl rfl (st_id (v := t9) (H := h84) (by kernel_rfl)
  (go_op0 rfl rfl (st_bp (by kernel_rfl) fun v85 h86 =>
  (go_op0 rfl rfl (st_id (v := v85) (H := h86) (by kernel_rfl)
  (go_end0 (by kernel_rfl)
  (rt_block_norm (go_reg0
  (go_op0 rfl rfl (st_id (v := t11) (H := h86) (by kernel_rfl)
  (go_op0 rfl rfl (st_bm (by kernel_rfl) fun v87 h88 =>
  (go_op0 rfl rfl (st_id (v := v87) (H := h88) (by kernel_rfl)
  (go_end0 (by kernel_rfl)
  (by kernel_rfl))))))))))))))))))))))))))))))))))))))))))))))))))))))))))))))))))))
  (go_exit (rt_seq_exit (by kernel_rfl))))))))))))))))))))))))
theorem xj12_7 (s : Sys) (k wl : Nat) (t0 t1 t2 t3 t4 t5 t6 t7 t8 t9 t10 t11 t12 t13 t14 t15 t16 t17 t18 t19 t20 t21 t22 t23 t24 t25 t26 t27 t28 t29 t30 t31 t32 t33 t34 t35 t36 t37 t38 t39 t40 t41 t42 t43 t44 t45 t46 t47 t48 t49 t50 t51 t52 t53 t54 t55 t56 t57 t58 t59 t60 t61 t62 t63 t64 t65 t66 t67 t68 t69 t70 t71 t72 t73 t74 t75 t76 t77 t78 t79 t80 t81 t82 t83 t84 t85 t86 t87 t88 t89 t90 t91 t92 t93 t94 t95 t96 t97 t98 t99 t100 t101 t102 t103 t104 t105 t106 t107 t108 t109 t110 t111 t112 t113 : V) (h : Hp) : runK (xX s 12 wl k false) (bodyK s.P Try.f12) xk12_2 (.exit 2) ⟨(t0 :: t1 :: t2 :: t3 :: t4 :: t5 :: t6 :: t7 :: t8 :: t9 :: t10 :: t11 :: t12 :: t13 :: t14 :: t15 :: t16 :: t17 :: t18 :: t19 :: t20 :: t21 :: t22 :: t23 :: t24 :: t25 :: t26 :: t27 :: t28 :: t29 :: t30 :: t31 :: t32 :: t33 :: t34 :: t35 :: t36 :: t37 :: t38 :: t39 :: t40 :: t41 :: t42 :: t43 :: t44 :: t45 :: t46 :: t47 :: t48 :: t49 :: t50 :: t51 :: t52 :: t53 :: t54 :: t55 :: t56 :: t57 :: t58 :: t59 :: t60 :: t61 :: t62 :: t63 :: t64 :: t65 :: t66 :: t67 :: t68 :: t69 :: t70 :: t71 :: t72 :: t73 :: t74 :: t75 :: t76 :: t77 :: t78 :: t79 :: t80 :: t81 :: t82 :: t83 :: t84 :: t85 :: t86 :: t87 :: t88 :: t89 :: t90 :: t91 :: t92 :: t93 :: t94 :: t95 :: t96 :: t97 :: t98 :: t99 :: t100 :: t101 :: t102 :: t103 :: t104 :: t105 :: t106 :: t107 :: t108 :: t109 :: t110 :: t111 :: t112 :: t113 :: []), h⟩ =
  bp (callV (xX s 12 wl k false) false true (.fn (.func 44) [] []) [t0, t9] h) fun v89 h90 =>
  bp (opAlloc s.P 49 h90) fun v91 h92 =>
  bs (vStore s.P wl 49 v91 v89 h92) fun h93 =>
  bp (callV (xX s 12 wl k false) false true (.fn (.func 39) [] []) [t0, t9] h93) fun v94 h95 =>
  bp (callV (xX s 12 wl k false) false true (.fn (.func 38) [] []) [v94, t1] h95) fun v96 h97 =>
  bm (vLoad s.P 49 v91 h97) h97 fun v98 h99 =>
  bm (vBuild s.P 49 [(0, (V.lit (Value.int .i64 3))), (1, t2)]) h99 fun v100 h101 =>
  bm (vBin s.P .eql 49 v98 v100) h101 fun v102 h103 =>
  gd v102 (
  opsP (xX s 12 wl k false) xg12_2 6 h97.length ([], []) (runK (xX s 12 wl k false) (bodyK s.P Try.f12) xk12_3) ⟨(t0 :: t1 :: t2 :: t3 :: t4 :: t5 :: t6 :: t7 :: t8 :: v94 :: t10 :: t11 :: v91 :: v96 :: t14 :: t15 :: t16 :: t17 :: t18 :: t19 :: t20 :: t21 :: t22 :: t23 :: t24 :: t25 :: t26 :: t27 :: t28 :: t29 :: t30 :: t31 :: t32 :: t33 :: t34 :: t35 :: t36 :: t37 :: t38 :: t39 :: t40 :: t41 :: t42 :: t43 :: t44 :: t45 :: t46 :: t47 :: t48 :: t49 :: t50 :: t51 :: t52 :: t53 :: t54 :: t55 :: t56 :: t57 :: t58 :: t59 :: t60 :: t61 :: t62 :: t63 :: t64 :: t65 :: t66 :: t67 :: t68 :: t69 :: t70 :: t71 :: t72 :: t73 :: t74 :: t75 :: t76 :: t77 :: t78 :: t79 :: t80 :: t81 :: t82 :: t83 :: t84 :: t85 :: t86 :: t87 :: t88 :: t89 :: t90 :: t91 :: t92 :: t93 :: t94 :: t95 :: t96 :: t97 :: t0 :: t9 :: v89 :: t0 :: t9 :: v94 :: v94 :: t1 :: v96 :: v98 :: t2 :: v100 :: v102 :: (V.lit (Value.bool true)) :: v96 :: t113 :: []), h103⟩) (
  opsP (xX s 12 wl k false) xg12_2 6 h97.length ([], []) (runK (xX s 12 wl k false) (bodyK s.P Try.f12) xk12_3) ⟨(t0 :: t1 :: t2 :: t3 :: t4 :: t5 :: t6 :: t7 :: t8 :: v94 :: t10 :: t11 :: v91 :: v96 :: t14 :: t15 :: t16 :: t17 :: t18 :: t19 :: t20 :: t21 :: t22 :: t23 :: t24 :: t25 :: t26 :: t27 :: t28 :: t29 :: t30 :: t31 :: t32 :: t33 :: t34 :: t35 :: t36 :: t37 :: t38 :: t39 :: t40 :: t41 :: t42 :: t43 :: t44 :: t45 :: t46 :: t47 :: t48 :: t49 :: t50 :: t51 :: t52 :: t53 :: t54 :: t55 :: t56 :: t57 :: t58 :: t59 :: t60 :: t61 :: t62 :: t63 :: t64 :: t65 :: t66 :: t67 :: t68 :: t69 :: t70 :: t71 :: t72 :: t73 :: t74 :: t75 :: t76 :: t77 :: t78 :: t79 :: t80 :: t81 :: t82 :: t83 :: t84 :: t85 :: t86 :: t87 :: t88 :: t89 :: t90 :: t91 :: t92 :: t93 :: t94 :: t95 :: t96 :: t97 :: t0 :: t9 :: v89 :: t0 :: t9 :: v94 :: v94 :: t1 :: v96 :: v98 :: t2 :: v100 :: v102 :: (V.lit (Value.bool false)) :: uu :: t113 :: []), h103⟩) (
  opsP (xX s 12 wl k false) xg12_2 6 h97.length ([], []) (runK (xX s 12 wl k false) (bodyK s.P Try.f12) xk12_3) ⟨(t0 :: t1 :: t2 :: t3 :: t4 :: t5 :: t6 :: t7 :: t8 :: v94 :: t10 :: t11 :: v91 :: v96 :: t14 :: t15 :: t16 :: t17 :: t18 :: t19 :: t20 :: t21 :: t22 :: t23 :: t24 :: t25 :: t26 :: t27 :: t28 :: t29 :: t30 :: t31 :: t32 :: t33 :: t34 :: t35 :: t36 :: t37 :: t38 :: t39 :: t40 :: t41 :: t42 :: t43 :: t44 :: t45 :: t46 :: t47 :: t48 :: t49 :: t50 :: t51 :: t52 :: t53 :: t54 :: t55 :: t56 :: t57 :: t58 :: t59 :: t60 :: t61 :: t62 :: t63 :: t64 :: t65 :: t66 :: t67 :: t68 :: t69 :: t70 :: t71 :: t72 :: t73 :: t74 :: t75 :: t76 :: t77 :: t78 :: t79 :: t80 :: t81 :: t82 :: t83 :: t84 :: t85 :: t86 :: t87 :: t88 :: t89 :: t90 :: t91 :: t92 :: t93 :: t94 :: t95 :: t96 :: t97 :: t0 :: t9 :: v89 :: t0 :: t9 :: v94 :: v94 :: t1 :: v96 :: v98 :: t2 :: v100 :: v102 :: v102 :: uu :: t113 :: []), h103⟩) :=
  (rt_block_eq (go_seq (go_reg0
  (go_op0 rfl rfl (st_id (v := t0) (H := h) (by kernel_rfl)
  (go_op0 rfl rfl (st_id (v := t9) (H := h) (by kernel_rfl)
  (go_op0 rfl rfl (st_bp (by kernel_rfl) fun v89 h90 =>
  (go_op0 rfl rfl (st_bp (by kernel_rfl) fun v91 h92 =>
  (go_op0 rfl rfl (st_bs (by kernel_rfl) fun h93 =>
  (go_end0 (by kernel_rfl)
  (go_seq (go_reg0
  (go_op0 rfl rfl (st_id (v := t0) (H := h93) (by kernel_rfl)
  (go_op0 rfl rfl (st_id (v := t9) (H := h93) (by kernel_rfl)
  (go_op0 rfl rfl (st_bp (by kernel_rfl) fun v94 h95 =>
  (go_op0 rfl rfl (st_id (v := v94) (H := h95) (by kernel_rfl)
  (go_end0 (by kernel_rfl)
  (go_seq (go_reg0
  (go_op0 rfl rfl (st_id (v := v94) (H := h95) (by kernel_rfl)
  (go_op0 rfl rfl (st_id (v := t1) (H := h95) (by kernel_rfl)
  (go_op0 rfl rfl (st_bp (by kernel_rfl) fun v96 h97 =>
  (go_op0 rfl rfl (st_id (v := v96) (H := h97) (by kernel_rfl)
  (go_end0 (by kernel_rfl)
  (go_seq (go_reg0
  (go_op0 rfl rfl (st_bm (by kernel_rfl) fun v98 h99 =>
  (go_op0 rfl rfl (st_id (v := t2) (H := h99) (by kernel_rfl)
  (go_op0 rfl rfl (st_bm (by kernel_rfl) fun v100 h101 =>
  (go_op0 rfl rfl (st_bm (by kernel_rfl) fun v102 h103 =>
  (go_op0 rfl rfl (st_id (v := v102) (H := h103) (by kernel_rfl)
  (go_gdT0 rfl rfl rfl (by kernel_rfl)
  (st_id (v := v96) (H := h103) (by kernel_rfl)
  (by kernel_rfl))
  (by kernel_rfl)
  (by kernel_rfl))))))))))))))))))))))))))))))))))))))))))))))))))
theorem xm12_8 (s : Sys) (k wl : Nat) (m0 : Nat) (ac : List Nat × List Nat) (t0 t1 t2 t3 t4 t5 t6 t7 t8 t9 t10 t11 t12 t13 t14 t15 t16 t17 t18 t19 t20 t21 t22 t23 t24 t25 t26 t27 t28 t29 t30 t31 t32 t33 t34 t35 t36 t37 t38 t39 t40 t41 t42 t43 t44 t45 t46 t47 t48 t49 t50 t51 t52 t53 t54 t55 t56 t57 t58 t59 t60 t61 t62 t63 t64 t65 t66 t67 t68 t69 t70 t71 t72 t73 t74 t75 t76 t77 t78 t79 t80 t81 t82 t83 t84 t85 t86 t87 t88 t89 t90 t91 t92 t93 t94 t95 t96 t97 t98 t99 t100 t101 t102 t103 t104 t105 t106 t107 t108 t109 t110 t111 t112 t113 : V) (h : Hp) : opsP (xX s 12 wl k false) xg12_2 6 m0 ac (runK (xX s 12 wl k false) (bodyK s.P Try.f12) xk12_3) ⟨(t0 :: t1 :: t2 :: t3 :: t4 :: t5 :: t6 :: t7 :: t8 :: t9 :: t10 :: t11 :: t12 :: t13 :: t14 :: t15 :: t16 :: t17 :: t18 :: t19 :: t20 :: t21 :: t22 :: t23 :: t24 :: t25 :: t26 :: t27 :: t28 :: t29 :: t30 :: t31 :: t32 :: t33 :: t34 :: t35 :: t36 :: t37 :: t38 :: t39 :: t40 :: t41 :: t42 :: t43 :: t44 :: t45 :: t46 :: t47 :: t48 :: t49 :: t50 :: t51 :: t52 :: t53 :: t54 :: t55 :: t56 :: t57 :: t58 :: t59 :: t60 :: t61 :: t62 :: t63 :: t64 :: t65 :: t66 :: t67 :: t68 :: t69 :: t70 :: t71 :: t72 :: t73 :: t74 :: t75 :: t76 :: t77 :: t78 :: t79 :: t80 :: t81 :: t82 :: t83 :: t84 :: t85 :: t86 :: t87 :: t88 :: t89 :: t90 :: t91 :: t92 :: t93 :: t94 :: t95 :: t96 :: t97 :: t98 :: t99 :: t100 :: t101 :: t102 :: t103 :: t104 :: t105 :: t106 :: t107 :: t108 :: t109 :: t110 :: t111 :: t112 :: t113 :: []), h⟩ =
  bm (vPick t111 t112 (V.lit (Value.bool false))) h fun v104 h105 =>
  some (v104, h105) :=
  (go_op0 rfl rfl (st_bm (by kernel_rfl) fun v104 h105 =>
  (go_op0 rfl rfl (st_id (v := v104) (H := h105) (by kernel_rfl)
  (go_end0 (by kernel_rfl)
  (go_ret (by kernel_rfl)))))))
theorem xk12_0_ret (cx : Cx) (K : Out → St → Option (V × Hp)) (s : St) : runK cx K xk12_0 .ret s = K .ret s := by kernel_rfl
theorem xk12_1_ret (cx : Cx) (K : Out → St → Option (V × Hp)) (s : St) : runK cx K xk12_1 .ret s = K .ret s := by kernel_rfl
theorem xk12_2_ret (cx : Cx) (K : Out → St → Option (V × Hp)) (s : St) : runK cx K xk12_2 .ret s = K .ret s := by kernel_rfl
theorem xk12_3_ret (cx : Cx) (K : Out → St → Option (V × Hp)) (s : St) : runK cx K xk12_3 .ret s = K .ret s := by kernel_rfl
-- names: xb12, xz12, xm12_0, xm12_1, xm12_2, xm12_3, xm12_4, xm12_5, xr12_0, xj12_6, xr12_1, xj12_7, xm12_8, xk12_0_ret, xk12_1_ret, xk12_2_ret, xk12_3_ret
end Go.Ab
