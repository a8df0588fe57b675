/- The program's code, point by point: printed by gen.py. -/
import Derived.Test.YtecgfaaaloameaaR1Seat
set_option maxRecDepth 100000
set_option linter.unusedVariables false
namespace Go.Ab
open Go.Proofs
/-! 19 poacher/poacherlaw04.ForestFewer: 0 t, 1 t, 3 up, 4 one, 5 less, 6 i, 7 x, 8 j, 9 n, 10 k, 11 m, 12 j -/
noncomputable def xg19_0 : Code := codeAt (bodyOf Try.f19) [1, 1, 1, 0, 0]
noncomputable def xk19_0 : List Fr := [.seq (codeAt (bodyOf Try.f19) [1, 1, 1, 0, 1]), .seq (codeAt (bodyOf Try.f19) [1, 1, 1, 1])]
noncomputable def xl19_0 : Code := codeAt (bodyOf Try.f19) [1, 1, 1, 1, 1, 0, 1, 0, 0]
noncomputable def xk19_1 : List Fr := [.block 0, .seq (codeAt (bodyOf Try.f19) [1, 1, 1, 1, 1, 1])]
noncomputable def xl19_1 : Code := codeAt (bodyOf Try.f19) [1, 1, 1, 1, 1, 0, 1, 0, 0, 1, 0, 0, 1, 0, 1, 0, 0]
noncomputable def xk19_2 : List Fr := [.block 2, .seq (codeAt (bodyOf Try.f19) [1, 1, 1, 1, 1, 0, 1, 0, 0, 1, 0, 0, 1, 1]), .block 1, .seq (codeAt (bodyOf Try.f19) [1, 1, 1, 1, 1, 0, 1, 0, 0, 1, 1])]
noncomputable def xg19_1 : Code := codeAt (bodyOf Try.f19) [1, 1, 1, 1, 1, 1, 1, 1, 0]
noncomputable def xk19_3 : List Fr := [.seq (codeAt (bodyOf Try.f19) [1, 1, 1, 1, 1, 1, 1, 1, 1])]
noncomputable def xg19_2 : Code := codeAt (bodyOf Try.f19) [1, 1, 1, 1, 1, 0, 1, 0, 0, 1, 0, 0, 1, 0, 1, 0, 0, 1, 0, 0, 1, 0]
noncomputable def xk19_4 : List Fr := [.block 3, .seq (codeAt (bodyOf Try.f19) [1, 1, 1, 1, 1, 0, 1, 0, 0, 1, 0, 0, 1, 0, 1, 0, 0, 1, 1])]
theorem xo19_14 : orderIx (opsOf xg19_2) = [0, 1, 2, 3, 4, 5, 6, 7, 8, 9, 10, 11, 12, 13] := by kernel_rfl
theorem xo19_14a : (rgOf (opsOf xg19_2)).any = false := by kernel_rfl
theorem xo19_14r : regOk (opsOf xg19_2) = true := by kernel_rfl
theorem xb19 (s : Sys) (k wl : Nat) (t0 : V) (h : Hp) : bodyV (xX s 19 wl k false) Try.f19 [t0] h =
  bp (callV (xX s 19 wl k false) false true (.fn (.func 51) [] []) [] h) fun v1 h2 =>
  bp (callV (xX s 19 wl k false) false true (.fn (.func 24) [] []) [t0] h2) fun v3 h4 =>
  bm (vUn .not v1) h4 fun v5 h6 =>
  gd v5 (
  opsP (xX s 19 wl k false) xg19_0 5 h4.length ([], []) (runK (xX s 19 wl k false) (bodyK s.P Try.f19) xk19_0) ⟨(t0 :: uu :: (V.lit (Value.bool false)) :: v1 :: v3 :: uu :: uu :: uu :: uu :: uu :: uu :: uu :: uu :: v1 :: t0 :: v3 :: v1 :: v5 :: (V.lit (Value.bool true)) :: uu :: uu :: uu :: uu :: uu :: uu :: uu :: uu :: uu :: uu :: uu :: uu :: uu :: uu :: uu :: uu :: uu :: uu :: uu :: uu :: uu :: uu :: uu :: uu :: uu :: uu :: uu :: uu :: uu :: uu :: uu :: uu :: uu :: uu :: uu :: uu :: uu :: uu :: uu :: uu :: uu :: uu :: uu :: uu :: uu :: uu :: uu :: uu :: uu :: uu :: uu :: uu :: uu :: uu :: uu :: uu :: uu :: uu :: uu :: uu :: uu :: uu :: uu :: uu :: uu :: uu :: uu :: uu :: uu :: uu :: uu :: uu :: uu :: uu :: uu :: uu :: uu :: uu :: uu :: uu :: uu :: uu :: uu :: uu :: uu :: uu :: uu :: uu :: uu :: uu :: uu :: uu :: uu :: uu :: uu :: uu :: uu :: []), h6⟩) (
  bm (vUn .not v3) h6 fun v7 h8 =>
  opsP (xX s 19 wl k false) xg19_0 5 h4.length ([], []) (runK (xX s 19 wl k false) (bodyK s.P Try.f19) xk19_0) ⟨(t0 :: uu :: (V.lit (Value.bool false)) :: v1 :: v3 :: uu :: uu :: uu :: uu :: uu :: uu :: uu :: uu :: v1 :: t0 :: v3 :: v1 :: v5 :: (V.lit (Value.bool false)) :: v3 :: v7 :: uu :: uu :: uu :: uu :: uu :: uu :: uu :: uu :: uu :: uu :: uu :: uu :: uu :: uu :: uu :: uu :: uu :: uu :: uu :: uu :: uu :: uu :: uu :: uu :: uu :: uu :: uu :: uu :: uu :: uu :: uu :: uu :: uu :: uu :: uu :: uu :: uu :: uu :: uu :: uu :: uu :: uu :: uu :: uu :: uu :: uu :: uu :: uu :: uu :: uu :: uu :: uu :: uu :: uu :: uu :: uu :: uu :: uu :: uu :: uu :: uu :: uu :: uu :: uu :: uu :: uu :: uu :: uu :: uu :: uu :: uu :: uu :: uu :: uu :: uu :: uu :: uu :: uu :: uu :: uu :: uu :: uu :: uu :: uu :: uu :: uu :: uu :: uu :: uu :: uu :: uu :: uu :: uu :: uu :: uu :: []), h8⟩) (
  opsP (xX s 19 wl k false) xg19_0 4 h4.length ([], []) (runK (xX s 19 wl k false) (bodyK s.P Try.f19) xk19_0) ⟨(t0 :: uu :: (V.lit (Value.bool false)) :: v1 :: v3 :: uu :: uu :: uu :: uu :: uu :: uu :: uu :: uu :: v1 :: t0 :: v3 :: v1 :: v5 :: v5 :: uu :: uu :: uu :: uu :: uu :: uu :: uu :: uu :: uu :: uu :: uu :: uu :: uu :: uu :: uu :: uu :: uu :: uu :: uu :: uu :: uu :: uu :: uu :: uu :: uu :: uu :: uu :: uu :: uu :: uu :: uu :: uu :: uu :: uu :: uu :: uu :: uu :: uu :: uu :: uu :: uu :: uu :: uu :: uu :: uu :: uu :: uu :: uu :: uu :: uu :: uu :: uu :: uu :: uu :: uu :: uu :: uu :: uu :: uu :: uu :: uu :: uu :: uu :: uu :: uu :: uu :: uu :: uu :: uu :: uu :: uu :: uu :: uu :: uu :: uu :: uu :: uu :: uu :: uu :: uu :: uu :: uu :: uu :: uu :: uu :: uu :: uu :: uu :: uu :: uu :: uu :: uu :: uu :: uu :: uu :: uu :: uu :: []), h6⟩) :=
  bodyV_run rfl (go_seq (go_reg0
  (go_op0 rfl rfl (st_id (v := (V.lit (Value.bool false))) (H := h) (by kernel_rfl)
  (go_end0 (by kernel_rfl)
  (go_seq (go_reg0
  (go_op0 rfl rfl (st_bp (by kernel_rfl) fun v1 h2 =>
  (go_op0 rfl rfl (st_id (v := v1) (H := h2) (by kernel_rfl)
  (go_end0 (by kernel_rfl)
  (go_seq (go_reg0
  (go_op0 rfl rfl (st_id (v := t0) (H := h2) (by kernel_rfl)
  (go_op0 rfl rfl (st_bp (by kernel_rfl) fun v3 h4 =>
  (go_op0 rfl rfl (st_id (v := v3) (H := h4) (by kernel_rfl)
  (go_end0 (by kernel_rfl)
  (go_seq (go_seq (go_reg0
  (go_op0 rfl rfl (st_id (v := v1) (H := h4) (by kernel_rfl)
  (go_op0 rfl rfl (st_bm (by kernel_rfl) fun v5 h6 =>
  (go_op0 rfl rfl (st_id (v := v5) (H := h6) (by kernel_rfl)
  (go_gdF0 rfl rfl rfl (by kernel_rfl)
  (go_skip0 rfl rfl rfl (by kernel_rfl)
  (by kernel_rfl))
  (st_id (v := v3) (H := h6) (by kernel_rfl)
  (go_run0 rfl rfl rfl (by kernel_rfl) (st_bm (by kernel_rfl) fun v7 h8 =>
  (by kernel_rfl))))
  (by kernel_rfl))))))))))))))))))))))))))))))))
theorem xe19 (k wl : Nat) (t0 : V) (h : Hp) : evF Try.prog xM (k + 1) wl 19 [t0] h = bodyV (xX (xS k) 19 wl k false) Try.f19 [t0] h := by kernel_rfl
theorem xz19 (P : Program) (t0 t1 t2 t3 t4 t5 t6 t7 t8 t9 t10 t11 t12 t13 t14 t15 t16 t17 t18 t19 t20 t21 t22 t23 t24 t25 t26 t27 t28 t29 t30 t31 t32 t33 t34 t35 t36 t37 t38 t39 t40 t41 t42 t43 t44 t45 t46 t47 t48 t49 t50 t51 t52 t53 t54 t55 t56 t57 t58 t59 t60 t61 t62 t63 t64 t65 t66 t67 t68 t69 t70 t71 t72 t73 t74 t75 t76 t77 t78 t79 t80 t81 t82 t83 t84 t85 t86 t87 t88 t89 t90 t91 t92 t93 t94 t95 t96 t97 t98 t99 t100 t101 t102 t103 t104 t105 t106 t107 t108 t109 t110 t111 t112 t113 t114 t115 : V) (h : Hp) : bodyK P Try.f19 .ret ⟨(t0 :: t1 :: t2 :: t3 :: t4 :: t5 :: t6 :: t7 :: t8 :: t9 :: t10 :: t11 :: t12 :: t13 :: t14 :: t15 :: t16 :: t17 :: t18 :: t19 :: t20 :: t21 :: t22 :: t23 :: t24 :: t25 :: t26 :: t27 :: t28 :: t29 :: t30 :: t31 :: t32 :: t33 :: t34 :: t35 :: t36 :: t37 :: t38 :: t39 :: t40 :: t41 :: t42 :: t43 :: t44 :: t45 :: t46 :: t47 :: t48 :: t49 :: t50 :: t51 :: t52 :: t53 :: t54 :: t55 :: t56 :: t57 :: t58 :: t59 :: t60 :: t61 :: t62 :: t63 :: t64 :: t65 :: t66 :: t67 :: t68 :: t69 :: t70 :: t71 :: t72 :: t73 :: t74 :: t75 :: t76 :: t77 :: t78 :: t79 :: t80 :: t81 :: t82 :: t83 :: t84 :: t85 :: t86 :: t87 :: t88 :: t89 :: t90 :: t91 :: t92 :: t93 :: t94 :: t95 :: t96 :: t97 :: t98 :: t99 :: t100 :: t101 :: t102 :: t103 :: t104 :: t105 :: t106 :: t107 :: t108 :: t109 :: t110 :: t111 :: t112 :: t113 :: t114 :: t115 :: []), h⟩ = some (t2, h) := by kernel_rfl
theorem xm19_0 (s : Sys) (k wl : Nat) (m0 : Nat) (ac : List Nat × List Nat) (t0 t1 t2 t3 t4 t5 t6 t7 t8 t9 t10 t11 t12 t13 t14 t15 t16 t17 t18 t19 t20 t21 t22 t23 t24 t25 t26 t27 t28 t29 t30 t31 t32 t33 t34 t35 t36 t37 t38 t39 t40 t41 t42 t43 t44 t45 t46 t47 t48 t49 t50 t51 t52 t53 t54 t55 t56 t57 t58 t59 t60 t61 t62 t63 t64 t65 t66 t67 t68 t69 t70 t71 t72 t73 t74 t75 t76 t77 t78 t79 t80 t81 t82 t83 t84 t85 t86 t87 t88 t89 t90 t91 t92 t93 t94 t95 t96 t97 t98 t99 t100 t101 t102 t103 t104 t105 t106 t107 t108 t109 t110 t111 t112 t113 t114 t115 : V) (h : Hp) : opsP (xX s 19 wl k false) xg19_0 5 m0 ac (runK (xX s 19 wl k false) (bodyK s.P Try.f19) xk19_0) ⟨(t0 :: t1 :: t2 :: t3 :: t4 :: t5 :: t6 :: t7 :: t8 :: t9 :: t10 :: t11 :: t12 :: t13 :: t14 :: t15 :: t16 :: t17 :: t18 :: t19 :: t20 :: t21 :: t22 :: t23 :: t24 :: t25 :: t26 :: t27 :: t28 :: t29 :: t30 :: t31 :: t32 :: t33 :: t34 :: t35 :: t36 :: t37 :: t38 :: t39 :: t40 :: t41 :: t42 :: t43 :: t44 :: t45 :: t46 :: t47 :: t48 :: t49 :: t50 :: t51 :: t52 :: t53 :: t54 :: t55 :: t56 :: t57 :: t58 :: t59 :: t60 :: t61 :: t62 :: t63 :: t64 :: t65 :: t66 :: t67 :: t68 :: t69 :: t70 :: t71 :: t72 :: t73 :: t74 :: t75 :: t76 :: t77 :: t78 :: t79 :: t80 :: t81 :: t82 :: t83 :: t84 :: t85 :: t86 :: t87 :: t88 :: t89 :: t90 :: t91 :: t92 :: t93 :: t94 :: t95 :: t96 :: t97 :: t98 :: t99 :: t100 :: t101 :: t102 :: t103 :: t104 :: t105 :: t106 :: t107 :: t108 :: t109 :: t110 :: t111 :: t112 :: t113 :: t114 :: t115 :: []), h⟩ =
  bm (vPick t18 (V.lit (Value.bool true)) t20) h fun v9 h10 =>
  gd v9 (
  opsP (xX s 19 wl k false) xg19_0 10 m0 ac (runK (xX s 19 wl k false) (bodyK s.P Try.f19) xk19_0) ⟨(t0 :: t1 :: t2 :: t3 :: t4 :: t5 :: t6 :: t7 :: t8 :: t9 :: t10 :: t11 :: t12 :: t13 :: t14 :: t15 :: t16 :: t17 :: t18 :: t19 :: t20 :: v9 :: (V.lit (Value.bool true)) :: uu :: uu :: uu :: t26 :: t27 :: t28 :: t29 :: t30 :: t31 :: t32 :: t33 :: t34 :: t35 :: t36 :: t37 :: t38 :: t39 :: t40 :: t41 :: t42 :: t43 :: t44 :: t45 :: t46 :: t47 :: t48 :: t49 :: t50 :: t51 :: t52 :: t53 :: t54 :: t55 :: t56 :: t57 :: t58 :: t59 :: t60 :: t61 :: t62 :: t63 :: t64 :: t65 :: t66 :: t67 :: t68 :: t69 :: t70 :: t71 :: t72 :: t73 :: t74 :: t75 :: t76 :: t77 :: t78 :: t79 :: t80 :: t81 :: t82 :: t83 :: t84 :: t85 :: t86 :: t87 :: t88 :: t89 :: t90 :: t91 :: t92 :: t93 :: t94 :: t95 :: t96 :: t97 :: t98 :: t99 :: t100 :: t101 :: t102 :: t103 :: t104 :: t105 :: t106 :: t107 :: t108 :: t109 :: t110 :: t111 :: t112 :: t113 :: t114 :: t115 :: []), h10⟩) (
  bp (callV (xX s 19 wl k false) false true (.fn (.func 50) [] []) [t0] h10) fun v11 h12 =>
  bm (vUn .not v11) h12 fun v13 h14 =>
  opsP (xX s 19 wl k false) xg19_0 10 m0 ac (runK (xX s 19 wl k false) (bodyK s.P Try.f19) xk19_0) ⟨(t0 :: t1 :: t2 :: t3 :: t4 :: t5 :: t6 :: t7 :: t8 :: t9 :: t10 :: t11 :: t12 :: t13 :: t14 :: t15 :: t16 :: t17 :: t18 :: t19 :: t20 :: v9 :: (V.lit (Value.bool false)) :: t0 :: v11 :: v13 :: t26 :: t27 :: t28 :: t29 :: t30 :: t31 :: t32 :: t33 :: t34 :: t35 :: t36 :: t37 :: t38 :: t39 :: t40 :: t41 :: t42 :: t43 :: t44 :: t45 :: t46 :: t47 :: t48 :: t49 :: t50 :: t51 :: t52 :: t53 :: t54 :: t55 :: t56 :: t57 :: t58 :: t59 :: t60 :: t61 :: t62 :: t63 :: t64 :: t65 :: t66 :: t67 :: t68 :: t69 :: t70 :: t71 :: t72 :: t73 :: t74 :: t75 :: t76 :: t77 :: t78 :: t79 :: t80 :: t81 :: t82 :: t83 :: t84 :: t85 :: t86 :: t87 :: t88 :: t89 :: t90 :: t91 :: t92 :: t93 :: t94 :: t95 :: t96 :: t97 :: t98 :: t99 :: t100 :: t101 :: t102 :: t103 :: t104 :: t105 :: t106 :: t107 :: t108 :: t109 :: t110 :: t111 :: t112 :: t113 :: t114 :: t115 :: []), h14⟩) (
  opsP (xX s 19 wl k false) xg19_0 8 m0 ac (runK (xX s 19 wl k false) (bodyK s.P Try.f19) xk19_0) ⟨(t0 :: t1 :: t2 :: t3 :: t4 :: t5 :: t6 :: t7 :: t8 :: t9 :: t10 :: t11 :: t12 :: t13 :: t14 :: t15 :: t16 :: t17 :: t18 :: t19 :: t20 :: v9 :: v9 :: uu :: t24 :: t25 :: t26 :: t27 :: t28 :: t29 :: t30 :: t31 :: t32 :: t33 :: t34 :: t35 :: t36 :: t37 :: t38 :: t39 :: t40 :: t41 :: t42 :: t43 :: t44 :: t45 :: t46 :: t47 :: t48 :: t49 :: t50 :: t51 :: t52 :: t53 :: t54 :: t55 :: t56 :: t57 :: t58 :: t59 :: t60 :: t61 :: t62 :: t63 :: t64 :: t65 :: t66 :: t67 :: t68 :: t69 :: t70 :: t71 :: t72 :: t73 :: t74 :: t75 :: t76 :: t77 :: t78 :: t79 :: t80 :: t81 :: t82 :: t83 :: t84 :: t85 :: t86 :: t87 :: t88 :: t89 :: t90 :: t91 :: t92 :: t93 :: t94 :: t95 :: t96 :: t97 :: t98 :: t99 :: t100 :: t101 :: t102 :: t103 :: t104 :: t105 :: t106 :: t107 :: t108 :: t109 :: t110 :: t111 :: t112 :: t113 :: t114 :: t115 :: []), h10⟩) :=
  (go_op0 rfl rfl (st_bm (by kernel_rfl) fun v9 h10 =>
  (go_op0 rfl rfl (st_id (v := v9) (H := h10) (by kernel_rfl)
  (go_gdF0 rfl rfl rfl (by kernel_rfl)
  (go_skip0 rfl rfl rfl (by kernel_rfl)
  (go_skip0 rfl rfl rfl (by kernel_rfl)
  (by kernel_rfl)))
  (st_id (v := t0) (H := h10) (by kernel_rfl)
  (go_run0 rfl rfl rfl (by kernel_rfl) (st_bp (by kernel_rfl) fun v11 h12 =>
  (go_run0 rfl rfl rfl (by kernel_rfl) (st_bm (by kernel_rfl) fun v13 h14 =>
  (by kernel_rfl))))))
  (by kernel_rfl))))))
theorem xm19_1 (s : Sys) (k wl : Nat) (m0 : Nat) (ac : List Nat × List Nat) (t0 t1 t2 t3 t4 t5 t6 t7 t8 t9 t10 t11 t12 t13 t14 t15 t16 t17 t18 t19 t20 t21 t22 t23 t24 t25 t26 t27 t28 t29 t30 t31 t32 t33 t34 t35 t36 t37 t38 t39 t40 t41 t42 t43 t44 t45 t46 t47 t48 t49 t50 t51 t52 t53 t54 t55 t56 t57 t58 t59 t60 t61 t62 t63 t64 t65 t66 t67 t68 t69 t70 t71 t72 t73 t74 t75 t76 t77 t78 t79 t80 t81 t82 t83 t84 t85 t86 t87 t88 t89 t90 t91 t92 t93 t94 t95 t96 t97 t98 t99 t100 t101 t102 t103 t104 t105 t106 t107 t108 t109 t110 t111 t112 t113 t114 t115 : V) (h : Hp) : opsP (xX s 19 wl k false) xg19_0 10 m0 ac (runK (xX s 19 wl k false) (bodyK s.P Try.f19) xk19_0) ⟨(t0 :: t1 :: t2 :: t3 :: t4 :: t5 :: t6 :: t7 :: t8 :: t9 :: t10 :: t11 :: t12 :: t13 :: t14 :: t15 :: t16 :: t17 :: t18 :: t19 :: t20 :: t21 :: t22 :: t23 :: t24 :: t25 :: t26 :: t27 :: t28 :: t29 :: t30 :: t31 :: t32 :: t33 :: t34 :: t35 :: t36 :: t37 :: t38 :: t39 :: t40 :: t41 :: t42 :: t43 :: t44 :: t45 :: t46 :: t47 :: t48 :: t49 :: t50 :: t51 :: t52 :: t53 :: t54 :: t55 :: t56 :: t57 :: t58 :: t59 :: t60 :: t61 :: t62 :: t63 :: t64 :: t65 :: t66 :: t67 :: t68 :: t69 :: t70 :: t71 :: t72 :: t73 :: t74 :: t75 :: t76 :: t77 :: t78 :: t79 :: t80 :: t81 :: t82 :: t83 :: t84 :: t85 :: t86 :: t87 :: t88 :: t89 :: t90 :: t91 :: t92 :: t93 :: t94 :: t95 :: t96 :: t97 :: t98 :: t99 :: t100 :: t101 :: t102 :: t103 :: t104 :: t105 :: t106 :: t107 :: t108 :: t109 :: t110 :: t111 :: t112 :: t113 :: t114 :: t115 :: []), h⟩ =
  bm (vPick t22 (V.lit (Value.bool true)) t25) h fun v15 h16 =>
  gd v15 (
  opsP (xX s 19 wl k false) xg19_0 15 m0 ac (runK (xX s 19 wl k false) (bodyK s.P Try.f19) xk19_0) ⟨(t0 :: t1 :: t2 :: t3 :: t4 :: t5 :: t6 :: t7 :: t8 :: t9 :: t10 :: t11 :: t12 :: t13 :: t14 :: t15 :: t16 :: t17 :: t18 :: t19 :: t20 :: t21 :: t22 :: t23 :: t24 :: t25 :: v15 :: (V.lit (Value.bool true)) :: uu :: uu :: uu :: t31 :: t32 :: t33 :: t34 :: t35 :: t36 :: t37 :: t38 :: t39 :: t40 :: t41 :: t42 :: t43 :: t44 :: t45 :: t46 :: t47 :: t48 :: t49 :: t50 :: t51 :: t52 :: t53 :: t54 :: t55 :: t56 :: t57 :: t58 :: t59 :: t60 :: t61 :: t62 :: t63 :: t64 :: t65 :: t66 :: t67 :: t68 :: t69 :: t70 :: t71 :: t72 :: t73 :: t74 :: t75 :: t76 :: t77 :: t78 :: t79 :: t80 :: t81 :: t82 :: t83 :: t84 :: t85 :: t86 :: t87 :: t88 :: t89 :: t90 :: t91 :: t92 :: t93 :: t94 :: t95 :: t96 :: t97 :: t98 :: t99 :: t100 :: t101 :: t102 :: t103 :: t104 :: t105 :: t106 :: t107 :: t108 :: t109 :: t110 :: t111 :: t112 :: t113 :: t114 :: t115 :: []), h16⟩) (
  bp (opLen s.P 22 t0 h16) fun v17 h18 =>
  bm (vBin s.P .eql 3 v17 (V.lit (Value.int .i64 0))) h18 fun v19 h20 =>
  opsP (xX s 19 wl k false) xg19_0 15 m0 ac (runK (xX s 19 wl k false) (bodyK s.P Try.f19) xk19_0) ⟨(t0 :: t1 :: t2 :: t3 :: t4 :: t5 :: t6 :: t7 :: t8 :: t9 :: t10 :: t11 :: t12 :: t13 :: t14 :: t15 :: t16 :: t17 :: t18 :: t19 :: t20 :: t21 :: t22 :: t23 :: t24 :: t25 :: v15 :: (V.lit (Value.bool false)) :: t0 :: v17 :: v19 :: t31 :: t32 :: t33 :: t34 :: t35 :: t36 :: t37 :: t38 :: t39 :: t40 :: t41 :: t42 :: t43 :: t44 :: t45 :: t46 :: t47 :: t48 :: t49 :: t50 :: t51 :: t52 :: t53 :: t54 :: t55 :: t56 :: t57 :: t58 :: t59 :: t60 :: t61 :: t62 :: t63 :: t64 :: t65 :: t66 :: t67 :: t68 :: t69 :: t70 :: t71 :: t72 :: t73 :: t74 :: t75 :: t76 :: t77 :: t78 :: t79 :: t80 :: t81 :: t82 :: t83 :: t84 :: t85 :: t86 :: t87 :: t88 :: t89 :: t90 :: t91 :: t92 :: t93 :: t94 :: t95 :: t96 :: t97 :: t98 :: t99 :: t100 :: t101 :: t102 :: t103 :: t104 :: t105 :: t106 :: t107 :: t108 :: t109 :: t110 :: t111 :: t112 :: t113 :: t114 :: t115 :: []), h20⟩) (
  opsP (xX s 19 wl k false) xg19_0 13 m0 ac (runK (xX s 19 wl k false) (bodyK s.P Try.f19) xk19_0) ⟨(t0 :: t1 :: t2 :: t3 :: t4 :: t5 :: t6 :: t7 :: t8 :: t9 :: t10 :: t11 :: t12 :: t13 :: t14 :: t15 :: t16 :: t17 :: t18 :: t19 :: t20 :: t21 :: t22 :: t23 :: t24 :: t25 :: v15 :: v15 :: uu :: t29 :: t30 :: t31 :: t32 :: t33 :: t34 :: t35 :: t36 :: t37 :: t38 :: t39 :: t40 :: t41 :: t42 :: t43 :: t44 :: t45 :: t46 :: t47 :: t48 :: t49 :: t50 :: t51 :: t52 :: t53 :: t54 :: t55 :: t56 :: t57 :: t58 :: t59 :: t60 :: t61 :: t62 :: t63 :: t64 :: t65 :: t66 :: t67 :: t68 :: t69 :: t70 :: t71 :: t72 :: t73 :: t74 :: t75 :: t76 :: t77 :: t78 :: t79 :: t80 :: t81 :: t82 :: t83 :: t84 :: t85 :: t86 :: t87 :: t88 :: t89 :: t90 :: t91 :: t92 :: t93 :: t94 :: t95 :: t96 :: t97 :: t98 :: t99 :: t100 :: t101 :: t102 :: t103 :: t104 :: t105 :: t106 :: t107 :: t108 :: t109 :: t110 :: t111 :: t112 :: t113 :: t114 :: t115 :: []), h16⟩) :=
  (go_op0 rfl rfl (st_bm (by kernel_rfl) fun v15 h16 =>
  (go_op0 rfl rfl (st_id (v := v15) (H := h16) (by kernel_rfl)
  (go_gdF0 rfl rfl rfl (by kernel_rfl)
  (go_skip0 rfl rfl rfl (by kernel_rfl)
  (go_skip0 rfl rfl rfl (by kernel_rfl)
  (by kernel_rfl)))
  (st_id (v := t0) (H := h16) (by kernel_rfl)
  (go_run0 rfl rfl rfl (by kernel_rfl) (st_bp (by kernel_rfl) fun v17 h18 =>
  (go_run0 rfl rfl rfl (by kernel_rfl) (st_bm (by kernel_rfl) fun v19 h20 =>
  (by kernel_rfl))))))
  (by kernel_rfl))))))
theorem xm19_2 (s : Sys) (k wl : Nat) (m0 : Nat) (ac : List Nat × List Nat) (t0 t1 t2 t3 t4 t5 t6 t7 t8 t9 t10 t11 t12 t13 t14 t15 t16 t17 t18 t19 t20 t21 t22 t23 t24 t25 t26 t27 t28 t29 t30 t31 t32 t33 t34 t35 t36 t37 t38 t39 t40 t41 t42 t43 t44 t45 t46 t47 t48 t49 t50 t51 t52 t53 t54 t55 t56 t57 t58 t59 t60 t61 t62 t63 t64 t65 t66 t67 t68 t69 t70 t71 t72 t73 t74 t75 t76 t77 t78 t79 t80 t81 t82 t83 t84 t85 t86 t87 t88 t89 t90 t91 t92 t93 t94 t95 t96 t97 t98 t99 t100 t101 t102 t103 t104 t105 t106 t107 t108 t109 t110 t111 t112 t113 t114 t115 : V) (h : Hp) : opsP (xX s 19 wl k false) xg19_0 15 m0 ac (runK (xX s 19 wl k false) (bodyK s.P Try.f19) xk19_0) ⟨(t0 :: t1 :: t2 :: t3 :: t4 :: t5 :: t6 :: t7 :: t8 :: t9 :: t10 :: t11 :: t12 :: t13 :: t14 :: t15 :: t16 :: t17 :: t18 :: t19 :: t20 :: t21 :: t22 :: t23 :: t24 :: t25 :: t26 :: t27 :: t28 :: t29 :: t30 :: t31 :: t32 :: t33 :: t34 :: t35 :: t36 :: t37 :: t38 :: t39 :: t40 :: t41 :: t42 :: t43 :: t44 :: t45 :: t46 :: t47 :: t48 :: t49 :: t50 :: t51 :: t52 :: t53 :: t54 :: t55 :: t56 :: t57 :: t58 :: t59 :: t60 :: t61 :: t62 :: t63 :: t64 :: t65 :: t66 :: t67 :: t68 :: t69 :: t70 :: t71 :: t72 :: t73 :: t74 :: t75 :: t76 :: t77 :: t78 :: t79 :: t80 :: t81 :: t82 :: t83 :: t84 :: t85 :: t86 :: t87 :: t88 :: t89 :: t90 :: t91 :: t92 :: t93 :: t94 :: t95 :: t96 :: t97 :: t98 :: t99 :: t100 :: t101 :: t102 :: t103 :: t104 :: t105 :: t106 :: t107 :: t108 :: t109 :: t110 :: t111 :: t112 :: t113 :: t114 :: t115 :: []), h⟩ =
  bm (vPick t27 (V.lit (Value.bool true)) t30) h fun v21 h22 =>
  cnd v21 (
  some (t3, h22)) (
  bp (some (.own h22.length 0 0, h22 ++ [.rows 0 [] 0 true])) fun v23 h24 =>
  itX (xX s 19 wl k false) xl19_0 h24.length (runK (xX s 19 wl k false) (bodyK s.P Try.f19) xk19_1) k ⟨((V.kill h24.length t0) :: (V.kill h24.length t1) :: (V.kill h24.length t2) :: (V.kill h24.length t3) :: (V.kill h24.length t4) :: (V.kill h24.length v23) :: (V.lit (Value.int .i64 0)) :: (V.kill h24.length t7) :: (V.kill h24.length t8) :: (V.kill h24.length t9) :: (V.kill h24.length t10) :: (V.kill h24.length t11) :: (V.kill h24.length t12) :: (V.kill h24.length t13) :: (V.kill h24.length t14) :: (V.kill h24.length t15) :: (V.kill h24.length t16) :: (V.kill h24.length t17) :: (V.kill h24.length t18) :: (V.kill h24.length t19) :: (V.kill h24.length t20) :: (V.kill h24.length t21) :: (V.kill h24.length t22) :: (V.kill h24.length t23) :: (V.kill h24.length t24) :: (V.kill h24.length t25) :: (V.kill h24.length t26) :: (V.kill h24.length t27) :: (V.kill h24.length t28) :: (V.kill h24.length t29) :: (V.kill h24.length t30) :: (V.kill h24.length v21) :: (V.kill h24.length t32) :: .junk :: .junk :: .junk :: .junk :: .junk :: .junk :: .junk :: .junk :: .junk :: .junk :: .junk :: .junk :: .junk :: .junk :: .junk :: .junk :: .junk :: .junk :: .junk :: .junk :: .junk :: .junk :: .junk :: .junk :: .junk :: .junk :: .junk :: .junk :: .junk :: .junk :: .junk :: .junk :: .junk :: .junk :: .junk :: .junk :: .junk :: .junk :: .junk :: .junk :: .junk :: .junk :: .junk :: .junk :: .junk :: .junk :: .junk :: .junk :: .junk :: .junk :: .junk :: .junk :: (V.kill h24.length t85) :: (V.kill h24.length t86) :: (V.kill h24.length t87) :: (V.kill h24.length t88) :: (V.kill h24.length t89) :: (V.kill h24.length t90) :: (V.kill h24.length t91) :: (V.kill h24.length t92) :: (V.kill h24.length t93) :: (V.kill h24.length t94) :: (V.kill h24.length t95) :: (V.kill h24.length t96) :: (V.kill h24.length t97) :: (V.kill h24.length t98) :: (V.kill h24.length t99) :: (V.kill h24.length t100) :: (V.kill h24.length t101) :: (V.kill h24.length t102) :: (V.kill h24.length t103) :: (V.kill h24.length t104) :: (V.kill h24.length t105) :: (V.kill h24.length t106) :: (V.kill h24.length t107) :: (V.kill h24.length t108) :: (V.kill h24.length t109) :: (V.kill h24.length t110) :: (V.kill h24.length t111) :: (V.kill h24.length t112) :: (V.kill h24.length t113) :: (V.kill h24.length t114) :: (V.kill h24.length t115) :: []), cutH h24.length h24⟩) :=
  (go_op0 rfl rfl (st_bm (by kernel_rfl) fun v21 h22 =>
  (go_end0 (by kernel_rfl)
  (go_cond (by kernel_rfl)
  (go_seq (go_reg0
  (go_op0 rfl rfl (st_id (v := t3) (H := h22) (by kernel_rfl)
  (go_op0 rfl rfl (st_id (v := t3) (H := h22) (by kernel_rfl)
  (go_end0 (by kernel_rfl)
  (go_ret (rt_seq_ret (by kernel_rfl))))))))))
  (go_skip (go_seq (go_reg0
  (go_op0 rfl rfl (st_bp (by kernel_rfl) fun v23 h24 =>
  (go_end0 (by kernel_rfl)
  (go_seq (go_seq (go_reg0
  (go_op0 rfl rfl (st_id (v := (V.lit (Value.int .i64 0))) (H := h24) (by kernel_rfl)
  (go_end0 (by kernel_rfl)
  (go_block (by kernel_rfl))))))))))))))))))
theorem xr19_0 (s : Sys) (K : Out → St → Option (V × Hp)) (k wl : Nat) (rd : Bool) (n n0 : Nat) (t0 t1 t2 t3 t4 t5 t6 t7 t8 t9 t10 t11 t12 t13 t14 t15 t16 t17 t18 t19 t20 t21 t22 t23 t24 t25 t26 t27 t28 t29 t30 t31 t32 t33 t34 t35 t36 t37 t38 t39 t40 t41 t42 t43 t44 t45 t46 t47 t48 t49 t50 t51 t52 t53 t54 t55 t56 t57 t58 t59 t60 t61 t62 t63 t64 t65 t66 t67 t68 t69 t70 t71 t72 t73 t74 t75 t76 t77 t78 t79 t80 t81 t82 t83 t84 t85 t86 t87 t88 t89 t90 t91 t92 t93 t94 t95 t96 t97 t98 t99 t100 t101 t102 t103 t104 t105 t106 t107 t108 t109 t110 t111 t112 t113 t114 t115 : V) (h : Hp) : itX (xX s 19 wl k rd) xl19_0 n0 K (n + 1) ⟨(t0 :: t1 :: t2 :: t3 :: t4 :: t5 :: t6 :: t7 :: t8 :: t9 :: t10 :: t11 :: t12 :: t13 :: t14 :: t15 :: t16 :: t17 :: t18 :: t19 :: t20 :: t21 :: t22 :: t23 :: t24 :: t25 :: t26 :: t27 :: t28 :: t29 :: t30 :: t31 :: t32 :: t33 :: t34 :: t35 :: t36 :: t37 :: t38 :: t39 :: t40 :: t41 :: t42 :: t43 :: t44 :: t45 :: t46 :: t47 :: t48 :: t49 :: t50 :: t51 :: t52 :: t53 :: t54 :: t55 :: t56 :: t57 :: t58 :: t59 :: t60 :: t61 :: t62 :: t63 :: t64 :: t65 :: t66 :: t67 :: t68 :: t69 :: t70 :: t71 :: t72 :: t73 :: t74 :: t75 :: t76 :: t77 :: t78 :: t79 :: t80 :: t81 :: t82 :: t83 :: t84 :: t85 :: t86 :: t87 :: t88 :: t89 :: t90 :: t91 :: t92 :: t93 :: t94 :: t95 :: t96 :: t97 :: t98 :: t99 :: t100 :: t101 :: t102 :: t103 :: t104 :: t105 :: t106 :: t107 :: t108 :: t109 :: t110 :: t111 :: t112 :: t113 :: t114 :: t115 :: []), h⟩ =
  bp (opLen s.P 22 t0 h) fun v25 h26 =>
  bm (vBin s.P .sub 3 v25 (V.lit (Value.int .i64 1))) h26 fun v27 h28 =>
  bm (vBin s.P .lss 3 t6 v27) h28 fun v29 h30 =>
  cnd v29 (
  bm (vIndexAddr s.P 22 t0 t6 h30) h30 fun v31 h32 =>
  bm (vFieldAddr s.P 40 v31 0) h32 fun v33 h34 =>
  bm (vLoad s.P 3 v33 h34) h34 fun v35 h36 =>
  bm (vBuild s.P 40 [(0, v35)]) h36 fun v37 h38 =>
  bp (opAlloc s.P 40 h38) fun v39 h40 =>
  bs (vStore s.P wl 40 v39 v37 h40) fun h41 =>
  itX (xX s 19 wl k rd) xl19_1 h41.length (runK (xX s 19 wl k rd) (nextK (xX s 19 wl k rd) xl19_0 n0 K n) xk19_2) k ⟨((V.kill h41.length t0) :: (V.kill h41.length t1) :: (V.kill h41.length t2) :: (V.kill h41.length t3) :: (V.kill h41.length t4) :: (V.kill h41.length t5) :: (V.kill h41.length t6) :: (V.kill h41.length v39) :: (V.lit (Value.int .i64 0)) :: (V.kill h41.length t9) :: (V.kill h41.length t10) :: (V.kill h41.length t11) :: (V.kill h41.length t12) :: (V.kill h41.length t13) :: (V.kill h41.length t14) :: (V.kill h41.length t15) :: (V.kill h41.length t16) :: (V.kill h41.length t17) :: (V.kill h41.length t18) :: (V.kill h41.length t19) :: (V.kill h41.length t20) :: (V.kill h41.length t21) :: (V.kill h41.length t22) :: (V.kill h41.length t23) :: (V.kill h41.length t24) :: (V.kill h41.length t25) :: (V.kill h41.length t26) :: (V.kill h41.length t27) :: (V.kill h41.length t28) :: (V.kill h41.length t29) :: (V.kill h41.length t30) :: (V.kill h41.length t31) :: (V.kill h41.length t32) :: (V.kill h41.length t6) :: (V.kill h41.length t0) :: (V.kill h41.length v25) :: (V.kill h41.length v27) :: (V.kill h41.length v29) :: (V.kill h41.length t38) :: (V.kill h41.length t39) :: (V.kill h41.length t0) :: (V.kill h41.length t6) :: (V.kill h41.length v31) :: (V.kill h41.length v33) :: (V.kill h41.length v35) :: (V.kill h41.length v37) :: .junk :: .junk :: .junk :: .junk :: .junk :: .junk :: .junk :: .junk :: .junk :: .junk :: .junk :: .junk :: .junk :: .junk :: .junk :: .junk :: .junk :: .junk :: .junk :: .junk :: .junk :: .junk :: .junk :: .junk :: .junk :: .junk :: .junk :: .junk :: .junk :: .junk :: .junk :: .junk :: .junk :: .junk :: .junk :: (V.kill h41.length t81) :: (V.kill h41.length t82) :: (V.kill h41.length t83) :: (V.kill h41.length t84) :: (V.kill h41.length t85) :: (V.kill h41.length t86) :: (V.kill h41.length t87) :: (V.kill h41.length t88) :: (V.kill h41.length t89) :: (V.kill h41.length t90) :: (V.kill h41.length t91) :: (V.kill h41.length t92) :: (V.kill h41.length t93) :: (V.kill h41.length t94) :: (V.kill h41.length t95) :: (V.kill h41.length t96) :: (V.kill h41.length t97) :: (V.kill h41.length t98) :: (V.kill h41.length t99) :: (V.kill h41.length t100) :: (V.kill h41.length t101) :: (V.kill h41.length t102) :: (V.kill h41.length t103) :: (V.kill h41.length t104) :: (V.kill h41.length t105) :: (V.kill h41.length t106) :: (V.kill h41.length t107) :: (V.kill h41.length t108) :: (V.kill h41.length t109) :: (V.kill h41.length t110) :: (V.kill h41.length t111) :: (V.kill h41.length t112) :: (V.kill h41.length t113) :: (V.kill h41.length t114) :: (V.kill h41.length t115) :: []), cutH h41.length h41⟩) (
  K (.exit 0) ⟨((V.kill n0 t0) :: (V.kill n0 t1) :: (V.kill n0 t2) :: (V.kill n0 t3) :: (V.kill n0 t4) :: (V.kill n0 t5) :: (V.kill n0 t6) :: (V.kill n0 t7) :: (V.kill n0 t8) :: (V.kill n0 t9) :: (V.kill n0 t10) :: (V.kill n0 t11) :: (V.kill n0 t12) :: (V.kill n0 t13) :: (V.kill n0 t14) :: (V.kill n0 t15) :: (V.kill n0 t16) :: (V.kill n0 t17) :: (V.kill n0 t18) :: (V.kill n0 t19) :: (V.kill n0 t20) :: (V.kill n0 t21) :: (V.kill n0 t22) :: (V.kill n0 t23) :: (V.kill n0 t24) :: (V.kill n0 t25) :: (V.kill n0 t26) :: (V.kill n0 t27) :: (V.kill n0 t28) :: (V.kill n0 t29) :: (V.kill n0 t30) :: (V.kill n0 t31) :: (V.kill n0 t32) :: .junk :: .junk :: .junk :: .junk :: .junk :: .junk :: .junk :: .junk :: .junk :: .junk :: .junk :: .junk :: .junk :: .junk :: .junk :: .junk :: .junk :: .junk :: .junk :: .junk :: .junk :: .junk :: .junk :: .junk :: .junk :: .junk :: .junk :: .junk :: .junk :: .junk :: .junk :: .junk :: .junk :: .junk :: .junk :: .junk :: .junk :: .junk :: .junk :: .junk :: .junk :: .junk :: .junk :: .junk :: .junk :: .junk :: .junk :: .junk :: .junk :: .junk :: .junk :: .junk :: (V.kill n0 t85) :: (V.kill n0 t86) :: (V.kill n0 t87) :: (V.kill n0 t88) :: (V.kill n0 t89) :: (V.kill n0 t90) :: (V.kill n0 t91) :: (V.kill n0 t92) :: (V.kill n0 t93) :: (V.kill n0 t94) :: (V.kill n0 t95) :: (V.kill n0 t96) :: (V.kill n0 t97) :: (V.kill n0 t98) :: (V.kill n0 t99) :: (V.kill n0 t100) :: (V.kill n0 t101) :: (V.kill n0 t102) :: (V.kill n0 t103) :: (V.kill n0 t104) :: (V.kill n0 t105) :: (V.kill n0 t106) :: (V.kill n0 t107) :: (V.kill n0 t108) :: (V.kill n0 t109) :: (V.kill n0 t110) :: (V.kill n0 t111) :: (V.kill n0 t112) :: (V.kill n0 t113) :: (V.kill n0 t114) :: (V.kill n0 t115) :: []), cutH n0 h30⟩) :=
  itX_step (go_seq (go_seq (go_reg0
  (go_op0 rfl rfl (st_id (v := t6) (H := h) (by kernel_rfl)
  (go_op0 rfl rfl (st_id (v := t0) (H := h) (by kernel_rfl)
  (go_op0 rfl rfl (st_bp (by kernel_rfl) fun v25 h26 =>
  (go_op0 rfl rfl (st_bm (by kernel_rfl) fun v27 h28 =>
  (go_op0 rfl rfl (st_bm (by kernel_rfl) fun v29 h30 =>
  (go_end0 (by kernel_rfl)
  (go_cond (by kernel_rfl)
  (go_skip (go_seq (go_block (go_seq (go_reg0
  (go_op0 rfl rfl (st_id (v := t0) (H := h30) (by kernel_rfl)
  (go_op0 rfl rfl (st_id (v := t6) (H := h30) (by kernel_rfl)
  (go_op0 rfl rfl (st_bm (by kernel_rfl) fun v31 h32 =>
  (go_op0 rfl rfl (st_bm (by kernel_rfl) fun v33 h34 =>
  (go_op0 rfl rfl (st_bm (by kernel_rfl) fun v35 h36 =>
  (go_op0 rfl rfl (st_bm (by kernel_rfl) fun v37 h38 =>
  (go_op0 rfl rfl (st_bp (by kernel_rfl) fun v39 h40 =>
  (go_op0 rfl rfl (st_bs (by kernel_rfl) fun h41 =>
  (go_end0 (by kernel_rfl)
  (go_seq (go_seq (go_reg0
  (go_op0 rfl rfl (st_id (v := (V.lit (Value.int .i64 0))) (H := h41) (by kernel_rfl)
  (go_end0 (by kernel_rfl)
  (go_block (by kernel_rfl))))))))))))))))))))))))))))))
  (go_exit (rt_seq_exit (by kernel_rfl))))))))))))))))))
theorem xj19_3 (s : Sys) (k wl : Nat) (t0 t1 t2 t3 t4 t5 t6 t7 t8 t9 t10 t11 t12 t13 t14 t15 t16 t17 t18 t19 t20 t21 t22 t23 t24 t25 t26 t27 t28 t29 t30 t31 t32 t33 t34 t35 t36 t37 t38 t39 t40 t41 t42 t43 t44 t45 t46 t47 t48 t49 t50 t51 t52 t53 t54 t55 t56 t57 t58 t59 t60 t61 t62 t63 t64 t65 t66 t67 t68 t69 t70 t71 t72 t73 t74 t75 t76 t77 t78 t79 t80 t81 t82 t83 t84 t85 t86 t87 t88 t89 t90 t91 t92 t93 t94 t95 t96 t97 t98 t99 t100 t101 t102 t103 t104 t105 t106 t107 t108 t109 t110 t111 t112 t113 t114 t115 : V) (h : Hp) : runK (xX s 19 wl k false) (bodyK s.P Try.f19) xk19_1 (.exit 0) ⟨(t0 :: t1 :: t2 :: t3 :: t4 :: t5 :: t6 :: t7 :: t8 :: t9 :: t10 :: t11 :: t12 :: t13 :: t14 :: t15 :: t16 :: t17 :: t18 :: t19 :: t20 :: t21 :: t22 :: t23 :: t24 :: t25 :: t26 :: t27 :: t28 :: t29 :: t30 :: t31 :: t32 :: t33 :: t34 :: t35 :: t36 :: t37 :: t38 :: t39 :: t40 :: t41 :: t42 :: t43 :: t44 :: t45 :: t46 :: t47 :: t48 :: t49 :: t50 :: t51 :: t52 :: t53 :: t54 :: t55 :: t56 :: t57 :: t58 :: t59 :: t60 :: t61 :: t62 :: t63 :: t64 :: t65 :: t66 :: t67 :: t68 :: t69 :: t70 :: t71 :: t72 :: t73 :: t74 :: t75 :: t76 :: t77 :: t78 :: t79 :: t80 :: t81 :: t82 :: t83 :: t84 :: t85 :: t86 :: t87 :: t88 :: t89 :: t90 :: t91 :: t92 :: t93 :: t94 :: t95 :: t96 :: t97 :: t98 :: t99 :: t100 :: t101 :: t102 :: t103 :: t104 :: t105 :: t106 :: t107 :: t108 :: t109 :: t110 :: t111 :: t112 :: t113 :: t114 :: t115 :: []), h⟩ =
  bp (callV (xX s 19 wl k false) false true (.fn (.func 52) [] []) [t0] h) fun v42 h43 =>
  bm (vExtract v42 0) h43 fun v44 h45 =>
  bm (vExtract v42 1) h45 fun v46 h47 =>
  bp (callV (xX s 19 wl k false) false true (.fn (.func 52) [] []) [t5] h47) fun v48 h49 =>
  bm (vExtract v48 0) h49 fun v50 h51 =>
  bm (vExtract v48 1) h51 fun v52 h53 =>
  bp (callV (xX s 19 wl k false) false true (.fn (.func 50) [] []) [t5] h53) fun v54 h55 =>
  gd v54 (
  bm (vBin s.P .add 3 v50 (V.lit (Value.int .i64 1))) h55 fun v56 h57 =>
  bm (vBin s.P .eql 3 v44 v56) h57 fun v58 h59 =>
  opsP (xX s 19 wl k false) xg19_1 7 h53.length ([], []) (runK (xX s 19 wl k false) (bodyK s.P Try.f19) xk19_3) ⟨(t0 :: t1 :: t2 :: t3 :: t4 :: t5 :: t6 :: t7 :: t8 :: v44 :: v46 :: v50 :: v52 :: t13 :: t14 :: t15 :: t16 :: t17 :: t18 :: t19 :: t20 :: t21 :: t22 :: t23 :: t24 :: t25 :: t26 :: t27 :: t28 :: t29 :: t30 :: t31 :: t32 :: t33 :: t34 :: t35 :: t36 :: t37 :: t38 :: t39 :: t40 :: t41 :: t42 :: t43 :: t44 :: t45 :: t46 :: t47 :: t48 :: t49 :: t50 :: t51 :: t52 :: t53 :: t54 :: t55 :: t56 :: t57 :: t58 :: t59 :: t60 :: t61 :: t62 :: t63 :: t64 :: t65 :: t66 :: t67 :: t68 :: t69 :: t70 :: t71 :: t72 :: t73 :: t74 :: t75 :: t76 :: t77 :: t78 :: t79 :: t80 :: t81 :: t82 :: t83 :: t84 :: v42 :: t0 :: v42 :: v44 :: v46 :: v48 :: t5 :: v48 :: v50 :: v52 :: t5 :: v54 :: (V.lit (Value.bool true)) :: v44 :: v50 :: v56 :: v58 :: t102 :: t103 :: t104 :: t105 :: t106 :: t107 :: t108 :: t109 :: t110 :: t111 :: t112 :: t113 :: t114 :: t115 :: []), h59⟩) (
  opsP (xX s 19 wl k false) xg19_1 7 h53.length ([], []) (runK (xX s 19 wl k false) (bodyK s.P Try.f19) xk19_3) ⟨(t0 :: t1 :: t2 :: t3 :: t4 :: t5 :: t6 :: t7 :: t8 :: v44 :: v46 :: v50 :: v52 :: t13 :: t14 :: t15 :: t16 :: t17 :: t18 :: t19 :: t20 :: t21 :: t22 :: t23 :: t24 :: t25 :: t26 :: t27 :: t28 :: t29 :: t30 :: t31 :: t32 :: t33 :: t34 :: t35 :: t36 :: t37 :: t38 :: t39 :: t40 :: t41 :: t42 :: t43 :: t44 :: t45 :: t46 :: t47 :: t48 :: t49 :: t50 :: t51 :: t52 :: t53 :: t54 :: t55 :: t56 :: t57 :: t58 :: t59 :: t60 :: t61 :: t62 :: t63 :: t64 :: t65 :: t66 :: t67 :: t68 :: t69 :: t70 :: t71 :: t72 :: t73 :: t74 :: t75 :: t76 :: t77 :: t78 :: t79 :: t80 :: t81 :: t82 :: t83 :: t84 :: v42 :: t0 :: v42 :: v44 :: v46 :: v48 :: t5 :: v48 :: v50 :: v52 :: t5 :: v54 :: (V.lit (Value.bool false)) :: uu :: uu :: uu :: uu :: t102 :: t103 :: t104 :: t105 :: t106 :: t107 :: t108 :: t109 :: t110 :: t111 :: t112 :: t113 :: t114 :: t115 :: []), h55⟩) (
  opsP (xX s 19 wl k false) xg19_1 4 h53.length ([], []) (runK (xX s 19 wl k false) (bodyK s.P Try.f19) xk19_3) ⟨(t0 :: t1 :: t2 :: t3 :: t4 :: t5 :: t6 :: t7 :: t8 :: v44 :: v46 :: v50 :: v52 :: t13 :: t14 :: t15 :: t16 :: t17 :: t18 :: t19 :: t20 :: t21 :: t22 :: t23 :: t24 :: t25 :: t26 :: t27 :: t28 :: t29 :: t30 :: t31 :: t32 :: t33 :: t34 :: t35 :: t36 :: t37 :: t38 :: t39 :: t40 :: t41 :: t42 :: t43 :: t44 :: t45 :: t46 :: t47 :: t48 :: t49 :: t50 :: t51 :: t52 :: t53 :: t54 :: t55 :: t56 :: t57 :: t58 :: t59 :: t60 :: t61 :: t62 :: t63 :: t64 :: t65 :: t66 :: t67 :: t68 :: t69 :: t70 :: t71 :: t72 :: t73 :: t74 :: t75 :: t76 :: t77 :: t78 :: t79 :: t80 :: t81 :: t82 :: t83 :: t84 :: v42 :: t0 :: v42 :: v44 :: v46 :: v48 :: t5 :: v48 :: v50 :: v52 :: t5 :: v54 :: v54 :: uu :: t99 :: t100 :: t101 :: t102 :: t103 :: t104 :: t105 :: t106 :: t107 :: t108 :: t109 :: t110 :: t111 :: t112 :: t113 :: t114 :: t115 :: []), h55⟩) :=
  (rt_block_eq (go_seq (go_reg0
  (go_op0 rfl rfl (st_id (v := t0) (H := h) (by kernel_rfl)
  (go_op0 rfl rfl (st_bp (by kernel_rfl) fun v42 h43 =>
  (go_op0 rfl rfl (st_id (v := v42) (H := h43) (by kernel_rfl)
  (go_op0 rfl rfl (st_bm (by kernel_rfl) fun v44 h45 =>
  (go_op0 rfl rfl (st_bm (by kernel_rfl) fun v46 h47 =>
  (go_op0 rfl rfl (st_id (v := v44) (H := h47) (by kernel_rfl)
  (go_op0 rfl rfl (st_id (v := v46) (H := h47) (by kernel_rfl)
  (go_end0 (by kernel_rfl)
  (go_seq (go_reg0
  (go_op0 rfl rfl (st_id (v := t5) (H := h47) (by kernel_rfl)
  (go_op0 rfl rfl (st_bp (by kernel_rfl) fun v48 h49 =>
  (go_op0 rfl rfl (st_id (v := v48) (H := h49) (by kernel_rfl)
  (go_op0 rfl rfl (st_bm (by kernel_rfl) fun v50 h51 =>
  (go_op0 rfl rfl (st_bm (by kernel_rfl) fun v52 h53 =>
  (go_op0 rfl rfl (st_id (v := v50) (H := h53) (by kernel_rfl)
  (go_op0 rfl rfl (st_id (v := v52) (H := h53) (by kernel_rfl)
  (go_end0 (by kernel_rfl)
  (go_seq (go_reg0
  (go_op0 rfl rfl (st_id (v := t5) (H := h53) (by kernel_rfl)
  (go_op0 rfl rfl (st_bp (by kernel_rfl) fun v54 h55 =>
  (go_op0 rfl rfl (st_id (v := v54) (H := h55) (by kernel_rfl)
  (go_gdT0 rfl rfl rfl (by kernel_rfl)
  (st_id (v := v44) (H := h55) (by kernel_rfl)
  (go_run0 rfl rfl rfl (by kernel_rfl) (st_id (v := v50) (H := h55) (by kernel_rfl)
  (go_run0 rfl rfl rfl (by kernel_rfl) (st_bm (by kernel_rfl) fun v56 h57 =>
  (go_run0 rfl rfl rfl (by kernel_rfl) (st_bm (by kernel_rfl) fun v58 h59 =>
  (by kernel_rfl))))))))
  (go_skip0 rfl rfl rfl (by kernel_rfl)
  (go_skip0 rfl rfl rfl (by kernel_rfl)
  (go_skip0 rfl rfl rfl (by kernel_rfl)
  (by kernel_rfl))))
  (by kernel_rfl)))))))))))))))))))))))))))))))))))))))))))))
theorem xr19_1 (s : Sys) (K : Out → St → Option (V × Hp)) (k wl : Nat) (rd : Bool) (n n0 : Nat) (t0 t1 t2 t3 t4 t5 t6 t7 t8 t9 t10 t11 t12 t13 t14 t15 t16 t17 t18 t19 t20 t21 t22 t23 t24 t25 t26 t27 t28 t29 t30 t31 t32 t33 t34 t35 t36 t37 t38 t39 t40 t41 t42 t43 t44 t45 t46 t47 t48 t49 t50 t51 t52 t53 t54 t55 t56 t57 t58 t59 t60 t61 t62 t63 t64 t65 t66 t67 t68 t69 t70 t71 t72 t73 t74 t75 t76 t77 t78 t79 t80 t81 t82 t83 t84 t85 t86 t87 t88 t89 t90 t91 t92 t93 t94 t95 t96 t97 t98 t99 t100 t101 t102 t103 t104 t105 t106 t107 t108 t109 t110 t111 t112 t113 t114 t115 : V) (h : Hp) : itX (xX s 19 wl k rd) xl19_1 n0 K (n + 1) ⟨(t0 :: t1 :: t2 :: t3 :: t4 :: t5 :: t6 :: t7 :: t8 :: t9 :: t10 :: t11 :: t12 :: t13 :: t14 :: t15 :: t16 :: t17 :: t18 :: t19 :: t20 :: t21 :: t22 :: t23 :: t24 :: t25 :: t26 :: t27 :: t28 :: t29 :: t30 :: t31 :: t32 :: t33 :: t34 :: t35 :: t36 :: t37 :: t38 :: t39 :: t40 :: t41 :: t42 :: t43 :: t44 :: t45 :: t46 :: t47 :: t48 :: t49 :: t50 :: t51 :: t52 :: t53 :: t54 :: t55 :: t56 :: t57 :: t58 :: t59 :: t60 :: t61 :: t62 :: t63 :: t64 :: t65 :: t66 :: t67 :: t68 :: t69 :: t70 :: t71 :: t72 :: t73 :: t74 :: t75 :: t76 :: t77 :: t78 :: t79 :: t80 :: t81 :: t82 :: t83 :: t84 :: t85 :: t86 :: t87 :: t88 :: t89 :: t90 :: t91 :: t92 :: t93 :: t94 :: t95 :: t96 :: t97 :: t98 :: t99 :: t100 :: t101 :: t102 :: t103 :: t104 :: t105 :: t106 :: t107 :: t108 :: t109 :: t110 :: t111 :: t112 :: t113 :: t114 :: t115 :: []), h⟩ =
  bm (vIndexAddr s.P 22 t0 t6 h) h fun v60 h61 =>
  bm (vFieldAddr s.P 40 v60 1) h61 fun v62 h63 =>
  bm (vLoad s.P 23 v62 h63) h63 fun v64 h65 =>
  bp (opLen s.P 23 v64 h65) fun v66 h67 =>
  bm (vBin s.P .lss 3 t8 v66) h67 fun v68 h69 =>
  cnd v68 (
  bm (vIndexAddr s.P 22 t0 t6 h69) h69 fun v70 h71 =>
  bm (vFieldAddr s.P 40 v70 1) h71 fun v72 h73 =>
  bm (vLoad s.P 23 v72 h73) h73 fun v74 h75 =>
  bm (vIndexAddr s.P 23 v74 t8 h75) h75 fun v76 h77 =>
  bm (vLoad s.P 3 v76 h77) h77 fun v78 h79 =>
  bp (opLen s.P 22 t0 h79) fun v80 h81 =>
  bm (vBin s.P .sub 3 v80 (V.lit (Value.int .i64 1))) h81 fun v82 h83 =>
  bm (vBin s.P .neq 3 v78 v82) h83 fun v84 h85 =>
  cnd v84 (
  bm (vFieldAddr s.P 40 t7 1) h85 fun v86 h87 =>
  stO h85.length v86 (
  bm (vLoad s.P 23 v86 h87) h87 fun v88 h89 =>
  bm (vIndexAddr s.P 22 t0 t6 h89) h89 fun v90 h91 =>
  bm (vFieldAddr s.P 40 v90 1) h91 fun v92 h93 =>
  bm (vLoad s.P 23 v92 h93) h93 fun v94 h95 =>
  bm (vIndexAddr s.P 23 v94 t8 h95) h95 fun v96 h97 =>
  bm (vLoad s.P 3 v96 h97) h97 fun v98 h99 =>
  bp (opBuildSliceC s.P wl 23 1 [(0, v98)] h99) fun v100 h101 =>
  bp (opApp s.P wl 23 23 v88 v100 h101) fun v102 h103 =>
  bm (vFieldAddr s.P 40 t7 1) h103 fun v104 h105 =>
  bs (vStore s.P wl 23 v104 v102 h105) fun h106 =>
  runK (xX s 19 wl k rd) (nextK (xX s 19 wl k rd) xl19_1 n0 K n) xk19_4 .norm ⟨(t0 :: t1 :: t2 :: t3 :: t4 :: t5 :: t6 :: t7 :: t8 :: t9 :: t10 :: t11 :: t12 :: t13 :: t14 :: t15 :: t16 :: t17 :: t18 :: t19 :: t20 :: t21 :: t22 :: t23 :: t24 :: t25 :: t26 :: t27 :: t28 :: t29 :: t30 :: t31 :: t32 :: t33 :: t34 :: t35 :: t36 :: t37 :: t38 :: t39 :: t40 :: t41 :: t42 :: t43 :: t44 :: t45 :: t8 :: t0 :: t6 :: v60 :: v62 :: v64 :: v66 :: v68 :: t54 :: t55 :: t0 :: t6 :: v70 :: v72 :: v74 :: t8 :: v76 :: v78 :: t0 :: v80 :: v82 :: v84 :: v86 :: v88 :: t0 :: t6 :: v90 :: v92 :: v94 :: t8 :: v96 :: v98 :: v100 :: v102 :: v104 :: t81 :: t82 :: t83 :: t84 :: t85 :: t86 :: t87 :: t88 :: t89 :: t90 :: t91 :: t92 :: t93 :: t94 :: t95 :: t96 :: t97 :: t98 :: t99 :: t100 :: t101 :: t102 :: t103 :: t104 :: t105 :: t106 :: t107 :: t108 :: t109 :: t110 :: t111 :: t112 :: t113 :: t114 :: t115 :: []), h106⟩)) (
  runK (xX s 19 wl k rd) (nextK (xX s 19 wl k rd) xl19_1 n0 K n) xk19_4 .norm ⟨(t0 :: t1 :: t2 :: t3 :: t4 :: t5 :: t6 :: t7 :: t8 :: t9 :: t10 :: t11 :: t12 :: t13 :: t14 :: t15 :: t16 :: t17 :: t18 :: t19 :: t20 :: t21 :: t22 :: t23 :: t24 :: t25 :: t26 :: t27 :: t28 :: t29 :: t30 :: t31 :: t32 :: t33 :: t34 :: t35 :: t36 :: t37 :: t38 :: t39 :: t40 :: t41 :: t42 :: t43 :: t44 :: t45 :: t8 :: t0 :: t6 :: v60 :: v62 :: v64 :: v66 :: v68 :: t54 :: t55 :: t0 :: t6 :: v70 :: v72 :: v74 :: t8 :: v76 :: v78 :: t0 :: v80 :: v82 :: v84 :: t68 :: t69 :: t70 :: t71 :: t72 :: t73 :: t74 :: t75 :: t76 :: t77 :: t78 :: t79 :: t80 :: t81 :: t82 :: t83 :: t84 :: t85 :: t86 :: t87 :: t88 :: t89 :: t90 :: t91 :: t92 :: t93 :: t94 :: t95 :: t96 :: t97 :: t98 :: t99 :: t100 :: t101 :: t102 :: t103 :: t104 :: t105 :: t106 :: t107 :: t108 :: t109 :: t110 :: t111 :: t112 :: t113 :: t114 :: t115 :: []), h85⟩)) (
  K (.exit 2) ⟨((V.kill n0 t0) :: (V.kill n0 t1) :: (V.kill n0 t2) :: (V.kill n0 t3) :: (V.kill n0 t4) :: (V.kill n0 t5) :: (V.kill n0 t6) :: (V.kill n0 t7) :: (V.kill n0 t8) :: (V.kill n0 t9) :: (V.kill n0 t10) :: (V.kill n0 t11) :: (V.kill n0 t12) :: (V.kill n0 t13) :: (V.kill n0 t14) :: (V.kill n0 t15) :: (V.kill n0 t16) :: (V.kill n0 t17) :: (V.kill n0 t18) :: (V.kill n0 t19) :: (V.kill n0 t20) :: (V.kill n0 t21) :: (V.kill n0 t22) :: (V.kill n0 t23) :: (V.kill n0 t24) :: (V.kill n0 t25) :: (V.kill n0 t26) :: (V.kill n0 t27) :: (V.kill n0 t28) :: (V.kill n0 t29) :: (V.kill n0 t30) :: (V.kill n0 t31) :: (V.kill n0 t32) :: (V.kill n0 t33) :: (V.kill n0 t34) :: (V.kill n0 t35) :: (V.kill n0 t36) :: (V.kill n0 t37) :: (V.kill n0 t38) :: (V.kill n0 t39) :: (V.kill n0 t40) :: (V.kill n0 t41) :: (V.kill n0 t42) :: (V.kill n0 t43) :: (V.kill n0 t44) :: (V.kill n0 t45) :: .junk :: .junk :: .junk :: .junk :: .junk :: .junk :: .junk :: .junk :: .junk :: .junk :: .junk :: .junk :: .junk :: .junk :: .junk :: .junk :: .junk :: .junk :: .junk :: .junk :: .junk :: .junk :: .junk :: .junk :: .junk :: .junk :: .junk :: .junk :: .junk :: .junk :: .junk :: .junk :: .junk :: .junk :: .junk :: (V.kill n0 t81) :: (V.kill n0 t82) :: (V.kill n0 t83) :: (V.kill n0 t84) :: (V.kill n0 t85) :: (V.kill n0 t86) :: (V.kill n0 t87) :: (V.kill n0 t88) :: (V.kill n0 t89) :: (V.kill n0 t90) :: (V.kill n0 t91) :: (V.kill n0 t92) :: (V.kill n0 t93) :: (V.kill n0 t94) :: (V.kill n0 t95) :: (V.kill n0 t96) :: (V.kill n0 t97) :: (V.kill n0 t98) :: (V.kill n0 t99) :: (V.kill n0 t100) :: (V.kill n0 t101) :: (V.kill n0 t102) :: (V.kill n0 t103) :: (V.kill n0 t104) :: (V.kill n0 t105) :: (V.kill n0 t106) :: (V.kill n0 t107) :: (V.kill n0 t108) :: (V.kill n0 t109) :: (V.kill n0 t110) :: (V.kill n0 t111) :: (V.kill n0 t112) :: (V.kill n0 t113) :: (V.kill n0 t114) :: (V.kill n0 t115) :: []), cutH n0 h69⟩) :=
  itX_step (go_seq (go_seq (go_reg0
  (go_op0 rfl rfl (st_id (v := t8) (H := h) (by kernel_rfl)
  (go_op0 rfl rfl (st_id (v := t0) (H := h) (by kernel_rfl)
  (go_op0 rfl rfl (st_id (v := t6) (H := h) (by kernel_rfl)
  (go_op0 rfl rfl (st_bm (by kernel_rfl) fun v60 h61 =>
  (go_op0 rfl rfl (st_bm (by kernel_rfl) fun v62 h63 =>
  (go_op0 rfl rfl (st_bm (by kernel_rfl) fun v64 h65 =>
  (go_op0 rfl rfl (st_bp (by kernel_rfl) fun v66 h67 =>
  (go_op0 rfl rfl (st_bm (by kernel_rfl) fun v68 h69 =>
  (go_end0 (by kernel_rfl)
  (go_cond (by kernel_rfl)
  (go_skip (go_seq (go_block (go_seq (go_reg0
  (go_op0 rfl rfl (st_id (v := t0) (H := h69) (by kernel_rfl)
  (go_op0 rfl rfl (st_id (v := t6) (H := h69) (by kernel_rfl)
  (go_op0 rfl rfl (st_bm (by kernel_rfl) fun v70 h71 =>
  (go_op0 rfl rfl (st_bm (by kernel_rfl) fun v72 h73 =>
  (go_op0 rfl rfl (st_bm (by kernel_rfl) fun v74 h75 =>
  (go_op0 rfl rfl (st_id (v := t8) (H := h75) (by kernel_rfl)
  (go_op0 rfl rfl (st_bm (by kernel_rfl) fun v76 h77 =>
  (go_op0 rfl rfl (st_bm (by kernel_rfl) fun v78 h79 =>
  (go_op0 rfl rfl (st_id (v := t0) (H := h79) (by kernel_rfl)
  (go_op0 rfl rfl (st_bp (by kernel_rfl) fun v80 h81 =>
  (go_op0 rfl rfl (st_bm (by kernel_rfl) fun v82 h83 =>
  (go_op0 rfl rfl (st_bm (by kernel_rfl) fun v84 h85 =>
  (go_end0 (by kernel_rfl)
  (go_cond (by kernel_rfl)
  (go_reg1 xo19_14r
  (go_op1 xo19_14 xo19_14a rfl rfl rfl (st_no (by kernel_rfl) (st_bm (by kernel_rfl) fun v86 h87 =>
  (go_op1 xo19_14 xo19_14a rfl rfl rfl (st_yes (by kernel_rfl) (st_bm (by kernel_rfl) fun v88 h89 =>
  (go_op1 xo19_14 xo19_14a rfl rfl rfl (st_no (by kernel_rfl) (st_id (v := t0) (H := h89) (by kernel_rfl)
  (go_op1 xo19_14 xo19_14a rfl rfl rfl (st_no (by kernel_rfl) (st_id (v := t6) (H := h89) (by kernel_rfl)
  (go_op1 xo19_14 xo19_14a rfl rfl rfl (st_no (by kernel_rfl) (st_bm (by kernel_rfl) fun v90 h91 =>
  (go_op1 xo19_14 xo19_14a rfl rfl rfl (st_no (by kernel_rfl) (st_bm (by kernel_rfl) fun v92 h93 =>
  (go_op1 xo19_14 xo19_14a rfl rfl rfl (st_no (by kernel_rfl) (st_bm (by kernel_rfl) fun v94 h95 =>
  (go_op1 xo19_14 xo19_14a rfl rfl rfl (st_no (by kernel_rfl) (st_id (v := t8) (H := h95) (by kernel_rfl)
  (go_op1 xo19_14 xo19_14a rfl rfl rfl (st_no (by kernel_rfl) (st_bm (by kernel_rfl) fun v96 h97 =>
  (go_op1 xo19_14 xo19_14a rfl rfl rfl (st_no (by kernel_rfl) (st_bm (by kernel_rfl) fun v98 h99 =>
  (go_op1 xo19_14 xo19_14a rfl rfl rfl (st_no (by kernel_rfl) (st_bp (by kernel_rfl) fun v100 h101 =>
  (go_op1 xo19_14 xo19_14a rfl rfl rfl (st_no (by kernel_rfl) (st_bp (by kernel_rfl) fun v102 h103 =>
  (go_op1 xo19_14 xo19_14a rfl rfl rfl (st_no (by kernel_rfl) (st_bm (by kernel_rfl) fun v104 h105 =>
  (go_op1 xo19_14 xo19_14a rfl rfl rfl (st_no (by kernel_rfl) (st_bs (by kernel_rfl) fun h106 =>
  (go_end1 xo19_14 (by kernel_rfl) xo19_14a
  (by kernel_rfl)))))))))))))))))))))))))))))))))))))))))))))
  (go_skip (by kernel_rfl)))))))))))))))))))))))))))))))))
  (go_exit (rt_seq_exit (by kernel_rfl))))))))))))))))))))))))
theorem xj19_4 (s : Sys) (K : Out → St → Option (V × Hp)) (k wl : Nat) (rd : Bool) (n n0 : Nat) (t0 t1 t2 t3 t4 t5 t6 t7 t8 t9 t10 t11 t12 t13 t14 t15 t16 t17 t18 t19 t20 t21 t22 t23 t24 t25 t26 t27 t28 t29 t30 t31 t32 t33 t34 t35 t36 t37 t38 t39 t40 t41 t42 t43 t44 t45 t46 t47 t48 t49 t50 t51 t52 t53 t54 t55 t56 t57 t58 t59 t60 t61 t62 t63 t64 t65 t66 t67 t68 t69 t70 t71 t72 t73 t74 t75 t76 t77 t78 t79 t80 t81 t82 t83 t84 t85 t86 t87 t88 t89 t90 t91 t92 t93 t94 t95 t96 t97 t98 t99 t100 t101 t102 t103 t104 t105 t106 t107 t108 t109 t110 t111 t112 t113 t114 t115 : V) (h : Hp) : runK (xX s 19 wl k rd) (nextK (xX s 19 wl k rd) xl19_0 n0 K n) xk19_2 (.exit 2) ⟨(t0 :: t1 :: t2 :: t3 :: t4 :: t5 :: t6 :: t7 :: t8 :: t9 :: t10 :: t11 :: t12 :: t13 :: t14 :: t15 :: t16 :: t17 :: t18 :: t19 :: t20 :: t21 :: t22 :: t23 :: t24 :: t25 :: t26 :: t27 :: t28 :: t29 :: t30 :: t31 :: t32 :: t33 :: t34 :: t35 :: t36 :: t37 :: t38 :: t39 :: t40 :: t41 :: t42 :: t43 :: t44 :: t45 :: t46 :: t47 :: t48 :: t49 :: t50 :: t51 :: t52 :: t53 :: t54 :: t55 :: t56 :: t57 :: t58 :: t59 :: t60 :: t61 :: t62 :: t63 :: t64 :: t65 :: t66 :: t67 :: t68 :: t69 :: t70 :: t71 :: t72 :: t73 :: t74 :: t75 :: t76 :: t77 :: t78 :: t79 :: t80 :: t81 :: t82 :: t83 :: t84 :: t85 :: t86 :: t87 :: t88 :: t89 :: t90 :: t91 :: t92 :: t93 :: t94 :: t95 :: t96 :: t97 :: t98 :: t99 :: t100 :: t101 :: t102 :: t103 :: t104 :: t105 :: t106 :: t107 :: t108 :: t109 :: t110 :: t111 :: t112 :: t113 :: t114 :: t115 :: []), h⟩ =
  bm (vLoad s.P 40 t7 h) h fun v107 h108 =>
  bp (vBuildSlice s.P wl 22 1 [(0, v107)] h108) fun v109 h110 =>
  bp (opApp s.P wl 22 22 t5 v109 h110) fun v111 h112 =>
  bm (vBin s.P .add 3 t6 (V.lit (Value.int .i64 1))) h112 fun v113 h114 =>
  itX (xX s 19 wl k rd) xl19_0 n0 K n ⟨((V.kill n0 t0) :: (V.kill n0 t1) :: (V.kill n0 t2) :: (V.kill n0 t3) :: (V.kill n0 t4) :: (V.kill n0 v111) :: (V.kill n0 v113) :: (V.kill n0 t7) :: (V.kill n0 t8) :: (V.kill n0 t9) :: (V.kill n0 t10) :: (V.kill n0 t11) :: (V.kill n0 t12) :: (V.kill n0 t13) :: (V.kill n0 t14) :: (V.kill n0 t15) :: (V.kill n0 t16) :: (V.kill n0 t17) :: (V.kill n0 t18) :: (V.kill n0 t19) :: (V.kill n0 t20) :: (V.kill n0 t21) :: (V.kill n0 t22) :: (V.kill n0 t23) :: (V.kill n0 t24) :: (V.kill n0 t25) :: (V.kill n0 t26) :: (V.kill n0 t27) :: (V.kill n0 t28) :: (V.kill n0 t29) :: (V.kill n0 t30) :: (V.kill n0 t31) :: (V.kill n0 t32) :: .junk :: .junk :: .junk :: .junk :: .junk :: .junk :: .junk :: .junk :: .junk :: .junk :: .junk :: .junk :: .junk :: .junk :: .junk :: .junk :: .junk :: .junk :: .junk :: .junk :: .junk :: .junk :: .junk :: .junk :: .junk :: .junk :: .junk :: .junk :: .junk :: .junk :: .junk :: .junk :: .junk :: .junk :: .junk :: .junk :: .junk :: .junk :: .junk :: .junk :: .junk :: .junk :: .junk :: .junk :: .junk :: .junk :: .junk :: .junk :: .junk :: .junk :: .junk :: .junk :: (V.kill n0 t85) :: (V.kill n0 t86) :: (V.kill n0 t87) :: (V.kill n0 t88) :: (V.kill n0 t89) :: (V.kill n0 t90) :: (V.kill n0 t91) :: (V.kill n0 t92) :: (V.kill n0 t93) :: (V.kill n0 t94) :: (V.kill n0 t95) :: (V.kill n0 t96) :: (V.kill n0 t97) :: (V.kill n0 t98) :: (V.kill n0 t99) :: (V.kill n0 t100) :: (V.kill n0 t101) :: (V.kill n0 t102) :: (V.kill n0 t103) :: (V.kill n0 t104) :: (V.kill n0 t105) :: (V.kill n0 t106) :: (V.kill n0 t107) :: (V.kill n0 t108) :: (V.kill n0 t109) :: (V.kill n0 t110) :: (V.kill n0 t111) :: (V.kill n0 t112) :: (V.kill n0 t113) :: (V.kill n0 t114) :: (V.kill n0 t115) :: []), cutH n0 h114⟩ :=
  (rt_block_eq (go_reg0
  (go_op0 rfl rfl (st_id (v := t5) (H := h) (by kernel_rfl)
  (go_op0 rfl rfl (st_bm (by kernel_rfl) fun v107 h108 =>
  (go_op0 rfl rfl (st_bp (by kernel_rfl) fun v109 h110 =>
  (go_op0 rfl rfl (st_bp (by kernel_rfl) fun v111 h112 =>
  (go_op0 rfl rfl (st_id (v := v111) (H := h112) (by kernel_rfl)
  (go_end0 (by kernel_rfl)
  (rt_block_norm (go_reg0
  (go_op0 rfl rfl (st_id (v := t6) (H := h112) (by kernel_rfl)
  (go_op0 rfl rfl (st_bm (by kernel_rfl) fun v113 h114 =>
  (go_op0 rfl rfl (st_id (v := v113) (H := h114) (by kernel_rfl)
  (go_end0 (by kernel_rfl)
  (by kernel_rfl)))))))))))))))))))))))
theorem xm19_5 (s : Sys) (k wl : Nat) (m0 : Nat) (ac : List Nat × List Nat) (t0 t1 t2 t3 t4 t5 t6 t7 t8 t9 t10 t11 t12 t13 t14 t15 t16 t17 t18 t19 t20 t21 t22 t23 t24 t25 t26 t27 t28 t29 t30 t31 t32 t33 t34 t35 t36 t37 t38 t39 t40 t41 t42 t43 t44 t45 t46 t47 t48 t49 t50 t51 t52 t53 t54 t55 t56 t57 t58 t59 t60 t61 t62 t63 t64 t65 t66 t67 t68 t69 t70 t71 t72 t73 t74 t75 t76 t77 t78 t79 t80 t81 t82 t83 t84 t85 t86 t87 t88 t89 t90 t91 t92 t93 t94 t95 t96 t97 t98 t99 t100 t101 t102 t103 t104 t105 t106 t107 t108 t109 t110 t111 t112 t113 t114 t115 : V) (h : Hp) : opsP (xX s 19 wl k false) xg19_1 7 m0 ac (runK (xX s 19 wl k false) (bodyK s.P Try.f19) xk19_3) ⟨(t0 :: t1 :: t2 :: t3 :: t4 :: t5 :: t6 :: t7 :: t8 :: t9 :: t10 :: t11 :: t12 :: t13 :: t14 :: t15 :: t16 :: t17 :: t18 :: t19 :: t20 :: t21 :: t22 :: t23 :: t24 :: t25 :: t26 :: t27 :: t28 :: t29 :: t30 :: t31 :: t32 :: t33 :: t34 :: t35 :: t36 :: t37 :: t38 :: t39 :: t40 :: t41 :: t42 :: t43 :: t44 :: t45 :: t46 :: t47 :: t48 :: t49 :: t50 :: t51 :: t52 :: t53 :: t54 :: t55 :: t56 :: t57 :: t58 :: t59 :: t60 :: t61 :: t62 :: t63 :: t64 :: t65 :: t66 :: t67 :: t68 :: t69 :: t70 :: t71 :: t72 :: t73 :: t74 :: t75 :: t76 :: t77 :: t78 :: t79 :: t80 :: t81 :: t82 :: t83 :: t84 :: t85 :: t86 :: t87 :: t88 :: t89 :: t90 :: t91 :: t92 :: t93 :: t94 :: t95 :: t96 :: t97 :: t98 :: t99 :: t100 :: t101 :: t102 :: t103 :: t104 :: t105 :: t106 :: t107 :: t108 :: t109 :: t110 :: t111 :: t112 :: t113 :: t114 :: t115 :: []), h⟩ =
  bm (vPick t97 t101 (V.lit (Value.bool false))) h fun v115 h116 =>
  gd v115 (
  bp (opLen s.P 22 t0 h116) fun v117 h118 =>
  bm (vBin s.P .sub 3 v117 (V.lit (Value.int .i64 1))) h118 fun v119 h120 =>
  bm (vIndexAddr s.P 22 t0 v119 h120) h120 fun v121 h122 =>
  bm (vFieldAddr s.P 40 v121 0) h122 fun v123 h124 =>
  bm (vLoad s.P 3 v123 h124) h124 fun v125 h126 =>
  bm (vBin s.P .add 3 t12 v125) h126 fun v127 h128 =>
  bm (vBin s.P .eql 3 t10 v127) h128 fun v129 h130 =>
  opsP (xX s 19 wl k false) xg19_1 20 m0 ac (runK (xX s 19 wl k false) (bodyK s.P Try.f19) xk19_3) ⟨(t0 :: t1 :: t2 :: t3 :: t4 :: t5 :: t6 :: t7 :: t8 :: t9 :: t10 :: t11 :: t12 :: t13 :: t14 :: t15 :: t16 :: t17 :: t18 :: t19 :: t20 :: t21 :: t22 :: t23 :: t24 :: t25 :: t26 :: t27 :: t28 :: t29 :: t30 :: t31 :: t32 :: t33 :: t34 :: t35 :: t36 :: t37 :: t38 :: t39 :: t40 :: t41 :: t42 :: t43 :: t44 :: t45 :: t46 :: t47 :: t48 :: t49 :: t50 :: t51 :: t52 :: t53 :: t54 :: t55 :: t56 :: t57 :: t58 :: t59 :: t60 :: t61 :: t62 :: t63 :: t64 :: t65 :: t66 :: t67 :: t68 :: t69 :: t70 :: t71 :: t72 :: t73 :: t74 :: t75 :: t76 :: t77 :: t78 :: t79 :: t80 :: t81 :: t82 :: t83 :: t84 :: t85 :: t86 :: t87 :: t88 :: t89 :: t90 :: t91 :: t92 :: t93 :: t94 :: t95 :: t96 :: t97 :: t98 :: t99 :: t100 :: t101 :: v115 :: (V.lit (Value.bool true)) :: t10 :: t12 :: t0 :: t0 :: v117 :: v119 :: v121 :: v123 :: v125 :: v127 :: v129 :: t115 :: []), h130⟩) (
  opsP (xX s 19 wl k false) xg19_1 20 m0 ac (runK (xX s 19 wl k false) (bodyK s.P Try.f19) xk19_3) ⟨(t0 :: t1 :: t2 :: t3 :: t4 :: t5 :: t6 :: t7 :: t8 :: t9 :: t10 :: t11 :: t12 :: t13 :: t14 :: t15 :: t16 :: t17 :: t18 :: t19 :: t20 :: t21 :: t22 :: t23 :: t24 :: t25 :: t26 :: t27 :: t28 :: t29 :: t30 :: t31 :: t32 :: t33 :: t34 :: t35 :: t36 :: t37 :: t38 :: t39 :: t40 :: t41 :: t42 :: t43 :: t44 :: t45 :: t46 :: t47 :: t48 :: t49 :: t50 :: t51 :: t52 :: t53 :: t54 :: t55 :: t56 :: t57 :: t58 :: t59 :: t60 :: t61 :: t62 :: t63 :: t64 :: t65 :: t66 :: t67 :: t68 :: t69 :: t70 :: t71 :: t72 :: t73 :: t74 :: t75 :: t76 :: t77 :: t78 :: t79 :: t80 :: t81 :: t82 :: t83 :: t84 :: t85 :: t86 :: t87 :: t88 :: t89 :: t90 :: t91 :: t92 :: t93 :: t94 :: t95 :: t96 :: t97 :: t98 :: t99 :: t100 :: t101 :: v115 :: (V.lit (Value.bool false)) :: uu :: uu :: uu :: uu :: uu :: uu :: uu :: uu :: uu :: uu :: uu :: t115 :: []), h116⟩) (
  opsP (xX s 19 wl k false) xg19_1 10 m0 ac (runK (xX s 19 wl k false) (bodyK s.P Try.f19) xk19_3) ⟨(t0 :: t1 :: t2 :: t3 :: t4 :: t5 :: t6 :: t7 :: t8 :: t9 :: t10 :: t11 :: t12 :: t13 :: t14 :: t15 :: t16 :: t17 :: t18 :: t19 :: t20 :: t21 :: t22 :: t23 :: t24 :: t25 :: t26 :: t27 :: t28 :: t29 :: t30 :: t31 :: t32 :: t33 :: t34 :: t35 :: t36 :: t37 :: t38 :: t39 :: t40 :: t41 :: t42 :: t43 :: t44 :: t45 :: t46 :: t47 :: t48 :: t49 :: t50 :: t51 :: t52 :: t53 :: t54 :: t55 :: t56 :: t57 :: t58 :: t59 :: t60 :: t61 :: t62 :: t63 :: t64 :: t65 :: t66 :: t67 :: t68 :: t69 :: t70 :: t71 :: t72 :: t73 :: t74 :: t75 :: t76 :: t77 :: t78 :: t79 :: t80 :: t81 :: t82 :: t83 :: t84 :: t85 :: t86 :: t87 :: t88 :: t89 :: t90 :: t91 :: t92 :: t93 :: t94 :: t95 :: t96 :: t97 :: t98 :: t99 :: t100 :: t101 :: v115 :: v115 :: uu :: t105 :: t106 :: t107 :: t108 :: t109 :: t110 :: t111 :: t112 :: t113 :: t114 :: t115 :: []), h116⟩) :=
  (go_op0 rfl rfl (st_bm (by kernel_rfl) fun v115 h116 =>
  (go_op0 rfl rfl (st_id (v := v115) (H := h116) (by kernel_rfl)
  (go_gdT0 rfl rfl rfl (by kernel_rfl)
  (st_id (v := t10) (H := h116) (by kernel_rfl)
  (go_run0 rfl rfl rfl (by kernel_rfl) (st_id (v := t12) (H := h116) (by kernel_rfl)
  (go_run0 rfl rfl rfl (by kernel_rfl) (st_id (v := t0) (H := h116) (by kernel_rfl)
  (go_run0 rfl rfl rfl (by kernel_rfl) (st_id (v := t0) (H := h116) (by kernel_rfl)
  (go_run0 rfl rfl rfl (by kernel_rfl) (st_bp (by kernel_rfl) fun v117 h118 =>
  (go_run0 rfl rfl rfl (by kernel_rfl) (st_bm (by kernel_rfl) fun v119 h120 =>
  (go_run0 rfl rfl rfl (by kernel_rfl) (st_bm (by kernel_rfl) fun v121 h122 =>
  (go_run0 rfl rfl rfl (by kernel_rfl) (st_bm (by kernel_rfl) fun v123 h124 =>
  (go_run0 rfl rfl rfl (by kernel_rfl) (st_bm (by kernel_rfl) fun v125 h126 =>
  (go_run0 rfl rfl rfl (by kernel_rfl) (st_bm (by kernel_rfl) fun v127 h128 =>
  (go_run0 rfl rfl rfl (by kernel_rfl) (st_bm (by kernel_rfl) fun v129 h130 =>
  (by kernel_rfl))))))))))))))))))))))
  (go_skip0 rfl rfl rfl (by kernel_rfl)
  (go_skip0 rfl rfl rfl (by kernel_rfl)
  (go_skip0 rfl rfl rfl (by kernel_rfl)
  (go_skip0 rfl rfl rfl (by kernel_rfl)
  (go_skip0 rfl rfl rfl (by kernel_rfl)
  (go_skip0 rfl rfl rfl (by kernel_rfl)
  (go_skip0 rfl rfl rfl (by kernel_rfl)
  (go_skip0 rfl rfl rfl (by kernel_rfl)
  (go_skip0 rfl rfl rfl (by kernel_rfl)
  (go_skip0 rfl rfl rfl (by kernel_rfl)
  (by kernel_rfl)))))))))))
  (by kernel_rfl))))))
theorem xj19_6 (s : Sys) (K : Out → St → Option (V × Hp)) (k wl : Nat) (rd : Bool) (n n0 : Nat) (t0 t1 t2 t3 t4 t5 t6 t7 t8 t9 t10 t11 t12 t13 t14 t15 t16 t17 t18 t19 t20 t21 t22 t23 t24 t25 t26 t27 t28 t29 t30 t31 t32 t33 t34 t35 t36 t37 t38 t39 t40 t41 t42 t43 t44 t45 t46 t47 t48 t49 t50 t51 t52 t53 t54 t55 t56 t57 t58 t59 t60 t61 t62 t63 t64 t65 t66 t67 t68 t69 t70 t71 t72 t73 t74 t75 t76 t77 t78 t79 t80 t81 t82 t83 t84 t85 t86 t87 t88 t89 t90 t91 t92 t93 t94 t95 t96 t97 t98 t99 t100 t101 t102 t103 t104 t105 t106 t107 t108 t109 t110 t111 t112 t113 t114 t115 : V) (h : Hp) : runK (xX s 19 wl k rd) (nextK (xX s 19 wl k rd) xl19_1 n0 K n) xk19_4 .norm ⟨(t0 :: t1 :: t2 :: t3 :: t4 :: t5 :: t6 :: t7 :: t8 :: t9 :: t10 :: t11 :: t12 :: t13 :: t14 :: t15 :: t16 :: t17 :: t18 :: t19 :: t20 :: t21 :: t22 :: t23 :: t24 :: t25 :: t26 :: t27 :: t28 :: t29 :: t30 :: t31 :: t32 :: t33 :: t34 :: t35 :: t36 :: t37 :: t38 :: t39 :: t40 :: t41 :: t42 :: t43 :: t44 :: t45 :: t46 :: t47 :: t48 :: t49 :: t50 :: t51 :: t52 :: t53 :: t54 :: t55 :: t56 :: t57 :: t58 :: t59 :: t60 :: t61 :: t62 :: t63 :: t64 :: t65 :: t66 :: t67 :: t68 :: t69 :: t70 :: t71 :: t72 :: t73 :: t74 :: t75 :: t76 :: t77 :: t78 :: t79 :: t80 :: t81 :: t82 :: t83 :: t84 :: t85 :: t86 :: t87 :: t88 :: t89 :: t90 :: t91 :: t92 :: t93 :: t94 :: t95 :: t96 :: t97 :: t98 :: t99 :: t100 :: t101 :: t102 :: t103 :: t104 :: t105 :: t106 :: t107 :: t108 :: t109 :: t110 :: t111 :: t112 :: t113 :: t114 :: t115 :: []), h⟩ =
  bm (vBin s.P .add 3 t8 (V.lit (Value.int .i64 1))) h fun v131 h132 =>
  itX (xX s 19 wl k rd) xl19_1 n0 K n ⟨((V.kill n0 t0) :: (V.kill n0 t1) :: (V.kill n0 t2) :: (V.kill n0 t3) :: (V.kill n0 t4) :: (V.kill n0 t5) :: (V.kill n0 t6) :: (V.kill n0 t7) :: (V.kill n0 v131) :: (V.kill n0 t9) :: (V.kill n0 t10) :: (V.kill n0 t11) :: (V.kill n0 t12) :: (V.kill n0 t13) :: (V.kill n0 t14) :: (V.kill n0 t15) :: (V.kill n0 t16) :: (V.kill n0 t17) :: (V.kill n0 t18) :: (V.kill n0 t19) :: (V.kill n0 t20) :: (V.kill n0 t21) :: (V.kill n0 t22) :: (V.kill n0 t23) :: (V.kill n0 t24) :: (V.kill n0 t25) :: (V.kill n0 t26) :: (V.kill n0 t27) :: (V.kill n0 t28) :: (V.kill n0 t29) :: (V.kill n0 t30) :: (V.kill n0 t31) :: (V.kill n0 t32) :: (V.kill n0 t33) :: (V.kill n0 t34) :: (V.kill n0 t35) :: (V.kill n0 t36) :: (V.kill n0 t37) :: (V.kill n0 t38) :: (V.kill n0 t39) :: (V.kill n0 t40) :: (V.kill n0 t41) :: (V.kill n0 t42) :: (V.kill n0 t43) :: (V.kill n0 t44) :: (V.kill n0 t45) :: .junk :: .junk :: .junk :: .junk :: .junk :: .junk :: .junk :: .junk :: .junk :: .junk :: .junk :: .junk :: .junk :: .junk :: .junk :: .junk :: .junk :: .junk :: .junk :: .junk :: .junk :: .junk :: .junk :: .junk :: .junk :: .junk :: .junk :: .junk :: .junk :: .junk :: .junk :: .junk :: .junk :: .junk :: .junk :: (V.kill n0 t81) :: (V.kill n0 t82) :: (V.kill n0 t83) :: (V.kill n0 t84) :: (V.kill n0 t85) :: (V.kill n0 t86) :: (V.kill n0 t87) :: (V.kill n0 t88) :: (V.kill n0 t89) :: (V.kill n0 t90) :: (V.kill n0 t91) :: (V.kill n0 t92) :: (V.kill n0 t93) :: (V.kill n0 t94) :: (V.kill n0 t95) :: (V.kill n0 t96) :: (V.kill n0 t97) :: (V.kill n0 t98) :: (V.kill n0 t99) :: (V.kill n0 t100) :: (V.kill n0 t101) :: (V.kill n0 t102) :: (V.kill n0 t103) :: (V.kill n0 t104) :: (V.kill n0 t105) :: (V.kill n0 t106) :: (V.kill n0 t107) :: (V.kill n0 t108) :: (V.kill n0 t109) :: (V.kill n0 t110) :: (V.kill n0 t111) :: (V.kill n0 t112) :: (V.kill n0 t113) :: (V.kill n0 t114) :: (V.kill n0 t115) :: []), cutH n0 h132⟩ :=
  (rt_block_norm (go_reg0
  (go_op0 rfl rfl (st_id (v := t8) (H := h) (by kernel_rfl)
  (go_op0 rfl rfl (st_bm (by kernel_rfl) fun v131 h132 =>
  (go_op0 rfl rfl (st_id (v := v131) (H := h132) (by kernel_rfl)
  (go_end0 (by kernel_rfl)
  (by kernel_rfl))))))))))
theorem xm19_7 (s : Sys) (k wl : Nat) (m0 : Nat) (ac : List Nat × List Nat) (t0 t1 t2 t3 t4 t5 t6 t7 t8 t9 t10 t11 t12 t13 t14 t15 t16 t17 t18 t19 t20 t21 t22 t23 t24 t25 t26 t27 t28 t29 t30 t31 t32 t33 t34 t35 t36 t37 t38 t39 t40 t41 t42 t43 t44 t45 t46 t47 t48 t49 t50 t51 t52 t53 t54 t55 t56 t57 t58 t59 t60 t61 t62 t63 t64 t65 t66 t67 t68 t69 t70 t71 t72 t73 t74 t75 t76 t77 t78 t79 t80 t81 t82 t83 t84 t85 t86 t87 t88 t89 t90 t91 t92 t93 t94 t95 t96 t97 t98 t99 t100 t101 t102 t103 t104 t105 t106 t107 t108 t109 t110 t111 t112 t113 t114 t115 : V) (h : Hp) : opsP (xX s 19 wl k false) xg19_1 20 m0 ac (runK (xX s 19 wl k false) (bodyK s.P Try.f19) xk19_3) ⟨(t0 :: t1 :: t2 :: t3 :: t4 :: t5 :: t6 :: t7 :: t8 :: t9 :: t10 :: t11 :: t12 :: t13 :: t14 :: t15 :: t16 :: t17 :: t18 :: t19 :: t20 :: t21 :: t22 :: t23 :: t24 :: t25 :: t26 :: t27 :: t28 :: t29 :: t30 :: t31 :: t32 :: t33 :: t34 :: t35 :: t36 :: t37 :: t38 :: t39 :: t40 :: t41 :: t42 :: t43 :: t44 :: t45 :: t46 :: t47 :: t48 :: t49 :: t50 :: t51 :: t52 :: t53 :: t54 :: t55 :: t56 :: t57 :: t58 :: t59 :: t60 :: t61 :: t62 :: t63 :: t64 :: t65 :: t66 :: t67 :: t68 :: t69 :: t70 :: t71 :: t72 :: t73 :: t74 :: t75 :: t76 :: t77 :: t78 :: t79 :: t80 :: t81 :: t82 :: t83 :: t84 :: t85 :: t86 :: t87 :: t88 :: t89 :: t90 :: t91 :: t92 :: t93 :: t94 :: t95 :: t96 :: t97 :: t98 :: t99 :: t100 :: t101 :: t102 :: t103 :: t104 :: t105 :: t106 :: t107 :: t108 :: t109 :: t110 :: t111 :: t112 :: t113 :: t114 :: t115 :: []), h⟩ =
  bm (vPick t103 t114 (V.lit (Value.bool false))) h fun v133 h134 =>
  some (v133, h134) :=
  (go_op0 rfl rfl (st_bm (by kernel_rfl) fun v133 h134 =>
  (go_op0 rfl rfl (st_id (v := v133) (H := h134) (by kernel_rfl)
  (go_end0 (by kernel_rfl)
  (go_ret (by kernel_rfl)))))))
theorem xk19_0_ret (cx : Cx) (K : Out → St → Option (V × Hp)) (s : St) : runK cx K xk19_0 .ret s = K .ret s := by kernel_rfl
theorem xk19_1_ret (cx : Cx) (K : Out → St → Option (V × Hp)) (s : St) : runK cx K xk19_1 .ret s = K .ret s := by kernel_rfl
theorem xk19_2_ret (cx : Cx) (K : Out → St → Option (V × Hp)) (s : St) : runK cx K xk19_2 .ret s = K .ret s := by kernel_rfl
theorem xk19_3_ret (cx : Cx) (K : Out → St → Option (V × Hp)) (s : St) : runK cx K xk19_3 .ret s = K .ret s := by kernel_rfl
theorem xk19_4_ret (cx : Cx) (K : Out → St → Option (V × Hp)) (s : St) : runK cx K xk19_4 .ret s = K .ret s := by kernel_rfl
-- names: xb19, xz19, xm19_0, xm19_1, xm19_2, xr19_0, xj19_3, xr19_1, xj19_4, xm19_5, xj19_6, xm19_7, xk19_0_ret, xk19_1_ret, xk19_2_ret, xk19_3_ret, xk19_4_ret
end Go.Ab
