/- The program's code, point by point: printed by gen.py. -/
import Derived.Test.YthnifkacfonhgaaR2Seat
set_option linter.unusedVariables false
set_option linter.unusedSimpArgs false
set_option maxRecDepth 100000
set_option linter.unusedVariables false
namespace Go.Ab
open Go.Proofs
/-! 16 poacher/poacherlaw16.EventMissed: 0 calls, 1 who, 2 w, 3 all, 4 calls, 5 who, 6 w, 7 all, 9 up, 10 few, 11 c, 12 m, 13 _, 14 at, 15 f, 16 i, 17 _, 18 g -/
noncomputable def xg16_0 : Code := codeAt (bodyOf Try.f16) [1, 1, 1, 0, 0]
noncomputable def xk16_0 : List Fr := [.seq (codeAt (bodyOf Try.f16) [1, 1, 1, 0, 1]), .seq (codeAt (bodyOf Try.f16) [1, 1, 1, 1])]
noncomputable def xg16_1 : Code := codeAt (bodyOf Try.f16) [1, 1, 1, 1, 1, 1, 0, 0]
noncomputable def xk16_1 : List Fr := [.seq (codeAt (bodyOf Try.f16) [1, 1, 1, 1, 1, 1, 0, 1]), .seq (codeAt (bodyOf Try.f16) [1, 1, 1, 1, 1, 1, 1])]
noncomputable def xk16_2 : List Fr := [.seq (codeAt (bodyOf Try.f16) [1, 1, 1, 1, 1, 1, 1, 1, 1])]
noncomputable def xl16_0 : Code := codeAt (bodyOf Try.f16) [1, 1, 1, 1, 1, 1, 1, 1, 1, 0, 1, 0, 0]
noncomputable def xk16_3 : List Fr := [.block 0, .seq (codeAt (bodyOf Try.f16) [1, 1, 1, 1, 1, 1, 1, 1, 1, 1])]
noncomputable def xg16_2 : Code := codeAt (bodyOf Try.f16) [1, 1, 1, 1, 1, 1, 1, 1, 1, 1, 0]
noncomputable def xg16_3 : Code := codeAt (bodyOf Try.f16) [1, 1, 1, 1, 1, 1, 1, 1, 1, 1, 1, 0]
noncomputable def xk16_4 : List Fr := [.seq (codeAt (bodyOf Try.f16) [1, 1, 1, 1, 1, 1, 1, 1, 1, 1, 1, 1])]
theorem xo16_16 : orderIx (opsOf xg16_2) = [10, 0, 1, 2, 3, 4, 5, 6, 7, 8, 9, 11, 12] := by kernel_rfl
theorem xo16_16a : (rgOf (opsOf xg16_2)).any = false := by kernel_rfl
theorem xo16_16r : regOk (opsOf xg16_2) = true := by kernel_rfl
theorem xb16 (s : Sys) (k wl : Nat) (t0 t1 t2 t3 : V) (h : Hp) : bodyV (xX s 16 wl k false) Try.f16 [t0, t1, t2, t3] h =
  bp (callV (xX s 16 wl k false) false true (.fn (.func 44) [] []) [] h) fun v1 h2 =>
  bp (callV (xX s 16 wl k false) false true (.fn (.func 45) [] []) [t0] h2) fun v3 h4 =>
  bm (vUn .not v1) h4 fun v5 h6 =>
  gd v5 (
  opsP (xX s 16 wl k false) xg16_0 5 h4.length ([], []) (runK (xX s 16 wl k false) (bodyK s.P Try.f16) xk16_0) ⟨(t0 :: t1 :: t2 :: t3 :: uu :: uu :: uu :: uu :: (V.lit (Value.bool false)) :: v1 :: v3 :: uu :: uu :: uu :: uu :: uu :: uu :: uu :: uu :: v1 :: t0 :: v3 :: v1 :: v5 :: (V.lit (Value.bool true)) :: uu :: uu :: uu :: uu :: uu :: uu :: uu :: uu :: uu :: uu :: uu :: uu :: uu :: uu :: uu :: uu :: uu :: uu :: uu :: uu :: uu :: uu :: uu :: uu :: uu :: uu :: uu :: uu :: uu :: uu :: uu :: uu :: uu :: uu :: uu :: uu :: uu :: uu :: uu :: uu :: uu :: uu :: uu :: uu :: uu :: uu :: uu :: uu :: uu :: uu :: uu :: uu :: uu :: uu :: uu :: uu :: uu :: uu :: uu :: uu :: uu :: uu :: uu :: uu :: uu :: uu :: uu :: uu :: uu :: uu :: uu :: uu :: uu :: uu :: uu :: uu :: uu :: uu :: uu :: uu :: uu :: uu :: uu :: uu :: uu :: uu :: uu :: uu :: uu :: uu :: uu :: []), h6⟩) (
  bm (vUn .not v3) h6 fun v7 h8 =>
  opsP (xX s 16 wl k false) xg16_0 5 h4.length ([], []) (runK (xX s 16 wl k false) (bodyK s.P Try.f16) xk16_0) ⟨(t0 :: t1 :: t2 :: t3 :: uu :: uu :: uu :: uu :: (V.lit (Value.bool false)) :: v1 :: v3 :: uu :: uu :: uu :: uu :: uu :: uu :: uu :: uu :: v1 :: t0 :: v3 :: v1 :: v5 :: (V.lit (Value.bool false)) :: v3 :: v7 :: uu :: uu :: uu :: uu :: uu :: uu :: uu :: uu :: uu :: uu :: uu :: uu :: uu :: uu :: uu :: uu :: uu :: uu :: uu :: uu :: uu :: uu :: uu :: uu :: uu :: uu :: uu :: uu :: uu :: uu :: uu :: uu :: uu :: uu :: uu :: uu :: uu :: uu :: uu :: uu :: uu :: uu :: uu :: uu :: uu :: uu :: uu :: uu :: uu :: uu :: uu :: uu :: uu :: uu :: uu :: uu :: uu :: uu :: uu :: uu :: uu :: uu :: uu :: uu :: uu :: uu :: uu :: uu :: uu :: uu :: uu :: uu :: uu :: uu :: uu :: uu :: uu :: uu :: uu :: uu :: uu :: uu :: uu :: uu :: uu :: uu :: uu :: uu :: uu :: []), h8⟩) (
  opsP (xX s 16 wl k false) xg16_0 4 h4.length ([], []) (runK (xX s 16 wl k false) (bodyK s.P Try.f16) xk16_0) ⟨(t0 :: t1 :: t2 :: t3 :: uu :: uu :: uu :: uu :: (V.lit (Value.bool false)) :: v1 :: v3 :: uu :: uu :: uu :: uu :: uu :: uu :: uu :: uu :: v1 :: t0 :: v3 :: v1 :: v5 :: v5 :: uu :: uu :: uu :: uu :: uu :: uu :: uu :: uu :: uu :: uu :: uu :: uu :: uu :: uu :: uu :: uu :: uu :: uu :: uu :: uu :: uu :: uu :: uu :: uu :: uu :: uu :: uu :: uu :: uu :: uu :: uu :: uu :: uu :: uu :: uu :: uu :: uu :: uu :: uu :: uu :: uu :: uu :: uu :: uu :: uu :: uu :: uu :: uu :: uu :: uu :: uu :: uu :: uu :: uu :: uu :: uu :: uu :: uu :: uu :: uu :: uu :: uu :: uu :: uu :: uu :: uu :: uu :: uu :: uu :: uu :: uu :: uu :: uu :: uu :: uu :: uu :: uu :: uu :: uu :: uu :: uu :: uu :: uu :: uu :: uu :: uu :: uu :: uu :: uu :: uu :: uu :: []), h6⟩) :=
  bodyV_run rfl (go_seq (go_reg0
  (go_op0 rfl rfl (st_id (v := (V.lit (Value.bool false))) (H := h) (by kernel_rfl)
  (go_end0 (by kernel_rfl)
  (go_seq (go_reg0
  (go_op0 rfl rfl (st_bp (by kernel_rfl) fun v1 h2 =>
  (go_op0 rfl rfl (st_id (v := v1) (H := h2) (by kernel_rfl)
  (go_end0 (by kernel_rfl)
  (go_seq (go_reg0
  (go_op0 rfl rfl (st_id (v := t0) (H := h2) (by kernel_rfl)
  (go_op0 rfl rfl (st_bp (by kernel_rfl) fun v3 h4 =>
  (go_op0 rfl rfl (st_id (v := v3) (H := h4) (by kernel_rfl)
  (go_end0 (by kernel_rfl)
  (go_seq (go_seq (go_reg0
  (go_op0 rfl rfl (st_id (v := v1) (H := h4) (by kernel_rfl)
  (go_op0 rfl rfl (st_bm (by kernel_rfl) fun v5 h6 =>
  (go_op0 rfl rfl (st_id (v := v5) (H := h6) (by kernel_rfl)
  (go_gdF0 rfl rfl rfl (by kernel_rfl)
  (go_skip0 rfl rfl rfl (by kernel_rfl)
  (by kernel_rfl))
  (st_id (v := v3) (H := h6) (by kernel_rfl)
  (go_run0 rfl rfl rfl (by kernel_rfl) (st_bm (by kernel_rfl) fun v7 h8 =>
  (by kernel_rfl))))
  (by kernel_rfl))))))))))))))))))))))))))))))))
theorem xe16 (k wl : Nat) (t0 t1 t2 t3 : V) (h : Hp) : evF Try.prog xM (k + 1) wl 16 [t0, t1, t2, t3] h = bodyV (xX (xS k) 16 wl k false) Try.f16 [t0, t1, t2, t3] h := by kernel_rfl
theorem xz16 (P : Program) (t0 t1 t2 t3 t4 t5 t6 t7 t8 t9 t10 t11 t12 t13 t14 t15 t16 t17 t18 t19 t20 t21 t22 t23 t24 t25 t26 t27 t28 t29 t30 t31 t32 t33 t34 t35 t36 t37 t38 t39 t40 t41 t42 t43 t44 t45 t46 t47 t48 t49 t50 t51 t52 t53 t54 t55 t56 t57 t58 t59 t60 t61 t62 t63 t64 t65 t66 t67 t68 t69 t70 t71 t72 t73 t74 t75 t76 t77 t78 t79 t80 t81 t82 t83 t84 t85 t86 t87 t88 t89 t90 t91 t92 t93 t94 t95 t96 t97 t98 t99 t100 t101 t102 t103 t104 t105 t106 t107 t108 t109 t110 t111 t112 t113 t114 t115 : V) (h : Hp) : bodyK P Try.f16 .ret ⟨(t0 :: t1 :: t2 :: t3 :: t4 :: t5 :: t6 :: t7 :: t8 :: t9 :: t10 :: t11 :: t12 :: t13 :: t14 :: t15 :: t16 :: t17 :: t18 :: t19 :: t20 :: t21 :: t22 :: t23 :: t24 :: t25 :: t26 :: t27 :: t28 :: t29 :: t30 :: t31 :: t32 :: t33 :: t34 :: t35 :: t36 :: t37 :: t38 :: t39 :: t40 :: t41 :: t42 :: t43 :: t44 :: t45 :: t46 :: t47 :: t48 :: t49 :: t50 :: t51 :: t52 :: t53 :: t54 :: t55 :: t56 :: t57 :: t58 :: t59 :: t60 :: t61 :: t62 :: t63 :: t64 :: t65 :: t66 :: t67 :: t68 :: t69 :: t70 :: t71 :: t72 :: t73 :: t74 :: t75 :: t76 :: t77 :: t78 :: t79 :: t80 :: t81 :: t82 :: t83 :: t84 :: t85 :: t86 :: t87 :: t88 :: t89 :: t90 :: t91 :: t92 :: t93 :: t94 :: t95 :: t96 :: t97 :: t98 :: t99 :: t100 :: t101 :: t102 :: t103 :: t104 :: t105 :: t106 :: t107 :: t108 :: t109 :: t110 :: t111 :: t112 :: t113 :: t114 :: t115 :: []), h⟩ = some (t8, h) := by kernel_rfl
theorem xm16_0 (s : Sys) (k wl : Nat) (m0 : Nat) (ac : List Nat × List Nat) (t0 t1 t2 t3 t4 t5 t6 t7 t8 t9 t10 t11 t12 t13 t14 t15 t16 t17 t18 t19 t20 t21 t22 t23 t24 t25 t26 t27 t28 t29 t30 t31 t32 t33 t34 t35 t36 t37 t38 t39 t40 t41 t42 t43 t44 t45 t46 t47 t48 t49 t50 t51 t52 t53 t54 t55 t56 t57 t58 t59 t60 t61 t62 t63 t64 t65 t66 t67 t68 t69 t70 t71 t72 t73 t74 t75 t76 t77 t78 t79 t80 t81 t82 t83 t84 t85 t86 t87 t88 t89 t90 t91 t92 t93 t94 t95 t96 t97 t98 t99 t100 t101 t102 t103 t104 t105 t106 t107 t108 t109 t110 t111 t112 t113 t114 t115 : V) (h : Hp) : opsP (xX s 16 wl k false) xg16_0 5 m0 ac (runK (xX s 16 wl k false) (bodyK s.P Try.f16) xk16_0) ⟨(t0 :: t1 :: t2 :: t3 :: t4 :: t5 :: t6 :: t7 :: t8 :: t9 :: t10 :: t11 :: t12 :: t13 :: t14 :: t15 :: t16 :: t17 :: t18 :: t19 :: t20 :: t21 :: t22 :: t23 :: t24 :: t25 :: t26 :: t27 :: t28 :: t29 :: t30 :: t31 :: t32 :: t33 :: t34 :: t35 :: t36 :: t37 :: t38 :: t39 :: t40 :: t41 :: t42 :: t43 :: t44 :: t45 :: t46 :: t47 :: t48 :: t49 :: t50 :: t51 :: t52 :: t53 :: t54 :: t55 :: t56 :: t57 :: t58 :: t59 :: t60 :: t61 :: t62 :: t63 :: t64 :: t65 :: t66 :: t67 :: t68 :: t69 :: t70 :: t71 :: t72 :: t73 :: t74 :: t75 :: t76 :: t77 :: t78 :: t79 :: t80 :: t81 :: t82 :: t83 :: t84 :: t85 :: t86 :: t87 :: t88 :: t89 :: t90 :: t91 :: t92 :: t93 :: t94 :: t95 :: t96 :: t97 :: t98 :: t99 :: t100 :: t101 :: t102 :: t103 :: t104 :: t105 :: t106 :: t107 :: t108 :: t109 :: t110 :: t111 :: t112 :: t113 :: t114 :: t115 :: []), h⟩ =
  bm (vPick t24 (V.lit (Value.bool true)) t26) h fun v9 h10 =>
  gd v9 (
  opsP (xX s 16 wl k false) xg16_0 10 m0 ac (runK (xX s 16 wl k false) (bodyK s.P Try.f16) xk16_0) ⟨(t0 :: t1 :: t2 :: t3 :: t4 :: t5 :: t6 :: t7 :: t8 :: t9 :: t10 :: t11 :: t12 :: t13 :: t14 :: t15 :: t16 :: t17 :: t18 :: t19 :: t20 :: t21 :: t22 :: t23 :: t24 :: t25 :: t26 :: v9 :: (V.lit (Value.bool true)) :: uu :: uu :: uu :: t32 :: t33 :: t34 :: t35 :: t36 :: t37 :: t38 :: t39 :: t40 :: t41 :: t42 :: t43 :: t44 :: t45 :: t46 :: t47 :: t48 :: t49 :: t50 :: t51 :: t52 :: t53 :: t54 :: t55 :: t56 :: t57 :: t58 :: t59 :: t60 :: t61 :: t62 :: t63 :: t64 :: t65 :: t66 :: t67 :: t68 :: t69 :: t70 :: t71 :: t72 :: t73 :: t74 :: t75 :: t76 :: t77 :: t78 :: t79 :: t80 :: t81 :: t82 :: t83 :: t84 :: t85 :: t86 :: t87 :: t88 :: t89 :: t90 :: t91 :: t92 :: t93 :: t94 :: t95 :: t96 :: t97 :: t98 :: t99 :: t100 :: t101 :: t102 :: t103 :: t104 :: t105 :: t106 :: t107 :: t108 :: t109 :: t110 :: t111 :: t112 :: t113 :: t114 :: t115 :: []), h10⟩) (
  bp (opLen s.P 51 t1 h10) fun v11 h12 =>
  bm (vBin s.P .gtr 3 v11 (V.lit (Value.int .i64 500))) h12 fun v13 h14 =>
  opsP (xX s 16 wl k false) xg16_0 10 m0 ac (runK (xX s 16 wl k false) (bodyK s.P Try.f16) xk16_0) ⟨(t0 :: t1 :: t2 :: t3 :: t4 :: t5 :: t6 :: t7 :: t8 :: t9 :: t10 :: t11 :: t12 :: t13 :: t14 :: t15 :: t16 :: t17 :: t18 :: t19 :: t20 :: t21 :: t22 :: t23 :: t24 :: t25 :: t26 :: v9 :: (V.lit (Value.bool false)) :: t1 :: v11 :: v13 :: t32 :: t33 :: t34 :: t35 :: t36 :: t37 :: t38 :: t39 :: t40 :: t41 :: t42 :: t43 :: t44 :: t45 :: t46 :: t47 :: t48 :: t49 :: t50 :: t51 :: t52 :: t53 :: t54 :: t55 :: t56 :: t57 :: t58 :: t59 :: t60 :: t61 :: t62 :: t63 :: t64 :: t65 :: t66 :: t67 :: t68 :: t69 :: t70 :: t71 :: t72 :: t73 :: t74 :: t75 :: t76 :: t77 :: t78 :: t79 :: t80 :: t81 :: t82 :: t83 :: t84 :: t85 :: t86 :: t87 :: t88 :: t89 :: t90 :: t91 :: t92 :: t93 :: t94 :: t95 :: t96 :: t97 :: t98 :: t99 :: t100 :: t101 :: t102 :: t103 :: t104 :: t105 :: t106 :: t107 :: t108 :: t109 :: t110 :: t111 :: t112 :: t113 :: t114 :: t115 :: []), h14⟩) (
  opsP (xX s 16 wl k false) xg16_0 8 m0 ac (runK (xX s 16 wl k false) (bodyK s.P Try.f16) xk16_0) ⟨(t0 :: t1 :: t2 :: t3 :: t4 :: t5 :: t6 :: t7 :: t8 :: t9 :: t10 :: t11 :: t12 :: t13 :: t14 :: t15 :: t16 :: t17 :: t18 :: t19 :: t20 :: t21 :: t22 :: t23 :: t24 :: t25 :: t26 :: v9 :: v9 :: uu :: t30 :: t31 :: t32 :: t33 :: t34 :: t35 :: t36 :: t37 :: t38 :: t39 :: t40 :: t41 :: t42 :: t43 :: t44 :: t45 :: t46 :: t47 :: t48 :: t49 :: t50 :: t51 :: t52 :: t53 :: t54 :: t55 :: t56 :: t57 :: t58 :: t59 :: t60 :: t61 :: t62 :: t63 :: t64 :: t65 :: t66 :: t67 :: t68 :: t69 :: t70 :: t71 :: t72 :: t73 :: t74 :: t75 :: t76 :: t77 :: t78 :: t79 :: t80 :: t81 :: t82 :: t83 :: t84 :: t85 :: t86 :: t87 :: t88 :: t89 :: t90 :: t91 :: t92 :: t93 :: t94 :: t95 :: t96 :: t97 :: t98 :: t99 :: t100 :: t101 :: t102 :: t103 :: t104 :: t105 :: t106 :: t107 :: t108 :: t109 :: t110 :: t111 :: t112 :: t113 :: t114 :: t115 :: []), h10⟩) :=
  (go_op0 rfl rfl (st_bm (by kernel_rfl) fun v9 h10 =>
  (go_op0 rfl rfl (st_id (v := v9) (H := h10) (by kernel_rfl)
  (go_gdF0 rfl rfl rfl (by kernel_rfl)
  (go_skip0 rfl rfl rfl (by kernel_rfl)
  (go_skip0 rfl rfl rfl (by kernel_rfl)
  (by kernel_rfl)))
  (st_id (v := t1) (H := h10) (by kernel_rfl)
  (go_run0 rfl rfl rfl (by kernel_rfl) (st_bp (by kernel_rfl) fun v11 h12 =>
  (go_run0 rfl rfl rfl (by kernel_rfl) (st_bm (by kernel_rfl) fun v13 h14 =>
  (by kernel_rfl))))))
  (by kernel_rfl))))))
theorem xm16_1 (s : Sys) (k wl : Nat) (m0 : Nat) (ac : List Nat × List Nat) (t0 t1 t2 t3 t4 t5 t6 t7 t8 t9 t10 t11 t12 t13 t14 t15 t16 t17 t18 t19 t20 t21 t22 t23 t24 t25 t26 t27 t28 t29 t30 t31 t32 t33 t34 t35 t36 t37 t38 t39 t40 t41 t42 t43 t44 t45 t46 t47 t48 t49 t50 t51 t52 t53 t54 t55 t56 t57 t58 t59 t60 t61 t62 t63 t64 t65 t66 t67 t68 t69 t70 t71 t72 t73 t74 t75 t76 t77 t78 t79 t80 t81 t82 t83 t84 t85 t86 t87 t88 t89 t90 t91 t92 t93 t94 t95 t96 t97 t98 t99 t100 t101 t102 t103 t104 t105 t106 t107 t108 t109 t110 t111 t112 t113 t114 t115 : V) (h : Hp) : opsP (xX s 16 wl k false) xg16_0 10 m0 ac (runK (xX s 16 wl k false) (bodyK s.P Try.f16) xk16_0) ⟨(t0 :: t1 :: t2 :: t3 :: t4 :: t5 :: t6 :: t7 :: t8 :: t9 :: t10 :: t11 :: t12 :: t13 :: t14 :: t15 :: t16 :: t17 :: t18 :: t19 :: t20 :: t21 :: t22 :: t23 :: t24 :: t25 :: t26 :: t27 :: t28 :: t29 :: t30 :: t31 :: t32 :: t33 :: t34 :: t35 :: t36 :: t37 :: t38 :: t39 :: t40 :: t41 :: t42 :: t43 :: t44 :: t45 :: t46 :: t47 :: t48 :: t49 :: t50 :: t51 :: t52 :: t53 :: t54 :: t55 :: t56 :: t57 :: t58 :: t59 :: t60 :: t61 :: t62 :: t63 :: t64 :: t65 :: t66 :: t67 :: t68 :: t69 :: t70 :: t71 :: t72 :: t73 :: t74 :: t75 :: t76 :: t77 :: t78 :: t79 :: t80 :: t81 :: t82 :: t83 :: t84 :: t85 :: t86 :: t87 :: t88 :: t89 :: t90 :: t91 :: t92 :: t93 :: t94 :: t95 :: t96 :: t97 :: t98 :: t99 :: t100 :: t101 :: t102 :: t103 :: t104 :: t105 :: t106 :: t107 :: t108 :: t109 :: t110 :: t111 :: t112 :: t113 :: t114 :: t115 :: []), h⟩ =
  bm (vPick t28 (V.lit (Value.bool true)) t31) h fun v15 h16 =>
  gd v15 (
  opsP (xX s 16 wl k false) xg16_0 14 m0 ac (runK (xX s 16 wl k false) (bodyK s.P Try.f16) xk16_0) ⟨(t0 :: t1 :: t2 :: t3 :: t4 :: t5 :: t6 :: t7 :: t8 :: t9 :: t10 :: t11 :: t12 :: t13 :: t14 :: t15 :: t16 :: t17 :: t18 :: t19 :: t20 :: t21 :: t22 :: t23 :: t24 :: t25 :: t26 :: t27 :: t28 :: t29 :: t30 :: t31 :: v15 :: (V.lit (Value.bool true)) :: uu :: uu :: t36 :: t37 :: t38 :: t39 :: t40 :: t41 :: t42 :: t43 :: t44 :: t45 :: t46 :: t47 :: t48 :: t49 :: t50 :: t51 :: t52 :: t53 :: t54 :: t55 :: t56 :: t57 :: t58 :: t59 :: t60 :: t61 :: t62 :: t63 :: t64 :: t65 :: t66 :: t67 :: t68 :: t69 :: t70 :: t71 :: t72 :: t73 :: t74 :: t75 :: t76 :: t77 :: t78 :: t79 :: t80 :: t81 :: t82 :: t83 :: t84 :: t85 :: t86 :: t87 :: t88 :: t89 :: t90 :: t91 :: t92 :: t93 :: t94 :: t95 :: t96 :: t97 :: t98 :: t99 :: t100 :: t101 :: t102 :: t103 :: t104 :: t105 :: t106 :: t107 :: t108 :: t109 :: t110 :: t111 :: t112 :: t113 :: t114 :: t115 :: []), h16⟩) (
  bm (vBin s.P .lss 3 t2 (V.lit (Value.int .i64 0))) h16 fun v17 h18 =>
  opsP (xX s 16 wl k false) xg16_0 14 m0 ac (runK (xX s 16 wl k false) (bodyK s.P Try.f16) xk16_0) ⟨(t0 :: t1 :: t2 :: t3 :: t4 :: t5 :: t6 :: t7 :: t8 :: t9 :: t10 :: t11 :: t12 :: t13 :: t14 :: t15 :: t16 :: t17 :: t18 :: t19 :: t20 :: t21 :: t22 :: t23 :: t24 :: t25 :: t26 :: t27 :: t28 :: t29 :: t30 :: t31 :: v15 :: (V.lit (Value.bool false)) :: t2 :: v17 :: t36 :: t37 :: t38 :: t39 :: t40 :: t41 :: t42 :: t43 :: t44 :: t45 :: t46 :: t47 :: t48 :: t49 :: t50 :: t51 :: t52 :: t53 :: t54 :: t55 :: t56 :: t57 :: t58 :: t59 :: t60 :: t61 :: t62 :: t63 :: t64 :: t65 :: t66 :: t67 :: t68 :: t69 :: t70 :: t71 :: t72 :: t73 :: t74 :: t75 :: t76 :: t77 :: t78 :: t79 :: t80 :: t81 :: t82 :: t83 :: t84 :: t85 :: t86 :: t87 :: t88 :: t89 :: t90 :: t91 :: t92 :: t93 :: t94 :: t95 :: t96 :: t97 :: t98 :: t99 :: t100 :: t101 :: t102 :: t103 :: t104 :: t105 :: t106 :: t107 :: t108 :: t109 :: t110 :: t111 :: t112 :: t113 :: t114 :: t115 :: []), h18⟩) (
  opsP (xX s 16 wl k false) xg16_0 13 m0 ac (runK (xX s 16 wl k false) (bodyK s.P Try.f16) xk16_0) ⟨(t0 :: t1 :: t2 :: t3 :: t4 :: t5 :: t6 :: t7 :: t8 :: t9 :: t10 :: t11 :: t12 :: t13 :: t14 :: t15 :: t16 :: t17 :: t18 :: t19 :: t20 :: t21 :: t22 :: t23 :: t24 :: t25 :: t26 :: t27 :: t28 :: t29 :: t30 :: t31 :: v15 :: v15 :: uu :: t35 :: t36 :: t37 :: t38 :: t39 :: t40 :: t41 :: t42 :: t43 :: t44 :: t45 :: t46 :: t47 :: t48 :: t49 :: t50 :: t51 :: t52 :: t53 :: t54 :: t55 :: t56 :: t57 :: t58 :: t59 :: t60 :: t61 :: t62 :: t63 :: t64 :: t65 :: t66 :: t67 :: t68 :: t69 :: t70 :: t71 :: t72 :: t73 :: t74 :: t75 :: t76 :: t77 :: t78 :: t79 :: t80 :: t81 :: t82 :: t83 :: t84 :: t85 :: t86 :: t87 :: t88 :: t89 :: t90 :: t91 :: t92 :: t93 :: t94 :: t95 :: t96 :: t97 :: t98 :: t99 :: t100 :: t101 :: t102 :: t103 :: t104 :: t105 :: t106 :: t107 :: t108 :: t109 :: t110 :: t111 :: t112 :: t113 :: t114 :: t115 :: []), h16⟩) :=
  (go_op0 rfl rfl (st_bm (by kernel_rfl) fun v15 h16 =>
  (go_op0 rfl rfl (st_id (v := v15) (H := h16) (by kernel_rfl)
  (go_gdF0 rfl rfl rfl (by kernel_rfl)
  (go_skip0 rfl rfl rfl (by kernel_rfl)
  (by kernel_rfl))
  (st_id (v := t2) (H := h16) (by kernel_rfl)
  (go_run0 rfl rfl rfl (by kernel_rfl) (st_bm (by kernel_rfl) fun v17 h18 =>
  (by kernel_rfl))))
  (by kernel_rfl))))))
theorem xm16_2 (s : Sys) (k wl : Nat) (m0 : Nat) (ac : List Nat × List Nat) (t0 t1 t2 t3 t4 t5 t6 t7 t8 t9 t10 t11 t12 t13 t14 t15 t16 t17 t18 t19 t20 t21 t22 t23 t24 t25 t26 t27 t28 t29 t30 t31 t32 t33 t34 t35 t36 t37 t38 t39 t40 t41 t42 t43 t44 t45 t46 t47 t48 t49 t50 t51 t52 t53 t54 t55 t56 t57 t58 t59 t60 t61 t62 t63 t64 t65 t66 t67 t68 t69 t70 t71 t72 t73 t74 t75 t76 t77 t78 t79 t80 t81 t82 t83 t84 t85 t86 t87 t88 t89 t90 t91 t92 t93 t94 t95 t96 t97 t98 t99 t100 t101 t102 t103 t104 t105 t106 t107 t108 t109 t110 t111 t112 t113 t114 t115 : V) (h : Hp) : opsP (xX s 16 wl k false) xg16_0 14 m0 ac (runK (xX s 16 wl k false) (bodyK s.P Try.f16) xk16_0) ⟨(t0 :: t1 :: t2 :: t3 :: t4 :: t5 :: t6 :: t7 :: t8 :: t9 :: t10 :: t11 :: t12 :: t13 :: t14 :: t15 :: t16 :: t17 :: t18 :: t19 :: t20 :: t21 :: t22 :: t23 :: t24 :: t25 :: t26 :: t27 :: t28 :: t29 :: t30 :: t31 :: t32 :: t33 :: t34 :: t35 :: t36 :: t37 :: t38 :: t39 :: t40 :: t41 :: t42 :: t43 :: t44 :: t45 :: t46 :: t47 :: t48 :: t49 :: t50 :: t51 :: t52 :: t53 :: t54 :: t55 :: t56 :: t57 :: t58 :: t59 :: t60 :: t61 :: t62 :: t63 :: t64 :: t65 :: t66 :: t67 :: t68 :: t69 :: t70 :: t71 :: t72 :: t73 :: t74 :: t75 :: t76 :: t77 :: t78 :: t79 :: t80 :: t81 :: t82 :: t83 :: t84 :: t85 :: t86 :: t87 :: t88 :: t89 :: t90 :: t91 :: t92 :: t93 :: t94 :: t95 :: t96 :: t97 :: t98 :: t99 :: t100 :: t101 :: t102 :: t103 :: t104 :: t105 :: t106 :: t107 :: t108 :: t109 :: t110 :: t111 :: t112 :: t113 :: t114 :: t115 :: []), h⟩ =
  bm (vPick t33 (V.lit (Value.bool true)) t35) h fun v19 h20 =>
  gd v19 (
  opsP (xX s 16 wl k false) xg16_0 20 m0 ac (runK (xX s 16 wl k false) (bodyK s.P Try.f16) xk16_0) ⟨(t0 :: t1 :: t2 :: t3 :: t4 :: t5 :: t6 :: t7 :: t8 :: t9 :: t10 :: t11 :: t12 :: t13 :: t14 :: t15 :: t16 :: t17 :: t18 :: t19 :: t20 :: t21 :: t22 :: t23 :: t24 :: t25 :: t26 :: t27 :: t28 :: t29 :: t30 :: t31 :: t32 :: t33 :: t34 :: t35 :: v19 :: (V.lit (Value.bool true)) :: uu :: uu :: uu :: uu :: t42 :: t43 :: t44 :: t45 :: t46 :: t47 :: t48 :: t49 :: t50 :: t51 :: t52 :: t53 :: t54 :: t55 :: t56 :: t57 :: t58 :: t59 :: t60 :: t61 :: t62 :: t63 :: t64 :: t65 :: t66 :: t67 :: t68 :: t69 :: t70 :: t71 :: t72 :: t73 :: t74 :: t75 :: t76 :: t77 :: t78 :: t79 :: t80 :: t81 :: t82 :: t83 :: t84 :: t85 :: t86 :: t87 :: t88 :: t89 :: t90 :: t91 :: t92 :: t93 :: t94 :: t95 :: t96 :: t97 :: t98 :: t99 :: t100 :: t101 :: t102 :: t103 :: t104 :: t105 :: t106 :: t107 :: t108 :: t109 :: t110 :: t111 :: t112 :: t113 :: t114 :: t115 :: []), h20⟩) (
  bp (opLen s.P 50 t0 h20) fun v21 h22 =>
  bm (vBin s.P .geq 3 t2 v21) h22 fun v23 h24 =>
  opsP (xX s 16 wl k false) xg16_0 20 m0 ac (runK (xX s 16 wl k false) (bodyK s.P Try.f16) xk16_0) ⟨(t0 :: t1 :: t2 :: t3 :: t4 :: t5 :: t6 :: t7 :: t8 :: t9 :: t10 :: t11 :: t12 :: t13 :: t14 :: t15 :: t16 :: t17 :: t18 :: t19 :: t20 :: t21 :: t22 :: t23 :: t24 :: t25 :: t26 :: t27 :: t28 :: t29 :: t30 :: t31 :: t32 :: t33 :: t34 :: t35 :: v19 :: (V.lit (Value.bool false)) :: t2 :: t0 :: v21 :: v23 :: t42 :: t43 :: t44 :: t45 :: t46 :: t47 :: t48 :: t49 :: t50 :: t51 :: t52 :: t53 :: t54 :: t55 :: t56 :: t57 :: t58 :: t59 :: t60 :: t61 :: t62 :: t63 :: t64 :: t65 :: t66 :: t67 :: t68 :: t69 :: t70 :: t71 :: t72 :: t73 :: t74 :: t75 :: t76 :: t77 :: t78 :: t79 :: t80 :: t81 :: t82 :: t83 :: t84 :: t85 :: t86 :: t87 :: t88 :: t89 :: t90 :: t91 :: t92 :: t93 :: t94 :: t95 :: t96 :: t97 :: t98 :: t99 :: t100 :: t101 :: t102 :: t103 :: t104 :: t105 :: t106 :: t107 :: t108 :: t109 :: t110 :: t111 :: t112 :: t113 :: t114 :: t115 :: []), h24⟩) (
  opsP (xX s 16 wl k false) xg16_0 17 m0 ac (runK (xX s 16 wl k false) (bodyK s.P Try.f16) xk16_0) ⟨(t0 :: t1 :: t2 :: t3 :: t4 :: t5 :: t6 :: t7 :: t8 :: t9 :: t10 :: t11 :: t12 :: t13 :: t14 :: t15 :: t16 :: t17 :: t18 :: t19 :: t20 :: t21 :: t22 :: t23 :: t24 :: t25 :: t26 :: t27 :: t28 :: t29 :: t30 :: t31 :: t32 :: t33 :: t34 :: t35 :: v19 :: v19 :: uu :: t39 :: t40 :: t41 :: t42 :: t43 :: t44 :: t45 :: t46 :: t47 :: t48 :: t49 :: t50 :: t51 :: t52 :: t53 :: t54 :: t55 :: t56 :: t57 :: t58 :: t59 :: t60 :: t61 :: t62 :: t63 :: t64 :: t65 :: t66 :: t67 :: t68 :: t69 :: t70 :: t71 :: t72 :: t73 :: t74 :: t75 :: t76 :: t77 :: t78 :: t79 :: t80 :: t81 :: t82 :: t83 :: t84 :: t85 :: t86 :: t87 :: t88 :: t89 :: t90 :: t91 :: t92 :: t93 :: t94 :: t95 :: t96 :: t97 :: t98 :: t99 :: t100 :: t101 :: t102 :: t103 :: t104 :: t105 :: t106 :: t107 :: t108 :: t109 :: t110 :: t111 :: t112 :: t113 :: t114 :: t115 :: []), h20⟩) :=
  (go_op0 rfl rfl (st_bm (by kernel_rfl) fun v19 h20 =>
  (go_op0 rfl rfl (st_id (v := v19) (H := h20) (by kernel_rfl)
  (go_gdF0 rfl rfl rfl (by kernel_rfl)
  (go_skip0 rfl rfl rfl (by kernel_rfl)
  (go_skip0 rfl rfl rfl (by kernel_rfl)
  (go_skip0 rfl rfl rfl (by kernel_rfl)
  (by kernel_rfl))))
  (st_id (v := t2) (H := h20) (by kernel_rfl)
  (go_run0 rfl rfl rfl (by kernel_rfl) (st_id (v := t0) (H := h20) (by kernel_rfl)
  (go_run0 rfl rfl rfl (by kernel_rfl) (st_bp (by kernel_rfl) fun v21 h22 =>
  (go_run0 rfl rfl rfl (by kernel_rfl) (st_bm (by kernel_rfl) fun v23 h24 =>
  (by kernel_rfl))))))))
  (by kernel_rfl))))))
theorem xm16_3 (s : Sys) (k wl : Nat) (m0 : Nat) (ac : List Nat × List Nat) (t0 t1 t2 t3 t4 t5 t6 t7 t8 t9 t10 t11 t12 t13 t14 t15 t16 t17 t18 t19 t20 t21 t22 t23 t24 t25 t26 t27 t28 t29 t30 t31 t32 t33 t34 t35 t36 t37 t38 t39 t40 t41 t42 t43 t44 t45 t46 t47 t48 t49 t50 t51 t52 t53 t54 t55 t56 t57 t58 t59 t60 t61 t62 t63 t64 t65 t66 t67 t68 t69 t70 t71 t72 t73 t74 t75 t76 t77 t78 t79 t80 t81 t82 t83 t84 t85 t86 t87 t88 t89 t90 t91 t92 t93 t94 t95 t96 t97 t98 t99 t100 t101 t102 t103 t104 t105 t106 t107 t108 t109 t110 t111 t112 t113 t114 t115 : V) (h : Hp) : opsP (xX s 16 wl k false) xg16_0 20 m0 ac (runK (xX s 16 wl k false) (bodyK s.P Try.f16) xk16_0) ⟨(t0 :: t1 :: t2 :: t3 :: t4 :: t5 :: t6 :: t7 :: t8 :: t9 :: t10 :: t11 :: t12 :: t13 :: t14 :: t15 :: t16 :: t17 :: t18 :: t19 :: t20 :: t21 :: t22 :: t23 :: t24 :: t25 :: t26 :: t27 :: t28 :: t29 :: t30 :: t31 :: t32 :: t33 :: t34 :: t35 :: t36 :: t37 :: t38 :: t39 :: t40 :: t41 :: t42 :: t43 :: t44 :: t45 :: t46 :: t47 :: t48 :: t49 :: t50 :: t51 :: t52 :: t53 :: t54 :: t55 :: t56 :: t57 :: t58 :: t59 :: t60 :: t61 :: t62 :: t63 :: t64 :: t65 :: t66 :: t67 :: t68 :: t69 :: t70 :: t71 :: t72 :: t73 :: t74 :: t75 :: t76 :: t77 :: t78 :: t79 :: t80 :: t81 :: t82 :: t83 :: t84 :: t85 :: t86 :: t87 :: t88 :: t89 :: t90 :: t91 :: t92 :: t93 :: t94 :: t95 :: t96 :: t97 :: t98 :: t99 :: t100 :: t101 :: t102 :: t103 :: t104 :: t105 :: t106 :: t107 :: t108 :: t109 :: t110 :: t111 :: t112 :: t113 :: t114 :: t115 :: []), h⟩ =
  bm (vPick t37 (V.lit (Value.bool true)) t41) h fun v25 h26 =>
  gd v25 (
  opsP (xX s 16 wl k false) xg16_0 25 m0 ac (runK (xX s 16 wl k false) (bodyK s.P Try.f16) xk16_0) ⟨(t0 :: t1 :: t2 :: t3 :: t4 :: t5 :: t6 :: t7 :: t8 :: t9 :: t10 :: t11 :: t12 :: t13 :: t14 :: t15 :: t16 :: t17 :: t18 :: t19 :: t20 :: t21 :: t22 :: t23 :: t24 :: t25 :: t26 :: t27 :: t28 :: t29 :: t30 :: t31 :: t32 :: t33 :: t34 :: t35 :: t36 :: t37 :: t38 :: t39 :: t40 :: t41 :: v25 :: (V.lit (Value.bool true)) :: uu :: uu :: uu :: t47 :: t48 :: t49 :: t50 :: t51 :: t52 :: t53 :: t54 :: t55 :: t56 :: t57 :: t58 :: t59 :: t60 :: t61 :: t62 :: t63 :: t64 :: t65 :: t66 :: t67 :: t68 :: t69 :: t70 :: t71 :: t72 :: t73 :: t74 :: t75 :: t76 :: t77 :: t78 :: t79 :: t80 :: t81 :: t82 :: t83 :: t84 :: t85 :: t86 :: t87 :: t88 :: t89 :: t90 :: t91 :: t92 :: t93 :: t94 :: t95 :: t96 :: t97 :: t98 :: t99 :: t100 :: t101 :: t102 :: t103 :: t104 :: t105 :: t106 :: t107 :: t108 :: t109 :: t110 :: t111 :: t112 :: t113 :: t114 :: t115 :: []), h26⟩) (
  bp (opLen s.P 50 t0 h26) fun v27 h28 =>
  bm (vBin s.P .gtr 3 v27 (V.lit (Value.int .i64 8))) h28 fun v29 h30 =>
  opsP (xX s 16 wl k false) xg16_0 25 m0 ac (runK (xX s 16 wl k false) (bodyK s.P Try.f16) xk16_0) ⟨(t0 :: t1 :: t2 :: t3 :: t4 :: t5 :: t6 :: t7 :: t8 :: t9 :: t10 :: t11 :: t12 :: t13 :: t14 :: t15 :: t16 :: t17 :: t18 :: t19 :: t20 :: t21 :: t22 :: t23 :: t24 :: t25 :: t26 :: t27 :: t28 :: t29 :: t30 :: t31 :: t32 :: t33 :: t34 :: t35 :: t36 :: t37 :: t38 :: t39 :: t40 :: t41 :: v25 :: (V.lit (Value.bool false)) :: t0 :: v27 :: v29 :: t47 :: t48 :: t49 :: t50 :: t51 :: t52 :: t53 :: t54 :: t55 :: t56 :: t57 :: t58 :: t59 :: t60 :: t61 :: t62 :: t63 :: t64 :: t65 :: t66 :: t67 :: t68 :: t69 :: t70 :: t71 :: t72 :: t73 :: t74 :: t75 :: t76 :: t77 :: t78 :: t79 :: t80 :: t81 :: t82 :: t83 :: t84 :: t85 :: t86 :: t87 :: t88 :: t89 :: t90 :: t91 :: t92 :: t93 :: t94 :: t95 :: t96 :: t97 :: t98 :: t99 :: t100 :: t101 :: t102 :: t103 :: t104 :: t105 :: t106 :: t107 :: t108 :: t109 :: t110 :: t111 :: t112 :: t113 :: t114 :: t115 :: []), h30⟩) (
  opsP (xX s 16 wl k false) xg16_0 23 m0 ac (runK (xX s 16 wl k false) (bodyK s.P Try.f16) xk16_0) ⟨(t0 :: t1 :: t2 :: t3 :: t4 :: t5 :: t6 :: t7 :: t8 :: t9 :: t10 :: t11 :: t12 :: t13 :: t14 :: t15 :: t16 :: t17 :: t18 :: t19 :: t20 :: t21 :: t22 :: t23 :: t24 :: t25 :: t26 :: t27 :: t28 :: t29 :: t30 :: t31 :: t32 :: t33 :: t34 :: t35 :: t36 :: t37 :: t38 :: t39 :: t40 :: t41 :: v25 :: v25 :: uu :: t45 :: t46 :: t47 :: t48 :: t49 :: t50 :: t51 :: t52 :: t53 :: t54 :: t55 :: t56 :: t57 :: t58 :: t59 :: t60 :: t61 :: t62 :: t63 :: t64 :: t65 :: t66 :: t67 :: t68 :: t69 :: t70 :: t71 :: t72 :: t73 :: t74 :: t75 :: t76 :: t77 :: t78 :: t79 :: t80 :: t81 :: t82 :: t83 :: t84 :: t85 :: t86 :: t87 :: t88 :: t89 :: t90 :: t91 :: t92 :: t93 :: t94 :: t95 :: t96 :: t97 :: t98 :: t99 :: t100 :: t101 :: t102 :: t103 :: t104 :: t105 :: t106 :: t107 :: t108 :: t109 :: t110 :: t111 :: t112 :: t113 :: t114 :: t115 :: []), h26⟩) :=
  (go_op0 rfl rfl (st_bm (by kernel_rfl) fun v25 h26 =>
  (go_op0 rfl rfl (st_id (v := v25) (H := h26) (by kernel_rfl)
  (go_gdF0 rfl rfl rfl (by kernel_rfl)
  (go_skip0 rfl rfl rfl (by kernel_rfl)
  (go_skip0 rfl rfl rfl (by kernel_rfl)
  (by kernel_rfl)))
  (st_id (v := t0) (H := h26) (by kernel_rfl)
  (go_run0 rfl rfl rfl (by kernel_rfl) (st_bp (by kernel_rfl) fun v27 h28 =>
  (go_run0 rfl rfl rfl (by kernel_rfl) (st_bm (by kernel_rfl) fun v29 h30 =>
  (by kernel_rfl))))))
  (by kernel_rfl))))))
theorem xm16_4 (s : Sys) (k wl : Nat) (m0 : Nat) (ac : List Nat × List Nat) (t0 t1 t2 t3 t4 t5 t6 t7 t8 t9 t10 t11 t12 t13 t14 t15 t16 t17 t18 t19 t20 t21 t22 t23 t24 t25 t26 t27 t28 t29 t30 t31 t32 t33 t34 t35 t36 t37 t38 t39 t40 t41 t42 t43 t44 t45 t46 t47 t48 t49 t50 t51 t52 t53 t54 t55 t56 t57 t58 t59 t60 t61 t62 t63 t64 t65 t66 t67 t68 t69 t70 t71 t72 t73 t74 t75 t76 t77 t78 t79 t80 t81 t82 t83 t84 t85 t86 t87 t88 t89 t90 t91 t92 t93 t94 t95 t96 t97 t98 t99 t100 t101 t102 t103 t104 t105 t106 t107 t108 t109 t110 t111 t112 t113 t114 t115 : V) (h : Hp) : opsP (xX s 16 wl k false) xg16_0 25 m0 ac (runK (xX s 16 wl k false) (bodyK s.P Try.f16) xk16_0) ⟨(t0 :: t1 :: t2 :: t3 :: t4 :: t5 :: t6 :: t7 :: t8 :: t9 :: t10 :: t11 :: t12 :: t13 :: t14 :: t15 :: t16 :: t17 :: t18 :: t19 :: t20 :: t21 :: t22 :: t23 :: t24 :: t25 :: t26 :: t27 :: t28 :: t29 :: t30 :: t31 :: t32 :: t33 :: t34 :: t35 :: t36 :: t37 :: t38 :: t39 :: t40 :: t41 :: t42 :: t43 :: t44 :: t45 :: t46 :: t47 :: t48 :: t49 :: t50 :: t51 :: t52 :: t53 :: t54 :: t55 :: t56 :: t57 :: t58 :: t59 :: t60 :: t61 :: t62 :: t63 :: t64 :: t65 :: t66 :: t67 :: t68 :: t69 :: t70 :: t71 :: t72 :: t73 :: t74 :: t75 :: t76 :: t77 :: t78 :: t79 :: t80 :: t81 :: t82 :: t83 :: t84 :: t85 :: t86 :: t87 :: t88 :: t89 :: t90 :: t91 :: t92 :: t93 :: t94 :: t95 :: t96 :: t97 :: t98 :: t99 :: t100 :: t101 :: t102 :: t103 :: t104 :: t105 :: t106 :: t107 :: t108 :: t109 :: t110 :: t111 :: t112 :: t113 :: t114 :: t115 :: []), h⟩ =
  bm (vPick t43 (V.lit (Value.bool true)) t46) h fun v31 h32 =>
  cnd v31 (
  some (t9, h32)) (
  bp (opLen s.P 50 t0 h32) fun v33 h34 =>
  bm (vBuild s.P 23 [(0, v33), (1, (V.lit (Value.int .i64 1))), (2, (V.lit (Value.int .i64 1)))]) h34 fun v35 h36 =>
  bp (opAlloc s.P 23 h36) fun v37 h38 =>
  bs (vStore s.P wl 23 v37 v35 h38) fun h39 =>
  bp (callV (xX s 16 wl k false) false true (.fn (.func 46) [] []) [t0, t1] h39) fun v40 h41 =>
  bm (vExtract v40 0) h41 fun v42 h43 =>
  bm (vExtract v40 1) h43 fun v44 h45 =>
  bm (vExtract v40 2) h45 fun v46 h47 =>
  bp (opLen s.P 53 v46 h47) fun v48 h49 =>
  bm (vBin s.P .geq 3 t2 v48) h49 fun v50 h51 =>
  gd v50 (
  opsP (xX s 16 wl k false) xg16_1 11 h47.length ([], []) (runK (xX s 16 wl k false) (bodyK s.P Try.f16) xk16_1) ⟨(t0 :: t1 :: t2 :: t3 :: t4 :: t5 :: t6 :: t7 :: t8 :: t9 :: t10 :: v37 :: v42 :: v44 :: v46 :: t15 :: t16 :: t17 :: t18 :: t19 :: t20 :: t21 :: t22 :: t23 :: t24 :: t25 :: t26 :: t27 :: t28 :: t29 :: t30 :: t31 :: t32 :: t33 :: t34 :: t35 :: t36 :: t37 :: t38 :: t39 :: t40 :: t41 :: t42 :: t43 :: t44 :: t45 :: t46 :: v31 :: t48 :: t0 :: v33 :: v35 :: v40 :: t0 :: t1 :: v40 :: v42 :: v44 :: v46 :: t2 :: v46 :: v48 :: v50 :: (V.lit (Value.bool true)) :: uu :: uu :: uu :: uu :: uu :: uu :: t70 :: t71 :: t72 :: t73 :: t74 :: t75 :: t76 :: t77 :: t78 :: t79 :: t80 :: t81 :: t82 :: t83 :: t84 :: t85 :: t86 :: t87 :: t88 :: t89 :: t90 :: t91 :: t92 :: t93 :: t94 :: t95 :: t96 :: t97 :: t98 :: t99 :: t100 :: t101 :: t102 :: t103 :: t104 :: t105 :: t106 :: t107 :: t108 :: t109 :: t110 :: t111 :: t112 :: t113 :: t114 :: t115 :: []), h51⟩) (
  bm (vIndexAddr s.P 53 v46 t2 h51) h51 fun v52 h53 =>
  bm (vFieldAddr s.P 28 v52 0) h53 fun v54 h55 =>
  bm (vLoad s.P 3 v54 h55) h55 fun v56 h57 =>
  bm (vBin s.P .neq 3 v56 (V.lit (Value.int .i64 5))) h57 fun v58 h59 =>
  opsP (xX s 16 wl k false) xg16_1 11 h47.length ([], []) (runK (xX s 16 wl k false) (bodyK s.P Try.f16) xk16_1) ⟨(t0 :: t1 :: t2 :: t3 :: t4 :: t5 :: t6 :: t7 :: t8 :: t9 :: t10 :: v37 :: v42 :: v44 :: v46 :: t15 :: t16 :: t17 :: t18 :: t19 :: t20 :: t21 :: t22 :: t23 :: t24 :: t25 :: t26 :: t27 :: t28 :: t29 :: t30 :: t31 :: t32 :: t33 :: t34 :: t35 :: t36 :: t37 :: t38 :: t39 :: t40 :: t41 :: t42 :: t43 :: t44 :: t45 :: t46 :: v31 :: t48 :: t0 :: v33 :: v35 :: v40 :: t0 :: t1 :: v40 :: v42 :: v44 :: v46 :: t2 :: v46 :: v48 :: v50 :: (V.lit (Value.bool false)) :: v46 :: t2 :: v52 :: v54 :: v56 :: v58 :: t70 :: t71 :: t72 :: t73 :: t74 :: t75 :: t76 :: t77 :: t78 :: t79 :: t80 :: t81 :: t82 :: t83 :: t84 :: t85 :: t86 :: t87 :: t88 :: t89 :: t90 :: t91 :: t92 :: t93 :: t94 :: t95 :: t96 :: t97 :: t98 :: t99 :: t100 :: t101 :: t102 :: t103 :: t104 :: t105 :: t106 :: t107 :: t108 :: t109 :: t110 :: t111 :: t112 :: t113 :: t114 :: t115 :: []), h59⟩) (
  opsP (xX s 16 wl k false) xg16_1 6 h47.length ([], []) (runK (xX s 16 wl k false) (bodyK s.P Try.f16) xk16_1) ⟨(t0 :: t1 :: t2 :: t3 :: t4 :: t5 :: t6 :: t7 :: t8 :: t9 :: t10 :: v37 :: v42 :: v44 :: v46 :: t15 :: t16 :: t17 :: t18 :: t19 :: t20 :: t21 :: t22 :: t23 :: t24 :: t25 :: t26 :: t27 :: t28 :: t29 :: t30 :: t31 :: t32 :: t33 :: t34 :: t35 :: t36 :: t37 :: t38 :: t39 :: t40 :: t41 :: t42 :: t43 :: t44 :: t45 :: t46 :: v31 :: t48 :: t0 :: v33 :: v35 :: v40 :: t0 :: t1 :: v40 :: v42 :: v44 :: v46 :: t2 :: v46 :: v48 :: v50 :: v50 :: uu :: t65 :: t66 :: t67 :: t68 :: t69 :: t70 :: t71 :: t72 :: t73 :: t74 :: t75 :: t76 :: t77 :: t78 :: t79 :: t80 :: t81 :: t82 :: t83 :: t84 :: t85 :: t86 :: t87 :: t88 :: t89 :: t90 :: t91 :: t92 :: t93 :: t94 :: t95 :: t96 :: t97 :: t98 :: t99 :: t100 :: t101 :: t102 :: t103 :: t104 :: t105 :: t106 :: t107 :: t108 :: t109 :: t110 :: t111 :: t112 :: t113 :: t114 :: t115 :: []), h51⟩)) :=
  (go_op0 rfl rfl (st_bm (by kernel_rfl) fun v31 h32 =>
  (go_end0 (by kernel_rfl)
  (go_cond (by kernel_rfl)
  (go_seq (go_reg0
  (go_op0 rfl rfl (st_id (v := t9) (H := h32) (by kernel_rfl)
  (go_op0 rfl rfl (st_id (v := t9) (H := h32) (by kernel_rfl)
  (go_end0 (by kernel_rfl)
  (go_ret (rt_seq_ret (by kernel_rfl))))))))))
  (go_skip (go_seq (go_reg0
  (go_op0 rfl rfl (st_id (v := t0) (H := h32) (by kernel_rfl)
  (go_op0 rfl rfl (st_bp (by kernel_rfl) fun v33 h34 =>
  (go_op0 rfl rfl (st_bm (by kernel_rfl) fun v35 h36 =>
  (go_op0 rfl rfl (st_bp (by kernel_rfl) fun v37 h38 =>
  (go_op0 rfl rfl (st_bs (by kernel_rfl) fun h39 =>
  (go_end0 (by kernel_rfl)
  (go_seq (go_reg0
  (go_op0 rfl rfl (st_id (v := t0) (H := h39) (by kernel_rfl)
  (go_op0 rfl rfl (st_id (v := t1) (H := h39) (by kernel_rfl)
  (go_op0 rfl rfl (st_bp (by kernel_rfl) fun v40 h41 =>
  (go_op0 rfl rfl (st_id (v := v40) (H := h41) (by kernel_rfl)
  (go_op0 rfl rfl (st_bm (by kernel_rfl) fun v42 h43 =>
  (go_op0 rfl rfl (st_bm (by kernel_rfl) fun v44 h45 =>
  (go_op0 rfl rfl (st_bm (by kernel_rfl) fun v46 h47 =>
  (go_op0 rfl rfl (st_id (v := v42) (H := h47) (by kernel_rfl)
  (go_op0 rfl rfl (st_id (v := v44) (H := h47) (by kernel_rfl)
  (go_op0 rfl rfl (st_id (v := v46) (H := h47) (by kernel_rfl)
  (go_end0 (by kernel_rfl)
  (go_seq (go_seq (go_reg0
  (go_op0 rfl rfl (st_id (v := t2) (H := h47) (by kernel_rfl)
  (go_op0 rfl rfl (st_id (v := v46) (H := h47) (by kernel_rfl)
  (go_op0 rfl rfl (st_bp (by kernel_rfl) fun v48 h49 =>
  (go_op0 rfl rfl (st_bm (by kernel_rfl) fun v50 h51 =>
  (go_op0 rfl rfl (st_id (v := v50) (H := h51) (by kernel_rfl)
  (go_gdF0 rfl rfl rfl (by kernel_rfl)
  (go_skip0 rfl rfl rfl (by kernel_rfl)
  (go_skip0 rfl rfl rfl (by kernel_rfl)
  (go_skip0 rfl rfl rfl (by kernel_rfl)
  (go_skip0 rfl rfl rfl (by kernel_rfl)
  (go_skip0 rfl rfl rfl (by kernel_rfl)
  (by kernel_rfl))))))
  (st_id (v := v46) (H := h51) (by kernel_rfl)
  (go_run0 rfl rfl rfl (by kernel_rfl) (st_id (v := t2) (H := h51) (by kernel_rfl)
  (go_run0 rfl rfl rfl (by kernel_rfl) (st_bm (by kernel_rfl) fun v52 h53 =>
  (go_run0 rfl rfl rfl (by kernel_rfl) (st_bm (by kernel_rfl) fun v54 h55 =>
  (go_run0 rfl rfl rfl (by kernel_rfl) (st_bm (by kernel_rfl) fun v56 h57 =>
  (go_run0 rfl rfl rfl (by kernel_rfl) (st_bm (by kernel_rfl) fun v58 h59 =>
  (by kernel_rfl))))))))))))
  (by kernel_rfl))))))))))))))))))))))))))))))))))))))))))))))))))))))))
theorem xm16_5 (s : Sys) (k wl : Nat) (m0 : Nat) (ac : List Nat × List Nat) (t0 t1 t2 t3 t4 t5 t6 t7 t8 t9 t10 t11 t12 t13 t14 t15 t16 t17 t18 t19 t20 t21 t22 t23 t24 t25 t26 t27 t28 t29 t30 t31 t32 t33 t34 t35 t36 t37 t38 t39 t40 t41 t42 t43 t44 t45 t46 t47 t48 t49 t50 t51 t52 t53 t54 t55 t56 t57 t58 t59 t60 t61 t62 t63 t64 t65 t66 t67 t68 t69 t70 t71 t72 t73 t74 t75 t76 t77 t78 t79 t80 t81 t82 t83 t84 t85 t86 t87 t88 t89 t90 t91 t92 t93 t94 t95 t96 t97 t98 t99 t100 t101 t102 t103 t104 t105 t106 t107 t108 t109 t110 t111 t112 t113 t114 t115 : V) (h : Hp) : opsP (xX s 16 wl k false) xg16_1 11 m0 ac (runK (xX s 16 wl k false) (bodyK s.P Try.f16) xk16_1) ⟨(t0 :: t1 :: t2 :: t3 :: t4 :: t5 :: t6 :: t7 :: t8 :: t9 :: t10 :: t11 :: t12 :: t13 :: t14 :: t15 :: t16 :: t17 :: t18 :: t19 :: t20 :: t21 :: t22 :: t23 :: t24 :: t25 :: t26 :: t27 :: t28 :: t29 :: t30 :: t31 :: t32 :: t33 :: t34 :: t35 :: t36 :: t37 :: t38 :: t39 :: t40 :: t41 :: t42 :: t43 :: t44 :: t45 :: t46 :: t47 :: t48 :: t49 :: t50 :: t51 :: t52 :: t53 :: t54 :: t55 :: t56 :: t57 :: t58 :: t59 :: t60 :: t61 :: t62 :: t63 :: t64 :: t65 :: t66 :: t67 :: t68 :: t69 :: t70 :: t71 :: t72 :: t73 :: t74 :: t75 :: t76 :: t77 :: t78 :: t79 :: t80 :: t81 :: t82 :: t83 :: t84 :: t85 :: t86 :: t87 :: t88 :: t89 :: t90 :: t91 :: t92 :: t93 :: t94 :: t95 :: t96 :: t97 :: t98 :: t99 :: t100 :: t101 :: t102 :: t103 :: t104 :: t105 :: t106 :: t107 :: t108 :: t109 :: t110 :: t111 :: t112 :: t113 :: t114 :: t115 :: []), h⟩ =
  bm (vPick t63 (V.lit (Value.bool true)) t69) h fun v60 h61 =>
  gd v60 (
  opsP (xX s 16 wl k false) xg16_1 19 m0 ac (runK (xX s 16 wl k false) (bodyK s.P Try.f16) xk16_1) ⟨(t0 :: t1 :: t2 :: t3 :: t4 :: t5 :: t6 :: t7 :: t8 :: t9 :: t10 :: t11 :: t12 :: t13 :: t14 :: t15 :: t16 :: t17 :: t18 :: t19 :: t20 :: t21 :: t22 :: t23 :: t24 :: t25 :: t26 :: t27 :: t28 :: t29 :: t30 :: t31 :: t32 :: t33 :: t34 :: t35 :: t36 :: t37 :: t38 :: t39 :: t40 :: t41 :: t42 :: t43 :: t44 :: t45 :: t46 :: t47 :: t48 :: t49 :: t50 :: t51 :: t52 :: t53 :: t54 :: t55 :: t56 :: t57 :: t58 :: t59 :: t60 :: t61 :: t62 :: t63 :: t64 :: t65 :: t66 :: t67 :: t68 :: t69 :: v60 :: (V.lit (Value.bool true)) :: uu :: uu :: uu :: uu :: uu :: uu :: t78 :: t79 :: t80 :: t81 :: t82 :: t83 :: t84 :: t85 :: t86 :: t87 :: t88 :: t89 :: t90 :: t91 :: t92 :: t93 :: t94 :: t95 :: t96 :: t97 :: t98 :: t99 :: t100 :: t101 :: t102 :: t103 :: t104 :: t105 :: t106 :: t107 :: t108 :: t109 :: t110 :: t111 :: t112 :: t113 :: t114 :: t115 :: []), h61⟩) (
  bm (vIndexAddr s.P 53 t14 t2 h61) h61 fun v62 h63 =>
  bm (vFieldAddr s.P 28 v62 1) h63 fun v64 h65 =>
  bm (vLoad s.P 3 v64 h65) h65 fun v66 h67 =>
  bm (vBin s.P .neq 3 v66 (V.lit (Value.int .i64 1))) h67 fun v68 h69 =>
  opsP (xX s 16 wl k false) xg16_1 19 m0 ac (runK (xX s 16 wl k false) (bodyK s.P Try.f16) xk16_1) ⟨(t0 :: t1 :: t2 :: t3 :: t4 :: t5 :: t6 :: t7 :: t8 :: t9 :: t10 :: t11 :: t12 :: t13 :: t14 :: t15 :: t16 :: t17 :: t18 :: t19 :: t20 :: t21 :: t22 :: t23 :: t24 :: t25 :: t26 :: t27 :: t28 :: t29 :: t30 :: t31 :: t32 :: t33 :: t34 :: t35 :: t36 :: t37 :: t38 :: t39 :: t40 :: t41 :: t42 :: t43 :: t44 :: t45 :: t46 :: t47 :: t48 :: t49 :: t50 :: t51 :: t52 :: t53 :: t54 :: t55 :: t56 :: t57 :: t58 :: t59 :: t60 :: t61 :: t62 :: t63 :: t64 :: t65 :: t66 :: t67 :: t68 :: t69 :: v60 :: (V.lit (Value.bool false)) :: t14 :: t2 :: v62 :: v64 :: v66 :: v68 :: t78 :: t79 :: t80 :: t81 :: t82 :: t83 :: t84 :: t85 :: t86 :: t87 :: t88 :: t89 :: t90 :: t91 :: t92 :: t93 :: t94 :: t95 :: t96 :: t97 :: t98 :: t99 :: t100 :: t101 :: t102 :: t103 :: t104 :: t105 :: t106 :: t107 :: t108 :: t109 :: t110 :: t111 :: t112 :: t113 :: t114 :: t115 :: []), h69⟩) (
  opsP (xX s 16 wl k false) xg16_1 14 m0 ac (runK (xX s 16 wl k false) (bodyK s.P Try.f16) xk16_1) ⟨(t0 :: t1 :: t2 :: t3 :: t4 :: t5 :: t6 :: t7 :: t8 :: t9 :: t10 :: t11 :: t12 :: t13 :: t14 :: t15 :: t16 :: t17 :: t18 :: t19 :: t20 :: t21 :: t22 :: t23 :: t24 :: t25 :: t26 :: t27 :: t28 :: t29 :: t30 :: t31 :: t32 :: t33 :: t34 :: t35 :: t36 :: t37 :: t38 :: t39 :: t40 :: t41 :: t42 :: t43 :: t44 :: t45 :: t46 :: t47 :: t48 :: t49 :: t50 :: t51 :: t52 :: t53 :: t54 :: t55 :: t56 :: t57 :: t58 :: t59 :: t60 :: t61 :: t62 :: t63 :: t64 :: t65 :: t66 :: t67 :: t68 :: t69 :: v60 :: v60 :: uu :: t73 :: t74 :: t75 :: t76 :: t77 :: t78 :: t79 :: t80 :: t81 :: t82 :: t83 :: t84 :: t85 :: t86 :: t87 :: t88 :: t89 :: t90 :: t91 :: t92 :: t93 :: t94 :: t95 :: t96 :: t97 :: t98 :: t99 :: t100 :: t101 :: t102 :: t103 :: t104 :: t105 :: t106 :: t107 :: t108 :: t109 :: t110 :: t111 :: t112 :: t113 :: t114 :: t115 :: []), h61⟩) :=
  (go_op0 rfl rfl (st_bm (by kernel_rfl) fun v60 h61 =>
  (go_op0 rfl rfl (st_id (v := v60) (H := h61) (by kernel_rfl)
  (go_gdF0 rfl rfl rfl (by kernel_rfl)
  (go_skip0 rfl rfl rfl (by kernel_rfl)
  (go_skip0 rfl rfl rfl (by kernel_rfl)
  (go_skip0 rfl rfl rfl (by kernel_rfl)
  (go_skip0 rfl rfl rfl (by kernel_rfl)
  (go_skip0 rfl rfl rfl (by kernel_rfl)
  (by kernel_rfl))))))
  (st_id (v := t14) (H := h61) (by kernel_rfl)
  (go_run0 rfl rfl rfl (by kernel_rfl) (st_id (v := t2) (H := h61) (by kernel_rfl)
  (go_run0 rfl rfl rfl (by kernel_rfl) (st_bm (by kernel_rfl) fun v62 h63 =>
  (go_run0 rfl rfl rfl (by kernel_rfl) (st_bm (by kernel_rfl) fun v64 h65 =>
  (go_run0 rfl rfl rfl (by kernel_rfl) (st_bm (by kernel_rfl) fun v66 h67 =>
  (go_run0 rfl rfl rfl (by kernel_rfl) (st_bm (by kernel_rfl) fun v68 h69 =>
  (by kernel_rfl))))))))))))
  (by kernel_rfl))))))
theorem xm16_6 (s : Sys) (k wl : Nat) (m0 : Nat) (ac : List Nat × List Nat) (t0 t1 t2 t3 t4 t5 t6 t7 t8 t9 t10 t11 t12 t13 t14 t15 t16 t17 t18 t19 t20 t21 t22 t23 t24 t25 t26 t27 t28 t29 t30 t31 t32 t33 t34 t35 t36 t37 t38 t39 t40 t41 t42 t43 t44 t45 t46 t47 t48 t49 t50 t51 t52 t53 t54 t55 t56 t57 t58 t59 t60 t61 t62 t63 t64 t65 t66 t67 t68 t69 t70 t71 t72 t73 t74 t75 t76 t77 t78 t79 t80 t81 t82 t83 t84 t85 t86 t87 t88 t89 t90 t91 t92 t93 t94 t95 t96 t97 t98 t99 t100 t101 t102 t103 t104 t105 t106 t107 t108 t109 t110 t111 t112 t113 t114 t115 : V) (h : Hp) : opsP (xX s 16 wl k false) xg16_1 19 m0 ac (runK (xX s 16 wl k false) (bodyK s.P Try.f16) xk16_1) ⟨(t0 :: t1 :: t2 :: t3 :: t4 :: t5 :: t6 :: t7 :: t8 :: t9 :: t10 :: t11 :: t12 :: t13 :: t14 :: t15 :: t16 :: t17 :: t18 :: t19 :: t20 :: t21 :: t22 :: t23 :: t24 :: t25 :: t26 :: t27 :: t28 :: t29 :: t30 :: t31 :: t32 :: t33 :: t34 :: t35 :: t36 :: t37 :: t38 :: t39 :: t40 :: t41 :: t42 :: t43 :: t44 :: t45 :: t46 :: t47 :: t48 :: t49 :: t50 :: t51 :: t52 :: t53 :: t54 :: t55 :: t56 :: t57 :: t58 :: t59 :: t60 :: t61 :: t62 :: t63 :: t64 :: t65 :: t66 :: t67 :: t68 :: t69 :: t70 :: t71 :: t72 :: t73 :: t74 :: t75 :: t76 :: t77 :: t78 :: t79 :: t80 :: t81 :: t82 :: t83 :: t84 :: t85 :: t86 :: t87 :: t88 :: t89 :: t90 :: t91 :: t92 :: t93 :: t94 :: t95 :: t96 :: t97 :: t98 :: t99 :: t100 :: t101 :: t102 :: t103 :: t104 :: t105 :: t106 :: t107 :: t108 :: t109 :: t110 :: t111 :: t112 :: t113 :: t114 :: t115 :: []), h⟩ =
  bm (vPick t71 (V.lit (Value.bool true)) t77) h fun v70 h71 =>
  cnd v70 (
  bp (opLen s.P 53 t14 h71) fun v72 h73 =>
  bm (vBin s.P .lss 3 t2 v72) h73 fun v74 h75 =>
  some (v74, h75)) (
  bp (callV (xX s 16 wl k false) false true (.fn (.func 31) [] []) [(V.lit (Value.int .i64 6)), t2, (V.lit (Value.int .u64 0))] h71) fun v76 h77 =>
  bp (opAlloc s.P 28 h77) fun v78 h79 =>
  bs (vStore s.P wl 28 v78 v76 h79) fun h80 =>
  cnd t3 (
  bp (callV (xX s 16 wl k false) false true (.fn (.func 31) [] []) [(V.lit (Value.int .i64 7)), t2, (V.lit (Value.int .u64 0))] h80) fun v81 h82 =>
  bs (vStore s.P wl 28 v78 v81 h82) fun h83 =>
  runK (xX s 16 wl k false) (bodyK s.P Try.f16) xk16_2 .norm ⟨(t0 :: t1 :: t2 :: t3 :: t4 :: t5 :: t6 :: t7 :: t8 :: t9 :: t10 :: t11 :: t12 :: t13 :: t14 :: v78 :: t16 :: t17 :: t18 :: t19 :: t20 :: t21 :: t22 :: t23 :: t24 :: t25 :: t26 :: t27 :: t28 :: t29 :: t30 :: t31 :: t32 :: t33 :: t34 :: t35 :: t36 :: t37 :: t38 :: t39 :: t40 :: t41 :: t42 :: t43 :: t44 :: t45 :: t46 :: t47 :: t48 :: t49 :: t50 :: t51 :: t52 :: t53 :: t54 :: t55 :: t56 :: t57 :: t58 :: t59 :: t60 :: t61 :: t62 :: t63 :: t64 :: t65 :: t66 :: t67 :: t68 :: t69 :: t70 :: t71 :: t72 :: t73 :: t74 :: t75 :: t76 :: t77 :: v70 :: t79 :: t80 :: t81 :: t82 :: t2 :: v76 :: t3 :: t2 :: v81 :: t88 :: t89 :: t90 :: t91 :: t92 :: t93 :: t94 :: t95 :: t96 :: t97 :: t98 :: t99 :: t100 :: t101 :: t102 :: t103 :: t104 :: t105 :: t106 :: t107 :: t108 :: t109 :: t110 :: t111 :: t112 :: t113 :: t114 :: t115 :: []), h83⟩) (
  runK (xX s 16 wl k false) (bodyK s.P Try.f16) xk16_2 .norm ⟨(t0 :: t1 :: t2 :: t3 :: t4 :: t5 :: t6 :: t7 :: t8 :: t9 :: t10 :: t11 :: t12 :: t13 :: t14 :: v78 :: t16 :: t17 :: t18 :: t19 :: t20 :: t21 :: t22 :: t23 :: t24 :: t25 :: t26 :: t27 :: t28 :: t29 :: t30 :: t31 :: t32 :: t33 :: t34 :: t35 :: t36 :: t37 :: t38 :: t39 :: t40 :: t41 :: t42 :: t43 :: t44 :: t45 :: t46 :: t47 :: t48 :: t49 :: t50 :: t51 :: t52 :: t53 :: t54 :: t55 :: t56 :: t57 :: t58 :: t59 :: t60 :: t61 :: t62 :: t63 :: t64 :: t65 :: t66 :: t67 :: t68 :: t69 :: t70 :: t71 :: t72 :: t73 :: t74 :: t75 :: t76 :: t77 :: v70 :: t79 :: t80 :: t81 :: t82 :: t2 :: v76 :: t3 :: t86 :: t87 :: t88 :: t89 :: t90 :: t91 :: t92 :: t93 :: t94 :: t95 :: t96 :: t97 :: t98 :: t99 :: t100 :: t101 :: t102 :: t103 :: t104 :: t105 :: t106 :: t107 :: t108 :: t109 :: t110 :: t111 :: t112 :: t113 :: t114 :: t115 :: []), h80⟩)) :=
  (go_op0 rfl rfl (st_bm (by kernel_rfl) fun v70 h71 =>
  (go_end0 (by kernel_rfl)
  (go_cond (by kernel_rfl)
  (go_seq (go_reg0
  (go_op0 rfl rfl (st_id (v := t2) (H := h71) (by kernel_rfl)
  (go_op0 rfl rfl (st_id (v := t14) (H := h71) (by kernel_rfl)
  (go_op0 rfl rfl (st_bp (by kernel_rfl) fun v72 h73 =>
  (go_op0 rfl rfl (st_bm (by kernel_rfl) fun v74 h75 =>
  (go_op0 rfl rfl (st_id (v := v74) (H := h75) (by kernel_rfl)
  (go_end0 (by kernel_rfl)
  (go_ret (rt_seq_ret (by kernel_rfl))))))))))))))))
  (go_skip (go_seq (go_reg0
  (go_op0 rfl rfl (st_id (v := t2) (H := h71) (by kernel_rfl)
  (go_op0 rfl rfl (st_bp (by kernel_rfl) fun v76 h77 =>
  (go_op0 rfl rfl (st_bp (by kernel_rfl) fun v78 h79 =>
  (go_op0 rfl rfl (st_bs (by kernel_rfl) fun h80 =>
  (go_end0 (by kernel_rfl)
  (go_seq (go_seq (go_reg0
  (go_op0 rfl rfl (st_id (v := t3) (H := h80) (by kernel_rfl)
  (go_end0 (by kernel_rfl)
  (go_cond (by kernel_rfl)
  (go_reg0
  (go_op0 rfl rfl (st_id (v := t2) (H := h80) (by kernel_rfl)
  (go_op0 rfl rfl (st_bp (by kernel_rfl) fun v81 h82 =>
  (go_op0 rfl rfl (st_bs (by kernel_rfl) fun h83 =>
  (go_end0 (by kernel_rfl)
  (by kernel_rfl)))))))))
  (go_skip (by kernel_rfl)))))))))))))))))))))))))
theorem xj16_7 (s : Sys) (k wl : Nat) (t0 t1 t2 t3 t4 t5 t6 t7 t8 t9 t10 t11 t12 t13 t14 t15 t16 t17 t18 t19 t20 t21 t22 t23 t24 t25 t26 t27 t28 t29 t30 t31 t32 t33 t34 t35 t36 t37 t38 t39 t40 t41 t42 t43 t44 t45 t46 t47 t48 t49 t50 t51 t52 t53 t54 t55 t56 t57 t58 t59 t60 t61 t62 t63 t64 t65 t66 t67 t68 t69 t70 t71 t72 t73 t74 t75 t76 t77 t78 t79 t80 t81 t82 t83 t84 t85 t86 t87 t88 t89 t90 t91 t92 t93 t94 t95 t96 t97 t98 t99 t100 t101 t102 t103 t104 t105 t106 t107 t108 t109 t110 t111 t112 t113 t114 t115 : V) (h : Hp) : runK (xX s 16 wl k false) (bodyK s.P Try.f16) xk16_2 .norm ⟨(t0 :: t1 :: t2 :: t3 :: t4 :: t5 :: t6 :: t7 :: t8 :: t9 :: t10 :: t11 :: t12 :: t13 :: t14 :: t15 :: t16 :: t17 :: t18 :: t19 :: t20 :: t21 :: t22 :: t23 :: t24 :: t25 :: t26 :: t27 :: t28 :: t29 :: t30 :: t31 :: t32 :: t33 :: t34 :: t35 :: t36 :: t37 :: t38 :: t39 :: t40 :: t41 :: t42 :: t43 :: t44 :: t45 :: t46 :: t47 :: t48 :: t49 :: t50 :: t51 :: t52 :: t53 :: t54 :: t55 :: t56 :: t57 :: t58 :: t59 :: t60 :: t61 :: t62 :: t63 :: t64 :: t65 :: t66 :: t67 :: t68 :: t69 :: t70 :: t71 :: t72 :: t73 :: t74 :: t75 :: t76 :: t77 :: t78 :: t79 :: t80 :: t81 :: t82 :: t83 :: t84 :: t85 :: t86 :: t87 :: t88 :: t89 :: t90 :: t91 :: t92 :: t93 :: t94 :: t95 :: t96 :: t97 :: t98 :: t99 :: t100 :: t101 :: t102 :: t103 :: t104 :: t105 :: t106 :: t107 :: t108 :: t109 :: t110 :: t111 :: t112 :: t113 :: t114 :: t115 :: []), h⟩ =
  itX (xX s 16 wl k false) xl16_0 h.length (runK (xX s 16 wl k false) (bodyK s.P Try.f16) xk16_3) k ⟨((V.kill h.length t0) :: (V.kill h.length t1) :: (V.kill h.length t2) :: (V.kill h.length t3) :: (V.kill h.length t4) :: (V.kill h.length t5) :: (V.kill h.length t6) :: (V.kill h.length t7) :: (V.kill h.length t8) :: (V.kill h.length t9) :: (V.kill h.length t10) :: (V.kill h.length t11) :: (V.kill h.length t12) :: (V.kill h.length t13) :: (V.kill h.length t14) :: (V.kill h.length t15) :: (V.lit (Value.int .i64 0)) :: (V.kill h.length t17) :: (V.kill h.length t18) :: (V.kill h.length t19) :: (V.kill h.length t20) :: (V.kill h.length t21) :: (V.kill h.length t22) :: (V.kill h.length t23) :: (V.kill h.length t24) :: (V.kill h.length t25) :: (V.kill h.length t26) :: (V.kill h.length t27) :: (V.kill h.length t28) :: (V.kill h.length t29) :: (V.kill h.length t30) :: (V.kill h.length t31) :: (V.kill h.length t32) :: (V.kill h.length t33) :: (V.kill h.length t34) :: (V.kill h.length t35) :: (V.kill h.length t36) :: (V.kill h.length t37) :: (V.kill h.length t38) :: (V.kill h.length t39) :: (V.kill h.length t40) :: (V.kill h.length t41) :: (V.kill h.length t42) :: (V.kill h.length t43) :: (V.kill h.length t44) :: (V.kill h.length t45) :: (V.kill h.length t46) :: (V.kill h.length t47) :: (V.kill h.length t48) :: (V.kill h.length t49) :: (V.kill h.length t50) :: (V.kill h.length t51) :: (V.kill h.length t52) :: (V.kill h.length t53) :: (V.kill h.length t54) :: (V.kill h.length t55) :: (V.kill h.length t56) :: (V.kill h.length t57) :: (V.kill h.length t58) :: (V.kill h.length t59) :: (V.kill h.length t60) :: (V.kill h.length t61) :: (V.kill h.length t62) :: (V.kill h.length t63) :: (V.kill h.length t64) :: (V.kill h.length t65) :: (V.kill h.length t66) :: (V.kill h.length t67) :: (V.kill h.length t68) :: (V.kill h.length t69) :: (V.kill h.length t70) :: (V.kill h.length t71) :: (V.kill h.length t72) :: (V.kill h.length t73) :: (V.kill h.length t74) :: (V.kill h.length t75) :: (V.kill h.length t76) :: (V.kill h.length t77) :: (V.kill h.length t78) :: (V.kill h.length t79) :: (V.kill h.length t80) :: (V.kill h.length t81) :: (V.kill h.length t82) :: (V.kill h.length t83) :: (V.kill h.length t84) :: (V.kill h.length t85) :: (V.kill h.length t86) :: (V.kill h.length t87) :: .junk :: .junk :: .junk :: .junk :: .junk :: .junk :: .junk :: .junk :: .junk :: .junk :: .junk :: (V.kill h.length t99) :: (V.kill h.length t100) :: (V.kill h.length t101) :: (V.kill h.length t102) :: (V.kill h.length t103) :: (V.kill h.length t104) :: (V.kill h.length t105) :: (V.kill h.length t106) :: (V.kill h.length t107) :: (V.kill h.length t108) :: (V.kill h.length t109) :: (V.kill h.length t110) :: (V.kill h.length t111) :: (V.kill h.length t112) :: (V.kill h.length t113) :: (V.kill h.length t114) :: (V.kill h.length t115) :: []), cutH h.length h⟩ :=
  (go_seq (go_seq (go_reg0
  (go_op0 rfl rfl (st_id (v := (V.lit (Value.int .i64 0))) (H := h) (by kernel_rfl)
  (go_end0 (by kernel_rfl)
  (go_block (by kernel_rfl))))))))
theorem xr16_0 (s : Sys) (K : Out → St → Option (V × Hp)) (k wl : Nat) (rd : Bool) (n n0 : Nat) (t0 t1 t2 t3 t4 t5 t6 t7 t8 t9 t10 t11 t12 t13 t14 t15 t16 t17 t18 t19 t20 t21 t22 t23 t24 t25 t26 t27 t28 t29 t30 t31 t32 t33 t34 t35 t36 t37 t38 t39 t40 t41 t42 t43 t44 t45 t46 t47 t48 t49 t50 t51 t52 t53 t54 t55 t56 t57 t58 t59 t60 t61 t62 t63 t64 t65 t66 t67 t68 t69 t70 t71 t72 t73 t74 t75 t76 t77 t78 t79 t80 t81 t82 t83 t84 t85 t86 t87 t88 t89 t90 t91 t92 t93 t94 t95 t96 t97 t98 t99 t100 t101 t102 t103 t104 t105 t106 t107 t108 t109 t110 t111 t112 t113 t114 t115 : V) (h : Hp) : itX (xX s 16 wl k rd) xl16_0 n0 K (n + 1) ⟨(t0 :: t1 :: t2 :: t3 :: t4 :: t5 :: t6 :: t7 :: t8 :: t9 :: t10 :: t11 :: t12 :: t13 :: t14 :: t15 :: t16 :: t17 :: t18 :: t19 :: t20 :: t21 :: t22 :: t23 :: t24 :: t25 :: t26 :: t27 :: t28 :: t29 :: t30 :: t31 :: t32 :: t33 :: t34 :: t35 :: t36 :: t37 :: t38 :: t39 :: t40 :: t41 :: t42 :: t43 :: t44 :: t45 :: t46 :: t47 :: t48 :: t49 :: t50 :: t51 :: t52 :: t53 :: t54 :: t55 :: t56 :: t57 :: t58 :: t59 :: t60 :: t61 :: t62 :: t63 :: t64 :: t65 :: t66 :: t67 :: t68 :: t69 :: t70 :: t71 :: t72 :: t73 :: t74 :: t75 :: t76 :: t77 :: t78 :: t79 :: t80 :: t81 :: t82 :: t83 :: t84 :: t85 :: t86 :: t87 :: t88 :: t89 :: t90 :: t91 :: t92 :: t93 :: t94 :: t95 :: t96 :: t97 :: t98 :: t99 :: t100 :: t101 :: t102 :: t103 :: t104 :: t105 :: t106 :: t107 :: t108 :: t109 :: t110 :: t111 :: t112 :: t113 :: t114 :: t115 :: []), h⟩ =
  bm (vBin s.P .lss 3 t16 (V.lit (Value.int .i64 20))) h fun v84 h85 =>
  cnd v84 (
  bm (vLoad s.P 23 t11 h85) h85 fun v86 h87 =>
  bm (vLoad s.P 28 t15 h87) h87 fun v88 h89 =>
  bp (callV (xX s 16 wl k rd) false true (.fn (.func 37) [] []) [v86, t12, v88] h89) fun v90 h91 =>
  bm (vExtract v90 0) h91 fun v92 h93 =>
  bm (vExtract v90 1) h93 fun v94 h95 =>
  bs (vStore s.P wl 28 t15 v94 h95) fun h96 =>
  bm (vBin s.P .add 3 t16 (V.lit (Value.int .i64 1))) h96 fun v97 h98 =>
  itX (xX s 16 wl k rd) xl16_0 n0 K n ⟨((V.kill n0 t0) :: (V.kill n0 t1) :: (V.kill n0 t2) :: (V.kill n0 t3) :: (V.kill n0 t4) :: (V.kill n0 t5) :: (V.kill n0 t6) :: (V.kill n0 t7) :: (V.kill n0 t8) :: (V.kill n0 t9) :: (V.kill n0 t10) :: (V.kill n0 t11) :: (V.kill n0 v92) :: (V.kill n0 t13) :: (V.kill n0 t14) :: (V.kill n0 t15) :: (V.kill n0 v97) :: (V.kill n0 t17) :: (V.kill n0 t18) :: (V.kill n0 t19) :: (V.kill n0 t20) :: (V.kill n0 t21) :: (V.kill n0 t22) :: (V.kill n0 t23) :: (V.kill n0 t24) :: (V.kill n0 t25) :: (V.kill n0 t26) :: (V.kill n0 t27) :: (V.kill n0 t28) :: (V.kill n0 t29) :: (V.kill n0 t30) :: (V.kill n0 t31) :: (V.kill n0 t32) :: (V.kill n0 t33) :: (V.kill n0 t34) :: (V.kill n0 t35) :: (V.kill n0 t36) :: (V.kill n0 t37) :: (V.kill n0 t38) :: (V.kill n0 t39) :: (V.kill n0 t40) :: (V.kill n0 t41) :: (V.kill n0 t42) :: (V.kill n0 t43) :: (V.kill n0 t44) :: (V.kill n0 t45) :: (V.kill n0 t46) :: (V.kill n0 t47) :: (V.kill n0 t48) :: (V.kill n0 t49) :: (V.kill n0 t50) :: (V.kill n0 t51) :: (V.kill n0 t52) :: (V.kill n0 t53) :: (V.kill n0 t54) :: (V.kill n0 t55) :: (V.kill n0 t56) :: (V.kill n0 t57) :: (V.kill n0 t58) :: (V.kill n0 t59) :: (V.kill n0 t60) :: (V.kill n0 t61) :: (V.kill n0 t62) :: (V.kill n0 t63) :: (V.kill n0 t64) :: (V.kill n0 t65) :: (V.kill n0 t66) :: (V.kill n0 t67) :: (V.kill n0 t68) :: (V.kill n0 t69) :: (V.kill n0 t70) :: (V.kill n0 t71) :: (V.kill n0 t72) :: (V.kill n0 t73) :: (V.kill n0 t74) :: (V.kill n0 t75) :: (V.kill n0 t76) :: (V.kill n0 t77) :: (V.kill n0 t78) :: (V.kill n0 t79) :: (V.kill n0 t80) :: (V.kill n0 t81) :: (V.kill n0 t82) :: (V.kill n0 t83) :: (V.kill n0 t84) :: (V.kill n0 t85) :: (V.kill n0 t86) :: (V.kill n0 t87) :: .junk :: .junk :: .junk :: .junk :: .junk :: .junk :: .junk :: .junk :: .junk :: .junk :: .junk :: (V.kill n0 t99) :: (V.kill n0 t100) :: (V.kill n0 t101) :: (V.kill n0 t102) :: (V.kill n0 t103) :: (V.kill n0 t104) :: (V.kill n0 t105) :: (V.kill n0 t106) :: (V.kill n0 t107) :: (V.kill n0 t108) :: (V.kill n0 t109) :: (V.kill n0 t110) :: (V.kill n0 t111) :: (V.kill n0 t112) :: (V.kill n0 t113) :: (V.kill n0 t114) :: (V.kill n0 t115) :: []), cutH n0 h98⟩) (
  K (.exit 0) ⟨((V.kill n0 t0) :: (V.kill n0 t1) :: (V.kill n0 t2) :: (V.kill n0 t3) :: (V.kill n0 t4) :: (V.kill n0 t5) :: (V.kill n0 t6) :: (V.kill n0 t7) :: (V.kill n0 t8) :: (V.kill n0 t9) :: (V.kill n0 t10) :: (V.kill n0 t11) :: (V.kill n0 t12) :: (V.kill n0 t13) :: (V.kill n0 t14) :: (V.kill n0 t15) :: (V.kill n0 t16) :: (V.kill n0 t17) :: (V.kill n0 t18) :: (V.kill n0 t19) :: (V.kill n0 t20) :: (V.kill n0 t21) :: (V.kill n0 t22) :: (V.kill n0 t23) :: (V.kill n0 t24) :: (V.kill n0 t25) :: (V.kill n0 t26) :: (V.kill n0 t27) :: (V.kill n0 t28) :: (V.kill n0 t29) :: (V.kill n0 t30) :: (V.kill n0 t31) :: (V.kill n0 t32) :: (V.kill n0 t33) :: (V.kill n0 t34) :: (V.kill n0 t35) :: (V.kill n0 t36) :: (V.kill n0 t37) :: (V.kill n0 t38) :: (V.kill n0 t39) :: (V.kill n0 t40) :: (V.kill n0 t41) :: (V.kill n0 t42) :: (V.kill n0 t43) :: (V.kill n0 t44) :: (V.kill n0 t45) :: (V.kill n0 t46) :: (V.kill n0 t47) :: (V.kill n0 t48) :: (V.kill n0 t49) :: (V.kill n0 t50) :: (V.kill n0 t51) :: (V.kill n0 t52) :: (V.kill n0 t53) :: (V.kill n0 t54) :: (V.kill n0 t55) :: (V.kill n0 t56) :: (V.kill n0 t57) :: (V.kill n0 t58) :: (V.kill n0 t59) :: (V.kill n0 t60) :: (V.kill n0 t61) :: (V.kill n0 t62) :: (V.kill n0 t63) :: (V.kill n0 t64) :: (V.kill n0 t65) :: (V.kill n0 t66) :: (V.kill n0 t67) :: (V.kill n0 t68) :: (V.kill n0 t69) :: (V.kill n0 t70) :: (V.kill n0 t71) :: (V.kill n0 t72) :: (V.kill n0 t73) :: (V.kill n0 t74) :: (V.kill n0 t75) :: (V.kill n0 t76) :: (V.kill n0 t77) :: (V.kill n0 t78) :: (V.kill n0 t79) :: (V.kill n0 t80) :: (V.kill n0 t81) :: (V.kill n0 t82) :: (V.kill n0 t83) :: (V.kill n0 t84) :: (V.kill n0 t85) :: (V.kill n0 t86) :: (V.kill n0 t87) :: .junk :: .junk :: .junk :: .junk :: .junk :: .junk :: .junk :: .junk :: .junk :: .junk :: .junk :: (V.kill n0 t99) :: (V.kill n0 t100) :: (V.kill n0 t101) :: (V.kill n0 t102) :: (V.kill n0 t103) :: (V.kill n0 t104) :: (V.kill n0 t105) :: (V.kill n0 t106) :: (V.kill n0 t107) :: (V.kill n0 t108) :: (V.kill n0 t109) :: (V.kill n0 t110) :: (V.kill n0 t111) :: (V.kill n0 t112) :: (V.kill n0 t113) :: (V.kill n0 t114) :: (V.kill n0 t115) :: []), cutH n0 h85⟩) :=
  itX_step (go_seq (go_seq (go_reg0
  (go_op0 rfl rfl (st_id (v := t16) (H := h) (by kernel_rfl)
  (go_op0 rfl rfl (st_bm (by kernel_rfl) fun v84 h85 =>
  (go_end0 (by kernel_rfl)
  (go_cond (by kernel_rfl)
  (go_skip (go_seq (go_block (go_reg0
  (go_op0 rfl rfl (st_bm (by kernel_rfl) fun v86 h87 =>
  (go_op0 rfl rfl (st_id (v := t12) (H := h87) (by kernel_rfl)
  (go_op0 rfl rfl (st_bm (by kernel_rfl) fun v88 h89 =>
  (go_op0 rfl rfl (st_bp (by kernel_rfl) fun v90 h91 =>
  (go_op0 rfl rfl (st_id (v := v90) (H := h91) (by kernel_rfl)
  (go_op0 rfl rfl (st_bm (by kernel_rfl) fun v92 h93 =>
  (go_op0 rfl rfl (st_bm (by kernel_rfl) fun v94 h95 =>
  (go_op0 rfl rfl (st_id (v := v92) (H := h95) (by kernel_rfl)
  (go_op0 rfl rfl (st_bs (by kernel_rfl) fun h96 =>
  (go_end0 (by kernel_rfl)
  (rt_block_norm (go_reg0
  (go_op0 rfl rfl (st_id (v := t16) (H := h96) (by kernel_rfl)
  (go_op0 rfl rfl (st_bm (by kernel_rfl) fun v97 h98 =>
  (go_op0 rfl rfl (st_id (v := v97) (H := h98) (by kernel_rfl)
  (go_end0 (by kernel_rfl)
  (by kernel_rfl)))))))))))))))))))))))))))))))))
  (go_exit (rt_seq_exit (by kernel_rfl))))))))))))
theorem xj16_8 (s : Sys) (k wl : Nat) (t0 t1 t2 t3 t4 t5 t6 t7 t8 t9 t10 t11 t12 t13 t14 t15 t16 t17 t18 t19 t20 t21 t22 t23 t24 t25 t26 t27 t28 t29 t30 t31 t32 t33 t34 t35 t36 t37 t38 t39 t40 t41 t42 t43 t44 t45 t46 t47 t48 t49 t50 t51 t52 t53 t54 t55 t56 t57 t58 t59 t60 t61 t62 t63 t64 t65 t66 t67 t68 t69 t70 t71 t72 t73 t74 t75 t76 t77 t78 t79 t80 t81 t82 t83 t84 t85 t86 t87 t88 t89 t90 t91 t92 t93 t94 t95 t96 t97 t98 t99 t100 t101 t102 t103 t104 t105 t106 t107 t108 t109 t110 t111 t112 t113 t114 t115 : V) (h : Hp) : runK (xX s 16 wl k false) (bodyK s.P Try.f16) xk16_3 (.exit 0) ⟨(t0 :: t1 :: t2 :: t3 :: t4 :: t5 :: t6 :: t7 :: t8 :: t9 :: t10 :: t11 :: t12 :: t13 :: t14 :: t15 :: t16 :: t17 :: t18 :: t19 :: t20 :: t21 :: t22 :: t23 :: t24 :: t25 :: t26 :: t27 :: t28 :: t29 :: t30 :: t31 :: t32 :: t33 :: t34 :: t35 :: t36 :: t37 :: t38 :: t39 :: t40 :: t41 :: t42 :: t43 :: t44 :: t45 :: t46 :: t47 :: t48 :: t49 :: t50 :: t51 :: t52 :: t53 :: t54 :: t55 :: t56 :: t57 :: t58 :: t59 :: t60 :: t61 :: t62 :: t63 :: t64 :: t65 :: t66 :: t67 :: t68 :: t69 :: t70 :: t71 :: t72 :: t73 :: t74 :: t75 :: t76 :: t77 :: t78 :: t79 :: t80 :: t81 :: t82 :: t83 :: t84 :: t85 :: t86 :: t87 :: t88 :: t89 :: t90 :: t91 :: t92 :: t93 :: t94 :: t95 :: t96 :: t97 :: t98 :: t99 :: t100 :: t101 :: t102 :: t103 :: t104 :: t105 :: t106 :: t107 :: t108 :: t109 :: t110 :: t111 :: t112 :: t113 :: t114 :: t115 :: []), h⟩ =
  bp (opAlloc s.P 28 h) fun v99 h100 =>
  bm (vLoad s.P 23 t11 h100) h100 fun v101 h102 =>
  bm (vIndexAddr s.P 53 t14 t2 h102) h102 fun v103 h104 =>
  bm (vLoad s.P 28 v103 h104) h104 fun v105 h106 =>
  bp (callV (xX s 16 wl k false) true true (.fn (.func 21) [] []) [v101, t12, v105] h106) fun v107 h108 =>
  bm (vExtract v107 0) h108 fun v109 h110 =>
  bm (vExtract v107 1) h110 fun v111 h112 =>
  bs (vStore s.P wl 28 v99 v111 h112) fun h113 =>
  bm (vLoad s.P 28 t15 h113) h113 fun v114 h115 =>
  bp (callV (xX s 16 wl k false) false true (.fn (.func 43) [] []) [v114] h115) fun v116 h117 =>
  gd v116 (
  bm (vFieldAddr s.P 28 v99 6) h117 fun v118 h119 =>
  bm (vLoad s.P 3 v118 h119) h119 fun v120 h121 =>
  bm (vBin s.P .eql 3 v120 (V.lit (Value.int .i64 4))) h121 fun v122 h123 =>
  opsP (xX s 16 wl k false) xg16_3 6 h113.length ([], []) (runK (xX s 16 wl k false) (bodyK s.P Try.f16) xk16_4) ⟨(t0 :: t1 :: t2 :: t3 :: t4 :: t5 :: t6 :: t7 :: t8 :: t9 :: t10 :: t11 :: t12 :: t13 :: t14 :: t15 :: t16 :: v109 :: v99 :: t19 :: t20 :: t21 :: t22 :: t23 :: t24 :: t25 :: t26 :: t27 :: t28 :: t29 :: t30 :: t31 :: t32 :: t33 :: t34 :: t35 :: t36 :: t37 :: t38 :: t39 :: t40 :: t41 :: t42 :: t43 :: t44 :: t45 :: t46 :: t47 :: t48 :: t49 :: t50 :: t51 :: t52 :: t53 :: t54 :: t55 :: t56 :: t57 :: t58 :: t59 :: t60 :: t61 :: t62 :: t63 :: t64 :: t65 :: t66 :: t67 :: t68 :: t69 :: t70 :: t71 :: t72 :: t73 :: t74 :: t75 :: t76 :: t77 :: t78 :: t79 :: t80 :: t81 :: t82 :: t83 :: t84 :: t85 :: t86 :: t87 :: t88 :: t89 :: t90 :: t91 :: t92 :: t93 :: t94 :: t95 :: t96 :: t97 :: t98 :: v107 :: v101 :: t12 :: t14 :: t2 :: v103 :: v105 :: v107 :: v109 :: v111 :: v114 :: v116 :: (V.lit (Value.bool true)) :: v118 :: v120 :: v122 :: t115 :: []), h123⟩) (
  opsP (xX s 16 wl k false) xg16_3 6 h113.length ([], []) (runK (xX s 16 wl k false) (bodyK s.P Try.f16) xk16_4) ⟨(t0 :: t1 :: t2 :: t3 :: t4 :: t5 :: t6 :: t7 :: t8 :: t9 :: t10 :: t11 :: t12 :: t13 :: t14 :: t15 :: t16 :: v109 :: v99 :: t19 :: t20 :: t21 :: t22 :: t23 :: t24 :: t25 :: t26 :: t27 :: t28 :: t29 :: t30 :: t31 :: t32 :: t33 :: t34 :: t35 :: t36 :: t37 :: t38 :: t39 :: t40 :: t41 :: t42 :: t43 :: t44 :: t45 :: t46 :: t47 :: t48 :: t49 :: t50 :: t51 :: t52 :: t53 :: t54 :: t55 :: t56 :: t57 :: t58 :: t59 :: t60 :: t61 :: t62 :: t63 :: t64 :: t65 :: t66 :: t67 :: t68 :: t69 :: t70 :: t71 :: t72 :: t73 :: t74 :: t75 :: t76 :: t77 :: t78 :: t79 :: t80 :: t81 :: t82 :: t83 :: t84 :: t85 :: t86 :: t87 :: t88 :: t89 :: t90 :: t91 :: t92 :: t93 :: t94 :: t95 :: t96 :: t97 :: t98 :: v107 :: v101 :: t12 :: t14 :: t2 :: v103 :: v105 :: v107 :: v109 :: v111 :: v114 :: v116 :: (V.lit (Value.bool false)) :: uu :: uu :: uu :: t115 :: []), h117⟩) (
  opsP (xX s 16 wl k false) xg16_3 4 h113.length ([], []) (runK (xX s 16 wl k false) (bodyK s.P Try.f16) xk16_4) ⟨(t0 :: t1 :: t2 :: t3 :: t4 :: t5 :: t6 :: t7 :: t8 :: t9 :: t10 :: t11 :: t12 :: t13 :: t14 :: t15 :: t16 :: v109 :: v99 :: t19 :: t20 :: t21 :: t22 :: t23 :: t24 :: t25 :: t26 :: t27 :: t28 :: t29 :: t30 :: t31 :: t32 :: t33 :: t34 :: t35 :: t36 :: t37 :: t38 :: t39 :: t40 :: t41 :: t42 :: t43 :: t44 :: t45 :: t46 :: t47 :: t48 :: t49 :: t50 :: t51 :: t52 :: t53 :: t54 :: t55 :: t56 :: t57 :: t58 :: t59 :: t60 :: t61 :: t62 :: t63 :: t64 :: t65 :: t66 :: t67 :: t68 :: t69 :: t70 :: t71 :: t72 :: t73 :: t74 :: t75 :: t76 :: t77 :: t78 :: t79 :: t80 :: t81 :: t82 :: t83 :: t84 :: t85 :: t86 :: t87 :: t88 :: t89 :: t90 :: t91 :: t92 :: t93 :: t94 :: t95 :: t96 :: t97 :: t98 :: v107 :: v101 :: t12 :: t14 :: t2 :: v103 :: v105 :: v107 :: v109 :: v111 :: v114 :: v116 :: v116 :: uu :: t113 :: t114 :: t115 :: []), h117⟩) :=
  (rt_block_eq (go_seq (go_reg1 xo16_16r
  (go_op1 xo16_16 xo16_16a rfl rfl rfl (st_no (by kernel_rfl) (st_bp (by kernel_rfl) fun v99 h100 =>
  (go_op1 xo16_16 xo16_16a rfl rfl rfl (st_no (by kernel_rfl) (st_bm (by kernel_rfl) fun v101 h102 =>
  (go_op1 xo16_16 xo16_16a rfl rfl rfl (st_no (by kernel_rfl) (st_id (v := t12) (H := h102) (by kernel_rfl)
  (go_op1 xo16_16 xo16_16a rfl rfl rfl (st_no (by kernel_rfl) (st_id (v := t14) (H := h102) (by kernel_rfl)
  (go_op1 xo16_16 xo16_16a rfl rfl rfl (st_no (by kernel_rfl) (st_id (v := t2) (H := h102) (by kernel_rfl)
  (go_op1 xo16_16 xo16_16a rfl rfl rfl (st_no (by kernel_rfl) (st_bm (by kernel_rfl) fun v103 h104 =>
  (go_op1 xo16_16 xo16_16a rfl rfl rfl (st_no (by kernel_rfl) (st_bm (by kernel_rfl) fun v105 h106 =>
  (go_op1 xo16_16 xo16_16a rfl rfl rfl (st_no (by kernel_rfl) (st_bp (by kernel_rfl) fun v107 h108 =>
  (go_op1 xo16_16 xo16_16a rfl rfl rfl (st_no (by kernel_rfl) (st_id (v := v107) (H := h108) (by kernel_rfl)
  (go_op1 xo16_16 xo16_16a rfl rfl rfl (st_no (by kernel_rfl) (st_bm (by kernel_rfl) fun v109 h110 =>
  (go_op1 xo16_16 xo16_16a rfl rfl rfl (st_no (by kernel_rfl) (st_bm (by kernel_rfl) fun v111 h112 =>
  (go_op1 xo16_16 xo16_16a rfl rfl rfl (st_no (by kernel_rfl) (st_id (v := v109) (H := h112) (by kernel_rfl)
  (go_op1 xo16_16 xo16_16a rfl rfl rfl (st_no (by kernel_rfl) (st_bs (by kernel_rfl) fun h113 =>
  (go_end1 xo16_16 (by kernel_rfl) xo16_16a
  (go_seq (go_reg0
  (go_op0 rfl rfl (st_bm (by kernel_rfl) fun v114 h115 =>
  (go_op0 rfl rfl (st_bp (by kernel_rfl) fun v116 h117 =>
  (go_op0 rfl rfl (st_id (v := v116) (H := h117) (by kernel_rfl)
  (go_gdT0 rfl rfl rfl (by kernel_rfl)
  (st_bm (by kernel_rfl) fun v118 h119 =>
  (go_run0 rfl rfl rfl (by kernel_rfl) (st_bm (by kernel_rfl) fun v120 h121 =>
  (go_run0 rfl rfl rfl (by kernel_rfl) (st_bm (by kernel_rfl) fun v122 h123 =>
  (by kernel_rfl))))))
  (go_skip0 rfl rfl rfl (by kernel_rfl)
  (go_skip0 rfl rfl rfl (by kernel_rfl)
  (by kernel_rfl)))
  (by kernel_rfl)))))))))))))))))))))))))))))))))))))))))))))))))))))
theorem xm16_9 (s : Sys) (k wl : Nat) (m0 : Nat) (ac : List Nat × List Nat) (t0 t1 t2 t3 t4 t5 t6 t7 t8 t9 t10 t11 t12 t13 t14 t15 t16 t17 t18 t19 t20 t21 t22 t23 t24 t25 t26 t27 t28 t29 t30 t31 t32 t33 t34 t35 t36 t37 t38 t39 t40 t41 t42 t43 t44 t45 t46 t47 t48 t49 t50 t51 t52 t53 t54 t55 t56 t57 t58 t59 t60 t61 t62 t63 t64 t65 t66 t67 t68 t69 t70 t71 t72 t73 t74 t75 t76 t77 t78 t79 t80 t81 t82 t83 t84 t85 t86 t87 t88 t89 t90 t91 t92 t93 t94 t95 t96 t97 t98 t99 t100 t101 t102 t103 t104 t105 t106 t107 t108 t109 t110 t111 t112 t113 t114 t115 : V) (h : Hp) : opsP (xX s 16 wl k false) xg16_3 6 m0 ac (runK (xX s 16 wl k false) (bodyK s.P Try.f16) xk16_4) ⟨(t0 :: t1 :: t2 :: t3 :: t4 :: t5 :: t6 :: t7 :: t8 :: t9 :: t10 :: t11 :: t12 :: t13 :: t14 :: t15 :: t16 :: t17 :: t18 :: t19 :: t20 :: t21 :: t22 :: t23 :: t24 :: t25 :: t26 :: t27 :: t28 :: t29 :: t30 :: t31 :: t32 :: t33 :: t34 :: t35 :: t36 :: t37 :: t38 :: t39 :: t40 :: t41 :: t42 :: t43 :: t44 :: t45 :: t46 :: t47 :: t48 :: t49 :: t50 :: t51 :: t52 :: t53 :: t54 :: t55 :: t56 :: t57 :: t58 :: t59 :: t60 :: t61 :: t62 :: t63 :: t64 :: t65 :: t66 :: t67 :: t68 :: t69 :: t70 :: t71 :: t72 :: t73 :: t74 :: t75 :: t76 :: t77 :: t78 :: t79 :: t80 :: t81 :: t82 :: t83 :: t84 :: t85 :: t86 :: t87 :: t88 :: t89 :: t90 :: t91 :: t92 :: t93 :: t94 :: t95 :: t96 :: t97 :: t98 :: t99 :: t100 :: t101 :: t102 :: t103 :: t104 :: t105 :: t106 :: t107 :: t108 :: t109 :: t110 :: t111 :: t112 :: t113 :: t114 :: t115 :: []), h⟩ =
  bm (vPick t111 t114 (V.lit (Value.bool false))) h fun v124 h125 =>
  some (v124, h125) :=
  (go_op0 rfl rfl (st_bm (by kernel_rfl) fun v124 h125 =>
  (go_op0 rfl rfl (st_id (v := v124) (H := h125) (by kernel_rfl)
  (go_end0 (by kernel_rfl)
  (go_ret (by kernel_rfl)))))))
theorem xk16_0_ret (cx : Cx) (K : Out → St → Option (V × Hp)) (s : St) : runK cx K xk16_0 .ret s = K .ret s := by kernel_rfl
theorem xk16_1_ret (cx : Cx) (K : Out → St → Option (V × Hp)) (s : St) : runK cx K xk16_1 .ret s = K .ret s := by kernel_rfl
theorem xk16_2_ret (cx : Cx) (K : Out → St → Option (V × Hp)) (s : St) : runK cx K xk16_2 .ret s = K .ret s := by kernel_rfl
theorem xk16_3_ret (cx : Cx) (K : Out → St → Option (V × Hp)) (s : St) : runK cx K xk16_3 .ret s = K .ret s := by kernel_rfl
theorem xk16_4_ret (cx : Cx) (K : Out → St → Option (V × Hp)) (s : St) : runK cx K xk16_4 .ret s = K .ret s := by kernel_rfl
-- names: xb16, xz16, xm16_0, xm16_1, xm16_2, xm16_3, xm16_4, xm16_5, xm16_6, xj16_7, xr16_0, xj16_8, xm16_9, xk16_0_ret, xk16_1_ret, xk16_2_ret, xk16_3_ret, xk16_4_ret
end Go.Ab
