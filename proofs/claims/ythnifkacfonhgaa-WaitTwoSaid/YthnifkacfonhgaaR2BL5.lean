/- The program's code, point by point: printed by gen.py. -/
import Derived.Test.YthnifkacfonhgaaR2Seat
set_option maxRecDepth 100000
set_option linter.unusedVariables false
namespace Go.Ab
open Go.Proofs
/-! 5 poacher/poacherlaw14.WaitTwo: 0 c, 1 m, 2 w, 3 v, 4 c, 5 m, 6 w, 7 v, 9 up, 10 f, 11 g, 12 n, 13 i -/
noncomputable def xg5_0 : Code := codeAt (bodyOf Try.f5) [1, 1, 1, 1, 0, 0]
noncomputable def xk5_0 : List Fr := [.seq (codeAt (bodyOf Try.f5) [1, 1, 1, 1, 0, 1]), .seq (codeAt (bodyOf Try.f5) [1, 1, 1, 1, 1])]
noncomputable def xg5_1 : Code := codeAt (bodyOf Try.f5) [1, 1, 1, 1, 1, 0]
noncomputable def xl5_0 : Code := codeAt (bodyOf Try.f5) [1, 1, 1, 1, 1, 1, 0, 1, 0, 0]
noncomputable def xk5_1 : List Fr := [.block 0, .seq (codeAt (bodyOf Try.f5) [1, 1, 1, 1, 1, 1, 1])]
noncomputable def xg5_2 : Code := codeAt (bodyOf Try.f5) [1, 1, 1, 1, 1, 1, 1, 0]
noncomputable def xk5_2 : List Fr := [.seq (codeAt (bodyOf Try.f5) [1, 1, 1, 1, 1, 1, 1, 1])]
theorem xo5_6 : orderIx (opsOf xg5_1) = [0, 1, 2, 3, 4, 5, 6, 7, 8, 9] := by kernel_rfl
theorem xo5_6a : (rgOf (opsOf xg5_1)).any = false := by kernel_rfl
theorem xo5_6r : regOk (opsOf xg5_1) = true := by kernel_rfl
theorem xb5 (s : Sys) (k wl : Nat) (t0 t1 t2 t3 : V) (h : Hp) : bodyV (xX s 5 wl k false) Try.f5 [t0, t1, t2, t3] h =
  bp (opBox t0 h) fun v1 h2 =>
  bp (callV (xX s 5 wl k false) false true (.fn (.func 20) [] []) [] h2) fun v3 h4 =>
  bp (callV (xX s 5 wl k false) false true (.fn (.func 31) [] []) [(V.lit (Value.int .i64 5)), t2, (V.lit (Value.int .u64 0))] h4) fun v5 h6 =>
  bp (opAlloc s.P 28 h6) fun v7 h8 =>
  bs (vStore s.P wl 28 v7 v5 h8) fun h9 =>
  bp (callV (xX s 5 wl k false) false true (.fn (.func 31) [] []) [(V.lit (Value.int .i64 5)), t3, (V.lit (Value.int .u64 0))] h9) fun v10 h11 =>
  bp (opAlloc s.P 28 h11) fun v12 h13 =>
  bs (vStore s.P wl 28 v12 v10 h13) fun h14 =>
  bm (vUn .not v3) h14 fun v15 h16 =>
  gd v15 (
  opsP (xX s 5 wl k false) xg5_0 6 h14.length ([], []) (runK (xX s 5 wl k false) (bodyK s.P Try.f5) xk5_0) ⟨(t0 :: t1 :: t2 :: t3 :: v1 :: uu :: uu :: uu :: (V.lit (Value.bool false)) :: v3 :: v7 :: v12 :: uu :: uu :: v3 :: t2 :: v5 :: t3 :: v10 :: v3 :: v15 :: (V.lit (Value.bool true)) :: uu :: uu :: uu :: uu :: uu :: uu :: uu :: uu :: uu :: uu :: uu :: uu :: uu :: uu :: uu :: uu :: uu :: uu :: uu :: uu :: uu :: uu :: uu :: uu :: uu :: uu :: uu :: uu :: uu :: uu :: uu :: uu :: uu :: uu :: uu :: uu :: uu :: uu :: uu :: uu :: uu :: uu :: uu :: uu :: uu :: uu :: uu :: uu :: uu :: uu :: uu :: uu :: uu :: uu :: uu :: uu :: uu :: uu :: uu :: uu :: uu :: uu :: uu :: uu :: uu :: uu :: uu :: uu :: uu :: uu :: uu :: uu :: uu :: uu :: uu :: uu :: uu :: uu :: []), h16⟩) (
  bp (opLen s.P 25 t1 h16) fun v17 h18 =>
  bm (vBin s.P .gtr 3 v17 (V.lit (Value.int .i64 500))) h18 fun v19 h20 =>
  opsP (xX s 5 wl k false) xg5_0 6 h14.length ([], []) (runK (xX s 5 wl k false) (bodyK s.P Try.f5) xk5_0) ⟨(t0 :: t1 :: t2 :: t3 :: v1 :: uu :: uu :: uu :: (V.lit (Value.bool false)) :: v3 :: v7 :: v12 :: uu :: uu :: v3 :: t2 :: v5 :: t3 :: v10 :: v3 :: v15 :: (V.lit (Value.bool false)) :: t1 :: v17 :: v19 :: uu :: uu :: uu :: uu :: uu :: uu :: uu :: uu :: uu :: uu :: uu :: uu :: uu :: uu :: uu :: uu :: uu :: uu :: uu :: uu :: uu :: uu :: uu :: uu :: uu :: uu :: uu :: uu :: uu :: uu :: uu :: uu :: uu :: uu :: uu :: uu :: uu :: uu :: uu :: uu :: uu :: uu :: uu :: uu :: uu :: uu :: uu :: uu :: uu :: uu :: uu :: uu :: uu :: uu :: uu :: uu :: uu :: uu :: uu :: uu :: uu :: uu :: uu :: uu :: uu :: uu :: uu :: uu :: uu :: uu :: uu :: uu :: uu :: uu :: uu :: []), h20⟩) (
  opsP (xX s 5 wl k false) xg5_0 4 h14.length ([], []) (runK (xX s 5 wl k false) (bodyK s.P Try.f5) xk5_0) ⟨(t0 :: t1 :: t2 :: t3 :: v1 :: uu :: uu :: uu :: (V.lit (Value.bool false)) :: v3 :: v7 :: v12 :: uu :: uu :: v3 :: t2 :: v5 :: t3 :: v10 :: v3 :: v15 :: v15 :: uu :: uu :: uu :: uu :: uu :: uu :: uu :: uu :: uu :: uu :: uu :: uu :: uu :: uu :: uu :: uu :: uu :: uu :: uu :: uu :: uu :: uu :: uu :: uu :: uu :: uu :: uu :: uu :: uu :: uu :: uu :: uu :: uu :: uu :: uu :: uu :: uu :: uu :: uu :: uu :: uu :: uu :: uu :: uu :: uu :: uu :: uu :: uu :: uu :: uu :: uu :: uu :: uu :: uu :: uu :: uu :: uu :: uu :: uu :: uu :: uu :: uu :: uu :: uu :: uu :: uu :: uu :: uu :: uu :: uu :: uu :: uu :: uu :: uu :: uu :: uu :: uu :: uu :: []), h16⟩) :=
  bodyV_run rfl (go_seq (go_reg0
  (go_op0 rfl rfl (st_bp (by kernel_rfl) fun v1 h2 =>
  (go_op0 rfl rfl (st_id (v := (V.lit (Value.bool false))) (H := h2) (by kernel_rfl)
  (go_end0 (by kernel_rfl)
  (go_seq (go_reg0
  (go_op0 rfl rfl (st_bp (by kernel_rfl) fun v3 h4 =>
  (go_op0 rfl rfl (st_id (v := v3) (H := h4) (by kernel_rfl)
  (go_end0 (by kernel_rfl)
  (go_seq (go_reg0
  (go_op0 rfl rfl (st_id (v := t2) (H := h4) (by kernel_rfl)
  (go_op0 rfl rfl (st_bp (by kernel_rfl) fun v5 h6 =>
  (go_op0 rfl rfl (st_bp (by kernel_rfl) fun v7 h8 =>
  (go_op0 rfl rfl (st_bs (by kernel_rfl) fun h9 =>
  (go_end0 (by kernel_rfl)
  (go_seq (go_reg0
  (go_op0 rfl rfl (st_id (v := t3) (H := h9) (by kernel_rfl)
  (go_op0 rfl rfl (st_bp (by kernel_rfl) fun v10 h11 =>
  (go_op0 rfl rfl (st_bp (by kernel_rfl) fun v12 h13 =>
  (go_op0 rfl rfl (st_bs (by kernel_rfl) fun h14 =>
  (go_end0 (by kernel_rfl)
  (go_seq (go_seq (go_reg0
  (go_op0 rfl rfl (st_id (v := v3) (H := h14) (by kernel_rfl)
  (go_op0 rfl rfl (st_bm (by kernel_rfl) fun v15 h16 =>
  (go_op0 rfl rfl (st_id (v := v15) (H := h16) (by kernel_rfl)
  (go_gdF0 rfl rfl rfl (by kernel_rfl)
  (go_skip0 rfl rfl rfl (by kernel_rfl)
  (go_skip0 rfl rfl rfl (by kernel_rfl)
  (by kernel_rfl)))
  (st_id (v := t1) (H := h16) (by kernel_rfl)
  (go_run0 rfl rfl rfl (by kernel_rfl) (st_bp (by kernel_rfl) fun v17 h18 =>
  (go_run0 rfl rfl rfl (by kernel_rfl) (st_bm (by kernel_rfl) fun v19 h20 =>
  (by kernel_rfl))))))
  (by kernel_rfl)))))))))))))))))))))))))))))))))))))))))))))))
theorem xe5 (k wl : Nat) (t0 t1 t2 t3 : V) (h : Hp) : evF Try.prog xM (k + 1) wl 5 [t0, t1, t2, t3] h = bodyV (xX (xS k) 5 wl k false) Try.f5 [t0, t1, t2, t3] h := by kernel_rfl
theorem xz5 (P : Program) (t0 t1 t2 t3 t4 t5 t6 t7 t8 t9 t10 t11 t12 t13 t14 t15 t16 t17 t18 t19 t20 t21 t22 t23 t24 t25 t26 t27 t28 t29 t30 t31 t32 t33 t34 t35 t36 t37 t38 t39 t40 t41 t42 t43 t44 t45 t46 t47 t48 t49 t50 t51 t52 t53 t54 t55 t56 t57 t58 t59 t60 t61 t62 t63 t64 t65 t66 t67 t68 t69 t70 t71 t72 t73 t74 t75 t76 t77 t78 t79 t80 t81 t82 t83 t84 t85 t86 t87 t88 t89 t90 t91 t92 t93 t94 t95 t96 t97 t98 t99 : V) (h : Hp) : bodyK P Try.f5 .ret ⟨(t0 :: t1 :: t2 :: t3 :: t4 :: t5 :: t6 :: t7 :: t8 :: t9 :: t10 :: t11 :: t12 :: t13 :: t14 :: t15 :: t16 :: t17 :: t18 :: t19 :: t20 :: t21 :: t22 :: t23 :: t24 :: t25 :: t26 :: t27 :: t28 :: t29 :: t30 :: t31 :: t32 :: t33 :: t34 :: t35 :: t36 :: t37 :: t38 :: t39 :: t40 :: t41 :: t42 :: t43 :: t44 :: t45 :: t46 :: t47 :: t48 :: t49 :: t50 :: t51 :: t52 :: t53 :: t54 :: t55 :: t56 :: t57 :: t58 :: t59 :: t60 :: t61 :: t62 :: t63 :: t64 :: t65 :: t66 :: t67 :: t68 :: t69 :: t70 :: t71 :: t72 :: t73 :: t74 :: t75 :: t76 :: t77 :: t78 :: t79 :: t80 :: t81 :: t82 :: t83 :: t84 :: t85 :: t86 :: t87 :: t88 :: t89 :: t90 :: t91 :: t92 :: t93 :: t94 :: t95 :: t96 :: t97 :: t98 :: t99 :: []), h⟩ = some (t8, h) := by kernel_rfl
theorem xm5_0 (s : Sys) (k wl : Nat) (m0 : Nat) (ac : List Nat × List Nat) (t0 t1 t2 t3 t4 t5 t6 t7 t8 t9 t10 t11 t12 t13 t14 t15 t16 t17 t18 t19 t20 t21 t22 t23 t24 t25 t26 t27 t28 t29 t30 t31 t32 t33 t34 t35 t36 t37 t38 t39 t40 t41 t42 t43 t44 t45 t46 t47 t48 t49 t50 t51 t52 t53 t54 t55 t56 t57 t58 t59 t60 t61 t62 t63 t64 t65 t66 t67 t68 t69 t70 t71 t72 t73 t74 t75 t76 t77 t78 t79 t80 t81 t82 t83 t84 t85 t86 t87 t88 t89 t90 t91 t92 t93 t94 t95 t96 t97 t98 t99 : V) (h : Hp) : opsP (xX s 5 wl k false) xg5_0 6 m0 ac (runK (xX s 5 wl k false) (bodyK s.P Try.f5) xk5_0) ⟨(t0 :: t1 :: t2 :: t3 :: t4 :: t5 :: t6 :: t7 :: t8 :: t9 :: t10 :: t11 :: t12 :: t13 :: t14 :: t15 :: t16 :: t17 :: t18 :: t19 :: t20 :: t21 :: t22 :: t23 :: t24 :: t25 :: t26 :: t27 :: t28 :: t29 :: t30 :: t31 :: t32 :: t33 :: t34 :: t35 :: t36 :: t37 :: t38 :: t39 :: t40 :: t41 :: t42 :: t43 :: t44 :: t45 :: t46 :: t47 :: t48 :: t49 :: t50 :: t51 :: t52 :: t53 :: t54 :: t55 :: t56 :: t57 :: t58 :: t59 :: t60 :: t61 :: t62 :: t63 :: t64 :: t65 :: t66 :: t67 :: t68 :: t69 :: t70 :: t71 :: t72 :: t73 :: t74 :: t75 :: t76 :: t77 :: t78 :: t79 :: t80 :: t81 :: t82 :: t83 :: t84 :: t85 :: t86 :: t87 :: t88 :: t89 :: t90 :: t91 :: t92 :: t93 :: t94 :: t95 :: t96 :: t97 :: t98 :: t99 :: []), h⟩ =
  bm (vPick t21 (V.lit (Value.bool true)) t24) h fun v21 h22 =>
  gd v21 (
  opsP (xX s 5 wl k false) xg5_0 11 m0 ac (runK (xX s 5 wl k false) (bodyK s.P Try.f5) xk5_0) ⟨(t0 :: t1 :: t2 :: t3 :: t4 :: t5 :: t6 :: t7 :: t8 :: t9 :: t10 :: t11 :: t12 :: t13 :: t14 :: t15 :: t16 :: t17 :: t18 :: t19 :: t20 :: t21 :: t22 :: t23 :: t24 :: v21 :: (V.lit (Value.bool true)) :: uu :: uu :: uu :: t30 :: t31 :: t32 :: t33 :: t34 :: t35 :: t36 :: t37 :: t38 :: t39 :: t40 :: t41 :: t42 :: t43 :: t44 :: t45 :: t46 :: t47 :: t48 :: t49 :: t50 :: t51 :: t52 :: t53 :: t54 :: t55 :: t56 :: t57 :: t58 :: t59 :: t60 :: t61 :: t62 :: t63 :: t64 :: t65 :: t66 :: t67 :: t68 :: t69 :: t70 :: t71 :: t72 :: t73 :: t74 :: t75 :: t76 :: t77 :: t78 :: t79 :: t80 :: t81 :: t82 :: t83 :: t84 :: t85 :: t86 :: t87 :: t88 :: t89 :: t90 :: t91 :: t92 :: t93 :: t94 :: t95 :: t96 :: t97 :: t98 :: t99 :: []), h22⟩) (
  bm (vBin s.P .eql 3 t3 t2) h22 fun v23 h24 =>
  opsP (xX s 5 wl k false) xg5_0 11 m0 ac (runK (xX s 5 wl k false) (bodyK s.P Try.f5) xk5_0) ⟨(t0 :: t1 :: t2 :: t3 :: t4 :: t5 :: t6 :: t7 :: t8 :: t9 :: t10 :: t11 :: t12 :: t13 :: t14 :: t15 :: t16 :: t17 :: t18 :: t19 :: t20 :: t21 :: t22 :: t23 :: t24 :: v21 :: (V.lit (Value.bool false)) :: t3 :: t2 :: v23 :: t30 :: t31 :: t32 :: t33 :: t34 :: t35 :: t36 :: t37 :: t38 :: t39 :: t40 :: t41 :: t42 :: t43 :: t44 :: t45 :: t46 :: t47 :: t48 :: t49 :: t50 :: t51 :: t52 :: t53 :: t54 :: t55 :: t56 :: t57 :: t58 :: t59 :: t60 :: t61 :: t62 :: t63 :: t64 :: t65 :: t66 :: t67 :: t68 :: t69 :: t70 :: t71 :: t72 :: t73 :: t74 :: t75 :: t76 :: t77 :: t78 :: t79 :: t80 :: t81 :: t82 :: t83 :: t84 :: t85 :: t86 :: t87 :: t88 :: t89 :: t90 :: t91 :: t92 :: t93 :: t94 :: t95 :: t96 :: t97 :: t98 :: t99 :: []), h24⟩) (
  opsP (xX s 5 wl k false) xg5_0 9 m0 ac (runK (xX s 5 wl k false) (bodyK s.P Try.f5) xk5_0) ⟨(t0 :: t1 :: t2 :: t3 :: t4 :: t5 :: t6 :: t7 :: t8 :: t9 :: t10 :: t11 :: t12 :: t13 :: t14 :: t15 :: t16 :: t17 :: t18 :: t19 :: t20 :: t21 :: t22 :: t23 :: t24 :: v21 :: v21 :: uu :: t28 :: t29 :: t30 :: t31 :: t32 :: t33 :: t34 :: t35 :: t36 :: t37 :: t38 :: t39 :: t40 :: t41 :: t42 :: t43 :: t44 :: t45 :: t46 :: t47 :: t48 :: t49 :: t50 :: t51 :: t52 :: t53 :: t54 :: t55 :: t56 :: t57 :: t58 :: t59 :: t60 :: t61 :: t62 :: t63 :: t64 :: t65 :: t66 :: t67 :: t68 :: t69 :: t70 :: t71 :: t72 :: t73 :: t74 :: t75 :: t76 :: t77 :: t78 :: t79 :: t80 :: t81 :: t82 :: t83 :: t84 :: t85 :: t86 :: t87 :: t88 :: t89 :: t90 :: t91 :: t92 :: t93 :: t94 :: t95 :: t96 :: t97 :: t98 :: t99 :: []), h22⟩) :=
  (go_op0 rfl rfl (st_bm (by kernel_rfl) fun v21 h22 =>
  (go_op0 rfl rfl (st_id (v := v21) (H := h22) (by kernel_rfl)
  (go_gdF0 rfl rfl rfl (by kernel_rfl)
  (go_skip0 rfl rfl rfl (by kernel_rfl)
  (go_skip0 rfl rfl rfl (by kernel_rfl)
  (by kernel_rfl)))
  (st_id (v := t3) (H := h22) (by kernel_rfl)
  (go_run0 rfl rfl rfl (by kernel_rfl) (st_id (v := t2) (H := h22) (by kernel_rfl)
  (go_run0 rfl rfl rfl (by kernel_rfl) (st_bm (by kernel_rfl) fun v23 h24 =>
  (by kernel_rfl))))))
  (by kernel_rfl))))))
theorem xm5_1 (s : Sys) (k wl : Nat) (m0 : Nat) (ac : List Nat × List Nat) (t0 t1 t2 t3 t4 t5 t6 t7 t8 t9 t10 t11 t12 t13 t14 t15 t16 t17 t18 t19 t20 t21 t22 t23 t24 t25 t26 t27 t28 t29 t30 t31 t32 t33 t34 t35 t36 t37 t38 t39 t40 t41 t42 t43 t44 t45 t46 t47 t48 t49 t50 t51 t52 t53 t54 t55 t56 t57 t58 t59 t60 t61 t62 t63 t64 t65 t66 t67 t68 t69 t70 t71 t72 t73 t74 t75 t76 t77 t78 t79 t80 t81 t82 t83 t84 t85 t86 t87 t88 t89 t90 t91 t92 t93 t94 t95 t96 t97 t98 t99 : V) (h : Hp) : opsP (xX s 5 wl k false) xg5_0 11 m0 ac (runK (xX s 5 wl k false) (bodyK s.P Try.f5) xk5_0) ⟨(t0 :: t1 :: t2 :: t3 :: t4 :: t5 :: t6 :: t7 :: t8 :: t9 :: t10 :: t11 :: t12 :: t13 :: t14 :: t15 :: t16 :: t17 :: t18 :: t19 :: t20 :: t21 :: t22 :: t23 :: t24 :: t25 :: t26 :: t27 :: t28 :: t29 :: t30 :: t31 :: t32 :: t33 :: t34 :: t35 :: t36 :: t37 :: t38 :: t39 :: t40 :: t41 :: t42 :: t43 :: t44 :: t45 :: t46 :: t47 :: t48 :: t49 :: t50 :: t51 :: t52 :: t53 :: t54 :: t55 :: t56 :: t57 :: t58 :: t59 :: t60 :: t61 :: t62 :: t63 :: t64 :: t65 :: t66 :: t67 :: t68 :: t69 :: t70 :: t71 :: t72 :: t73 :: t74 :: t75 :: t76 :: t77 :: t78 :: t79 :: t80 :: t81 :: t82 :: t83 :: t84 :: t85 :: t86 :: t87 :: t88 :: t89 :: t90 :: t91 :: t92 :: t93 :: t94 :: t95 :: t96 :: t97 :: t98 :: t99 :: []), h⟩ =
  bm (vPick t26 (V.lit (Value.bool true)) t29) h fun v25 h26 =>
  gd v25 (
  opsP (xX s 5 wl k false) xg5_0 18 m0 ac (runK (xX s 5 wl k false) (bodyK s.P Try.f5) xk5_0) ⟨(t0 :: t1 :: t2 :: t3 :: t4 :: t5 :: t6 :: t7 :: t8 :: t9 :: t10 :: t11 :: t12 :: t13 :: t14 :: t15 :: t16 :: t17 :: t18 :: t19 :: t20 :: t21 :: t22 :: t23 :: t24 :: t25 :: t26 :: t27 :: t28 :: t29 :: v25 :: (V.lit (Value.bool true)) :: uu :: uu :: uu :: uu :: uu :: t37 :: t38 :: t39 :: t40 :: t41 :: t42 :: t43 :: t44 :: t45 :: t46 :: t47 :: t48 :: t49 :: t50 :: t51 :: t52 :: t53 :: t54 :: t55 :: t56 :: t57 :: t58 :: t59 :: t60 :: t61 :: t62 :: t63 :: t64 :: t65 :: t66 :: t67 :: t68 :: t69 :: t70 :: t71 :: t72 :: t73 :: t74 :: t75 :: t76 :: t77 :: t78 :: t79 :: t80 :: t81 :: t82 :: t83 :: t84 :: t85 :: t86 :: t87 :: t88 :: t89 :: t90 :: t91 :: t92 :: t93 :: t94 :: t95 :: t96 :: t97 :: t98 :: t99 :: []), h26⟩) (
  bm (vLoad s.P 23 t4 h26) h26 fun v27 h28 =>
  bm (vLoad s.P 28 t10 h28) h28 fun v29 h30 =>
  bp (callV (xX s 5 wl k false) false true (.fn (.func 28) [] []) [v27, t1, v29, (V.lit (Value.int .i64 5)), (V.lit (Value.int .i64 5))] h30) fun v31 h32 =>
  bm (vUn .not v31) h32 fun v33 h34 =>
  opsP (xX s 5 wl k false) xg5_0 18 m0 ac (runK (xX s 5 wl k false) (bodyK s.P Try.f5) xk5_0) ⟨(t0 :: t1 :: t2 :: t3 :: t4 :: t5 :: t6 :: t7 :: t8 :: t9 :: t10 :: t11 :: t12 :: t13 :: t14 :: t15 :: t16 :: t17 :: t18 :: t19 :: t20 :: t21 :: t22 :: t23 :: t24 :: t25 :: t26 :: t27 :: t28 :: t29 :: v25 :: (V.lit (Value.bool false)) :: v27 :: t1 :: v29 :: v31 :: v33 :: t37 :: t38 :: t39 :: t40 :: t41 :: t42 :: t43 :: t44 :: t45 :: t46 :: t47 :: t48 :: t49 :: t50 :: t51 :: t52 :: t53 :: t54 :: t55 :: t56 :: t57 :: t58 :: t59 :: t60 :: t61 :: t62 :: t63 :: t64 :: t65 :: t66 :: t67 :: t68 :: t69 :: t70 :: t71 :: t72 :: t73 :: t74 :: t75 :: t76 :: t77 :: t78 :: t79 :: t80 :: t81 :: t82 :: t83 :: t84 :: t85 :: t86 :: t87 :: t88 :: t89 :: t90 :: t91 :: t92 :: t93 :: t94 :: t95 :: t96 :: t97 :: t98 :: t99 :: []), h34⟩) (
  opsP (xX s 5 wl k false) xg5_0 14 m0 ac (runK (xX s 5 wl k false) (bodyK s.P Try.f5) xk5_0) ⟨(t0 :: t1 :: t2 :: t3 :: t4 :: t5 :: t6 :: t7 :: t8 :: t9 :: t10 :: t11 :: t12 :: t13 :: t14 :: t15 :: t16 :: t17 :: t18 :: t19 :: t20 :: t21 :: t22 :: t23 :: t24 :: t25 :: t26 :: t27 :: t28 :: t29 :: v25 :: v25 :: uu :: t33 :: t34 :: t35 :: t36 :: t37 :: t38 :: t39 :: t40 :: t41 :: t42 :: t43 :: t44 :: t45 :: t46 :: t47 :: t48 :: t49 :: t50 :: t51 :: t52 :: t53 :: t54 :: t55 :: t56 :: t57 :: t58 :: t59 :: t60 :: t61 :: t62 :: t63 :: t64 :: t65 :: t66 :: t67 :: t68 :: t69 :: t70 :: t71 :: t72 :: t73 :: t74 :: t75 :: t76 :: t77 :: t78 :: t79 :: t80 :: t81 :: t82 :: t83 :: t84 :: t85 :: t86 :: t87 :: t88 :: t89 :: t90 :: t91 :: t92 :: t93 :: t94 :: t95 :: t96 :: t97 :: t98 :: t99 :: []), h26⟩) :=
  (go_op0 rfl rfl (st_bm (by kernel_rfl) fun v25 h26 =>
  (go_op0 rfl rfl (st_id (v := v25) (H := h26) (by kernel_rfl)
  (go_gdF0 rfl rfl rfl (by kernel_rfl)
  (go_skip0 rfl rfl rfl (by kernel_rfl)
  (go_skip0 rfl rfl rfl (by kernel_rfl)
  (go_skip0 rfl rfl rfl (by kernel_rfl)
  (go_skip0 rfl rfl rfl (by kernel_rfl)
  (by kernel_rfl)))))
  (st_bm (by kernel_rfl) fun v27 h28 =>
  (go_run0 rfl rfl rfl (by kernel_rfl) (st_id (v := t1) (H := h28) (by kernel_rfl)
  (go_run0 rfl rfl rfl (by kernel_rfl) (st_bm (by kernel_rfl) fun v29 h30 =>
  (go_run0 rfl rfl rfl (by kernel_rfl) (st_bp (by kernel_rfl) fun v31 h32 =>
  (go_run0 rfl rfl rfl (by kernel_rfl) (st_bm (by kernel_rfl) fun v33 h34 =>
  (by kernel_rfl))))))))))
  (by kernel_rfl))))))
theorem xm5_2 (s : Sys) (k wl : Nat) (m0 : Nat) (ac : List Nat × List Nat) (t0 t1 t2 t3 t4 t5 t6 t7 t8 t9 t10 t11 t12 t13 t14 t15 t16 t17 t18 t19 t20 t21 t22 t23 t24 t25 t26 t27 t28 t29 t30 t31 t32 t33 t34 t35 t36 t37 t38 t39 t40 t41 t42 t43 t44 t45 t46 t47 t48 t49 t50 t51 t52 t53 t54 t55 t56 t57 t58 t59 t60 t61 t62 t63 t64 t65 t66 t67 t68 t69 t70 t71 t72 t73 t74 t75 t76 t77 t78 t79 t80 t81 t82 t83 t84 t85 t86 t87 t88 t89 t90 t91 t92 t93 t94 t95 t96 t97 t98 t99 : V) (h : Hp) : opsP (xX s 5 wl k false) xg5_0 18 m0 ac (runK (xX s 5 wl k false) (bodyK s.P Try.f5) xk5_0) ⟨(t0 :: t1 :: t2 :: t3 :: t4 :: t5 :: t6 :: t7 :: t8 :: t9 :: t10 :: t11 :: t12 :: t13 :: t14 :: t15 :: t16 :: t17 :: t18 :: t19 :: t20 :: t21 :: t22 :: t23 :: t24 :: t25 :: t26 :: t27 :: t28 :: t29 :: t30 :: t31 :: t32 :: t33 :: t34 :: t35 :: t36 :: t37 :: t38 :: t39 :: t40 :: t41 :: t42 :: t43 :: t44 :: t45 :: t46 :: t47 :: t48 :: t49 :: t50 :: t51 :: t52 :: t53 :: t54 :: t55 :: t56 :: t57 :: t58 :: t59 :: t60 :: t61 :: t62 :: t63 :: t64 :: t65 :: t66 :: t67 :: t68 :: t69 :: t70 :: t71 :: t72 :: t73 :: t74 :: t75 :: t76 :: t77 :: t78 :: t79 :: t80 :: t81 :: t82 :: t83 :: t84 :: t85 :: t86 :: t87 :: t88 :: t89 :: t90 :: t91 :: t92 :: t93 :: t94 :: t95 :: t96 :: t97 :: t98 :: t99 :: []), h⟩ =
  bm (vPick t31 (V.lit (Value.bool true)) t36) h fun v35 h36 =>
  gd v35 (
  opsP (xX s 5 wl k false) xg5_0 25 m0 ac (runK (xX s 5 wl k false) (bodyK s.P Try.f5) xk5_0) ⟨(t0 :: t1 :: t2 :: t3 :: t4 :: t5 :: t6 :: t7 :: t8 :: t9 :: t10 :: t11 :: t12 :: t13 :: t14 :: t15 :: t16 :: t17 :: t18 :: t19 :: t20 :: t21 :: t22 :: t23 :: t24 :: t25 :: t26 :: t27 :: t28 :: t29 :: t30 :: t31 :: t32 :: t33 :: t34 :: t35 :: t36 :: v35 :: (V.lit (Value.bool true)) :: uu :: uu :: uu :: uu :: uu :: t44 :: t45 :: t46 :: t47 :: t48 :: t49 :: t50 :: t51 :: t52 :: t53 :: t54 :: t55 :: t56 :: t57 :: t58 :: t59 :: t60 :: t61 :: t62 :: t63 :: t64 :: t65 :: t66 :: t67 :: t68 :: t69 :: t70 :: t71 :: t72 :: t73 :: t74 :: t75 :: t76 :: t77 :: t78 :: t79 :: t80 :: t81 :: t82 :: t83 :: t84 :: t85 :: t86 :: t87 :: t88 :: t89 :: t90 :: t91 :: t92 :: t93 :: t94 :: t95 :: t96 :: t97 :: t98 :: t99 :: []), h36⟩) (
  bm (vLoad s.P 23 t4 h36) h36 fun v37 h38 =>
  bm (vLoad s.P 28 t11 h38) h38 fun v39 h40 =>
  bp (callV (xX s 5 wl k false) false true (.fn (.func 28) [] []) [v37, t1, v39, (V.lit (Value.int .i64 5)), (V.lit (Value.int .i64 5))] h40) fun v41 h42 =>
  bm (vUn .not v41) h42 fun v43 h44 =>
  opsP (xX s 5 wl k false) xg5_0 25 m0 ac (runK (xX s 5 wl k false) (bodyK s.P Try.f5) xk5_0) ⟨(t0 :: t1 :: t2 :: t3 :: t4 :: t5 :: t6 :: t7 :: t8 :: t9 :: t10 :: t11 :: t12 :: t13 :: t14 :: t15 :: t16 :: t17 :: t18 :: t19 :: t20 :: t21 :: t22 :: t23 :: t24 :: t25 :: t26 :: t27 :: t28 :: t29 :: t30 :: t31 :: t32 :: t33 :: t34 :: t35 :: t36 :: v35 :: (V.lit (Value.bool false)) :: v37 :: t1 :: v39 :: v41 :: v43 :: t44 :: t45 :: t46 :: t47 :: t48 :: t49 :: t50 :: t51 :: t52 :: t53 :: t54 :: t55 :: t56 :: t57 :: t58 :: t59 :: t60 :: t61 :: t62 :: t63 :: t64 :: t65 :: t66 :: t67 :: t68 :: t69 :: t70 :: t71 :: t72 :: t73 :: t74 :: t75 :: t76 :: t77 :: t78 :: t79 :: t80 :: t81 :: t82 :: t83 :: t84 :: t85 :: t86 :: t87 :: t88 :: t89 :: t90 :: t91 :: t92 :: t93 :: t94 :: t95 :: t96 :: t97 :: t98 :: t99 :: []), h44⟩) (
  opsP (xX s 5 wl k false) xg5_0 21 m0 ac (runK (xX s 5 wl k false) (bodyK s.P Try.f5) xk5_0) ⟨(t0 :: t1 :: t2 :: t3 :: t4 :: t5 :: t6 :: t7 :: t8 :: t9 :: t10 :: t11 :: t12 :: t13 :: t14 :: t15 :: t16 :: t17 :: t18 :: t19 :: t20 :: t21 :: t22 :: t23 :: t24 :: t25 :: t26 :: t27 :: t28 :: t29 :: t30 :: t31 :: t32 :: t33 :: t34 :: t35 :: t36 :: v35 :: v35 :: uu :: t40 :: t41 :: t42 :: t43 :: t44 :: t45 :: t46 :: t47 :: t48 :: t49 :: t50 :: t51 :: t52 :: t53 :: t54 :: t55 :: t56 :: t57 :: t58 :: t59 :: t60 :: t61 :: t62 :: t63 :: t64 :: t65 :: t66 :: t67 :: t68 :: t69 :: t70 :: t71 :: t72 :: t73 :: t74 :: t75 :: t76 :: t77 :: t78 :: t79 :: t80 :: t81 :: t82 :: t83 :: t84 :: t85 :: t86 :: t87 :: t88 :: t89 :: t90 :: t91 :: t92 :: t93 :: t94 :: t95 :: t96 :: t97 :: t98 :: t99 :: []), h36⟩) :=
  (go_op0 rfl rfl (st_bm (by kernel_rfl) fun v35 h36 =>
  (go_op0 rfl rfl (st_id (v := v35) (H := h36) (by kernel_rfl)
  (go_gdF0 rfl rfl rfl (by kernel_rfl)
  (go_skip0 rfl rfl rfl (by kernel_rfl)
  (go_skip0 rfl rfl rfl (by kernel_rfl)
  (go_skip0 rfl rfl rfl (by kernel_rfl)
  (go_skip0 rfl rfl rfl (by kernel_rfl)
  (by kernel_rfl)))))
  (st_bm (by kernel_rfl) fun v37 h38 =>
  (go_run0 rfl rfl rfl (by kernel_rfl) (st_id (v := t1) (H := h38) (by kernel_rfl)
  (go_run0 rfl rfl rfl (by kernel_rfl) (st_bm (by kernel_rfl) fun v39 h40 =>
  (go_run0 rfl rfl rfl (by kernel_rfl) (st_bp (by kernel_rfl) fun v41 h42 =>
  (go_run0 rfl rfl rfl (by kernel_rfl) (st_bm (by kernel_rfl) fun v43 h44 =>
  (by kernel_rfl))))))))))
  (by kernel_rfl))))))
theorem xm5_3 (s : Sys) (k wl : Nat) (m0 : Nat) (ac : List Nat × List Nat) (t0 t1 t2 t3 t4 t5 t6 t7 t8 t9 t10 t11 t12 t13 t14 t15 t16 t17 t18 t19 t20 t21 t22 t23 t24 t25 t26 t27 t28 t29 t30 t31 t32 t33 t34 t35 t36 t37 t38 t39 t40 t41 t42 t43 t44 t45 t46 t47 t48 t49 t50 t51 t52 t53 t54 t55 t56 t57 t58 t59 t60 t61 t62 t63 t64 t65 t66 t67 t68 t69 t70 t71 t72 t73 t74 t75 t76 t77 t78 t79 t80 t81 t82 t83 t84 t85 t86 t87 t88 t89 t90 t91 t92 t93 t94 t95 t96 t97 t98 t99 : V) (h : Hp) : opsP (xX s 5 wl k false) xg5_0 25 m0 ac (runK (xX s 5 wl k false) (bodyK s.P Try.f5) xk5_0) ⟨(t0 :: t1 :: t2 :: t3 :: t4 :: t5 :: t6 :: t7 :: t8 :: t9 :: t10 :: t11 :: t12 :: t13 :: t14 :: t15 :: t16 :: t17 :: t18 :: t19 :: t20 :: t21 :: t22 :: t23 :: t24 :: t25 :: t26 :: t27 :: t28 :: t29 :: t30 :: t31 :: t32 :: t33 :: t34 :: t35 :: t36 :: t37 :: t38 :: t39 :: t40 :: t41 :: t42 :: t43 :: t44 :: t45 :: t46 :: t47 :: t48 :: t49 :: t50 :: t51 :: t52 :: t53 :: t54 :: t55 :: t56 :: t57 :: t58 :: t59 :: t60 :: t61 :: t62 :: t63 :: t64 :: t65 :: t66 :: t67 :: t68 :: t69 :: t70 :: t71 :: t72 :: t73 :: t74 :: t75 :: t76 :: t77 :: t78 :: t79 :: t80 :: t81 :: t82 :: t83 :: t84 :: t85 :: t86 :: t87 :: t88 :: t89 :: t90 :: t91 :: t92 :: t93 :: t94 :: t95 :: t96 :: t97 :: t98 :: t99 :: []), h⟩ =
  bm (vPick t38 (V.lit (Value.bool true)) t43) h fun v45 h46 =>
  cnd v45 (
  some (t9, h46)) (
  bm (vLoad s.P 23 t4 h46) h46 fun v47 h48 =>
  bp (callV (xX s 5 wl k false) true true (.fn (.func 30) [] []) [v47, t2] h48) fun v49 h50 =>
  bp (callV (xX s 5 wl k false) true true (.fn (.func 32) [] []) [t1, v49, (V.lit (Value.int .u64 0))] h50) fun v51 h52 =>
  stO h46.length t4 (
  bm (vLoad s.P 23 t4 h52) h52 fun v53 h54 =>
  bp (callV (xX s 5 wl k false) false true (.fn (.func 30) [] []) [v53, t3] h54) fun v55 h56 =>
  bp (callV (xX s 5 wl k false) false true (.fn (.func 32) [] []) [v51, v55, (V.lit (Value.int .u64 0))] h56) fun v57 h58 =>
  itX (xX s 5 wl k false) xl5_0 h58.length (runK (xX s 5 wl k false) (bodyK s.P Try.f5) xk5_1) k ⟨((V.kill h58.length t0) :: (V.kill h58.length t1) :: (V.kill h58.length t2) :: (V.kill h58.length t3) :: (V.kill h58.length t4) :: (V.kill h58.length t5) :: (V.kill h58.length t6) :: (V.kill h58.length t7) :: (V.kill h58.length t8) :: (V.kill h58.length t9) :: (V.kill h58.length t10) :: (V.kill h58.length t11) :: (V.kill h58.length v57) :: (V.lit (Value.int .i64 0)) :: (V.kill h58.length t14) :: (V.kill h58.length t15) :: (V.kill h58.length t16) :: (V.kill h58.length t17) :: (V.kill h58.length t18) :: (V.kill h58.length t19) :: (V.kill h58.length t20) :: (V.kill h58.length t21) :: (V.kill h58.length t22) :: (V.kill h58.length t23) :: (V.kill h58.length t24) :: (V.kill h58.length t25) :: (V.kill h58.length t26) :: (V.kill h58.length t27) :: (V.kill h58.length t28) :: (V.kill h58.length t29) :: (V.kill h58.length t30) :: (V.kill h58.length t31) :: (V.kill h58.length t32) :: (V.kill h58.length t33) :: (V.kill h58.length t34) :: (V.kill h58.length t35) :: (V.kill h58.length t36) :: (V.kill h58.length t37) :: (V.kill h58.length t38) :: (V.kill h58.length t39) :: (V.kill h58.length t40) :: (V.kill h58.length t41) :: (V.kill h58.length t42) :: (V.kill h58.length t43) :: (V.kill h58.length v45) :: (V.kill h58.length t45) :: (V.kill h58.length t1) :: (V.kill h58.length v47) :: (V.kill h58.length t2) :: (V.kill h58.length v49) :: (V.kill h58.length v51) :: (V.kill h58.length v53) :: (V.kill h58.length t3) :: (V.kill h58.length v55) :: (V.kill h58.length v57) :: .junk :: .junk :: .junk :: .junk :: .junk :: .junk :: .junk :: .junk :: .junk :: .junk :: .junk :: .junk :: .junk :: .junk :: .junk :: .junk :: .junk :: .junk :: (V.kill h58.length t73) :: (V.kill h58.length t74) :: (V.kill h58.length t75) :: (V.kill h58.length t76) :: (V.kill h58.length t77) :: (V.kill h58.length t78) :: (V.kill h58.length t79) :: (V.kill h58.length t80) :: (V.kill h58.length t81) :: (V.kill h58.length t82) :: (V.kill h58.length t83) :: (V.kill h58.length t84) :: (V.kill h58.length t85) :: (V.kill h58.length t86) :: (V.kill h58.length t87) :: (V.kill h58.length t88) :: (V.kill h58.length t89) :: (V.kill h58.length t90) :: (V.kill h58.length t91) :: (V.kill h58.length t92) :: (V.kill h58.length t93) :: (V.kill h58.length t94) :: (V.kill h58.length t95) :: (V.kill h58.length t96) :: (V.kill h58.length t97) :: (V.kill h58.length t98) :: (V.kill h58.length t99) :: []), cutH h58.length h58⟩)) :=
  (go_op0 rfl rfl (st_bm (by kernel_rfl) fun v45 h46 =>
  (go_end0 (by kernel_rfl)
  (go_cond (by kernel_rfl)
  (go_seq (go_reg0
  (go_op0 rfl rfl (st_id (v := t9) (H := h46) (by kernel_rfl)
  (go_op0 rfl rfl (st_id (v := t9) (H := h46) (by kernel_rfl)
  (go_end0 (by kernel_rfl)
  (go_ret (rt_seq_ret (by kernel_rfl))))))))))
  (go_skip (go_seq (go_reg1 xo5_6r
  (go_op1 xo5_6 xo5_6a rfl rfl rfl (st_no (by kernel_rfl) (st_id (v := t1) (H := h46) (by kernel_rfl)
  (go_op1 xo5_6 xo5_6a rfl rfl rfl (st_no (by kernel_rfl) (st_bm (by kernel_rfl) fun v47 h48 =>
  (go_op1 xo5_6 xo5_6a rfl rfl rfl (st_no (by kernel_rfl) (st_id (v := t2) (H := h48) (by kernel_rfl)
  (go_op1 xo5_6 xo5_6a rfl rfl rfl (st_no (by kernel_rfl) (st_bp (by kernel_rfl) fun v49 h50 =>
  (go_op1 xo5_6 xo5_6a rfl rfl rfl (st_no (by kernel_rfl) (st_bp (by kernel_rfl) fun v51 h52 =>
  (go_op1 xo5_6 xo5_6a rfl rfl rfl (st_yes (by kernel_rfl) (st_bm (by kernel_rfl) fun v53 h54 =>
  (go_op1 xo5_6 xo5_6a rfl rfl rfl (st_no (by kernel_rfl) (st_id (v := t3) (H := h54) (by kernel_rfl)
  (go_op1 xo5_6 xo5_6a rfl rfl rfl (st_no (by kernel_rfl) (st_bp (by kernel_rfl) fun v55 h56 =>
  (go_op1 xo5_6 xo5_6a rfl rfl rfl (st_no (by kernel_rfl) (st_bp (by kernel_rfl) fun v57 h58 =>
  (go_op1 xo5_6 xo5_6a rfl rfl rfl (st_no (by kernel_rfl) (st_id (v := v57) (H := h58) (by kernel_rfl)
  (go_end1 xo5_6 (by kernel_rfl) xo5_6a
  (go_seq (go_seq (go_reg0
  (go_op0 rfl rfl (st_id (v := (V.lit (Value.int .i64 0))) (H := h58) (by kernel_rfl)
  (go_end0 (by kernel_rfl)
  (go_block (by kernel_rfl))))))))))))))))))))))))))))))))))))))))))))))
theorem xr5_0 (s : Sys) (K : Out → St → Option (V × Hp)) (k wl : Nat) (rd : Bool) (n n0 : Nat) (t0 t1 t2 t3 t4 t5 t6 t7 t8 t9 t10 t11 t12 t13 t14 t15 t16 t17 t18 t19 t20 t21 t22 t23 t24 t25 t26 t27 t28 t29 t30 t31 t32 t33 t34 t35 t36 t37 t38 t39 t40 t41 t42 t43 t44 t45 t46 t47 t48 t49 t50 t51 t52 t53 t54 t55 t56 t57 t58 t59 t60 t61 t62 t63 t64 t65 t66 t67 t68 t69 t70 t71 t72 t73 t74 t75 t76 t77 t78 t79 t80 t81 t82 t83 t84 t85 t86 t87 t88 t89 t90 t91 t92 t93 t94 t95 t96 t97 t98 t99 : V) (h : Hp) : itX (xX s 5 wl k rd) xl5_0 n0 K (n + 1) ⟨(t0 :: t1 :: t2 :: t3 :: t4 :: t5 :: t6 :: t7 :: t8 :: t9 :: t10 :: t11 :: t12 :: t13 :: t14 :: t15 :: t16 :: t17 :: t18 :: t19 :: t20 :: t21 :: t22 :: t23 :: t24 :: t25 :: t26 :: t27 :: t28 :: t29 :: t30 :: t31 :: t32 :: t33 :: t34 :: t35 :: t36 :: t37 :: t38 :: t39 :: t40 :: t41 :: t42 :: t43 :: t44 :: t45 :: t46 :: t47 :: t48 :: t49 :: t50 :: t51 :: t52 :: t53 :: t54 :: t55 :: t56 :: t57 :: t58 :: t59 :: t60 :: t61 :: t62 :: t63 :: t64 :: t65 :: t66 :: t67 :: t68 :: t69 :: t70 :: t71 :: t72 :: t73 :: t74 :: t75 :: t76 :: t77 :: t78 :: t79 :: t80 :: t81 :: t82 :: t83 :: t84 :: t85 :: t86 :: t87 :: t88 :: t89 :: t90 :: t91 :: t92 :: t93 :: t94 :: t95 :: t96 :: t97 :: t98 :: t99 :: []), h⟩ =
  bm (vBin s.P .lss 3 t13 (V.lit (Value.int .i64 12))) h fun v59 h60 =>
  cnd v59 (
  bm (vLoad s.P 23 t4 h60) h60 fun v61 h62 =>
  bm (vLoad s.P 28 t10 h62) h62 fun v63 h64 =>
  bp (callV (xX s 5 wl k rd) false true (.fn (.func 21) [] []) [v61, t12, v63] h64) fun v65 h66 =>
  bm (vExtract v65 0) h66 fun v67 h68 =>
  bm (vExtract v65 1) h68 fun v69 h70 =>
  bs (vStore s.P wl 28 t10 v69 h70) fun h71 =>
  bm (vLoad s.P 23 t4 h71) h71 fun v72 h73 =>
  bm (vLoad s.P 28 t11 h73) h73 fun v74 h75 =>
  bp (callV (xX s 5 wl k rd) false true (.fn (.func 21) [] []) [v72, v67, v74] h75) fun v76 h77 =>
  bm (vExtract v76 0) h77 fun v78 h79 =>
  bm (vExtract v76 1) h79 fun v80 h81 =>
  bs (vStore s.P wl 28 t11 v80 h81) fun h82 =>
  bm (vBin s.P .add 3 t13 (V.lit (Value.int .i64 1))) h82 fun v83 h84 =>
  itX (xX s 5 wl k rd) xl5_0 n0 K n ⟨((V.kill n0 t0) :: (V.kill n0 t1) :: (V.kill n0 t2) :: (V.kill n0 t3) :: (V.kill n0 t4) :: (V.kill n0 t5) :: (V.kill n0 t6) :: (V.kill n0 t7) :: (V.kill n0 t8) :: (V.kill n0 t9) :: (V.kill n0 t10) :: (V.kill n0 t11) :: (V.kill n0 v78) :: (V.kill n0 v83) :: (V.kill n0 t14) :: (V.kill n0 t15) :: (V.kill n0 t16) :: (V.kill n0 t17) :: (V.kill n0 t18) :: (V.kill n0 t19) :: (V.kill n0 t20) :: (V.kill n0 t21) :: (V.kill n0 t22) :: (V.kill n0 t23) :: (V.kill n0 t24) :: (V.kill n0 t25) :: (V.kill n0 t26) :: (V.kill n0 t27) :: (V.kill n0 t28) :: (V.kill n0 t29) :: (V.kill n0 t30) :: (V.kill n0 t31) :: (V.kill n0 t32) :: (V.kill n0 t33) :: (V.kill n0 t34) :: (V.kill n0 t35) :: (V.kill n0 t36) :: (V.kill n0 t37) :: (V.kill n0 t38) :: (V.kill n0 t39) :: (V.kill n0 t40) :: (V.kill n0 t41) :: (V.kill n0 t42) :: (V.kill n0 t43) :: (V.kill n0 t44) :: (V.kill n0 t45) :: (V.kill n0 t46) :: (V.kill n0 t47) :: (V.kill n0 t48) :: (V.kill n0 t49) :: (V.kill n0 t50) :: (V.kill n0 t51) :: (V.kill n0 t52) :: (V.kill n0 t53) :: (V.kill n0 t54) :: .junk :: .junk :: .junk :: .junk :: .junk :: .junk :: .junk :: .junk :: .junk :: .junk :: .junk :: .junk :: .junk :: .junk :: .junk :: .junk :: .junk :: .junk :: (V.kill n0 t73) :: (V.kill n0 t74) :: (V.kill n0 t75) :: (V.kill n0 t76) :: (V.kill n0 t77) :: (V.kill n0 t78) :: (V.kill n0 t79) :: (V.kill n0 t80) :: (V.kill n0 t81) :: (V.kill n0 t82) :: (V.kill n0 t83) :: (V.kill n0 t84) :: (V.kill n0 t85) :: (V.kill n0 t86) :: (V.kill n0 t87) :: (V.kill n0 t88) :: (V.kill n0 t89) :: (V.kill n0 t90) :: (V.kill n0 t91) :: (V.kill n0 t92) :: (V.kill n0 t93) :: (V.kill n0 t94) :: (V.kill n0 t95) :: (V.kill n0 t96) :: (V.kill n0 t97) :: (V.kill n0 t98) :: (V.kill n0 t99) :: []), cutH n0 h84⟩) (
  K (.exit 0) ⟨((V.kill n0 t0) :: (V.kill n0 t1) :: (V.kill n0 t2) :: (V.kill n0 t3) :: (V.kill n0 t4) :: (V.kill n0 t5) :: (V.kill n0 t6) :: (V.kill n0 t7) :: (V.kill n0 t8) :: (V.kill n0 t9) :: (V.kill n0 t10) :: (V.kill n0 t11) :: (V.kill n0 t12) :: (V.kill n0 t13) :: (V.kill n0 t14) :: (V.kill n0 t15) :: (V.kill n0 t16) :: (V.kill n0 t17) :: (V.kill n0 t18) :: (V.kill n0 t19) :: (V.kill n0 t20) :: (V.kill n0 t21) :: (V.kill n0 t22) :: (V.kill n0 t23) :: (V.kill n0 t24) :: (V.kill n0 t25) :: (V.kill n0 t26) :: (V.kill n0 t27) :: (V.kill n0 t28) :: (V.kill n0 t29) :: (V.kill n0 t30) :: (V.kill n0 t31) :: (V.kill n0 t32) :: (V.kill n0 t33) :: (V.kill n0 t34) :: (V.kill n0 t35) :: (V.kill n0 t36) :: (V.kill n0 t37) :: (V.kill n0 t38) :: (V.kill n0 t39) :: (V.kill n0 t40) :: (V.kill n0 t41) :: (V.kill n0 t42) :: (V.kill n0 t43) :: (V.kill n0 t44) :: (V.kill n0 t45) :: (V.kill n0 t46) :: (V.kill n0 t47) :: (V.kill n0 t48) :: (V.kill n0 t49) :: (V.kill n0 t50) :: (V.kill n0 t51) :: (V.kill n0 t52) :: (V.kill n0 t53) :: (V.kill n0 t54) :: .junk :: .junk :: .junk :: .junk :: .junk :: .junk :: .junk :: .junk :: .junk :: .junk :: .junk :: .junk :: .junk :: .junk :: .junk :: .junk :: .junk :: .junk :: (V.kill n0 t73) :: (V.kill n0 t74) :: (V.kill n0 t75) :: (V.kill n0 t76) :: (V.kill n0 t77) :: (V.kill n0 t78) :: (V.kill n0 t79) :: (V.kill n0 t80) :: (V.kill n0 t81) :: (V.kill n0 t82) :: (V.kill n0 t83) :: (V.kill n0 t84) :: (V.kill n0 t85) :: (V.kill n0 t86) :: (V.kill n0 t87) :: (V.kill n0 t88) :: (V.kill n0 t89) :: (V.kill n0 t90) :: (V.kill n0 t91) :: (V.kill n0 t92) :: (V.kill n0 t93) :: (V.kill n0 t94) :: (V.kill n0 t95) :: (V.kill n0 t96) :: (V.kill n0 t97) :: (V.kill n0 t98) :: (V.kill n0 t99) :: []), cutH n0 h60⟩) :=
  itX_step (go_seq (go_seq (go_reg0
  (go_op0 rfl rfl (st_id (v := t13) (H := h) (by kernel_rfl)
  (go_op0 rfl rfl (st_bm (by kernel_rfl) fun v59 h60 =>
  (go_end0 (by kernel_rfl)
  (go_cond (by kernel_rfl)
  (go_skip (go_seq (go_block (go_seq (go_reg0
  (go_op0 rfl rfl (st_bm (by kernel_rfl) fun v61 h62 =>
  (go_op0 rfl rfl (st_id (v := t12) (H := h62) (by kernel_rfl)
  (go_op0 rfl rfl (st_bm (by kernel_rfl) fun v63 h64 =>
  (go_op0 rfl rfl (st_bp (by kernel_rfl) fun v65 h66 =>
  (go_op0 rfl rfl (st_id (v := v65) (H := h66) (by kernel_rfl)
  (go_op0 rfl rfl (st_bm (by kernel_rfl) fun v67 h68 =>
  (go_op0 rfl rfl (st_bm (by kernel_rfl) fun v69 h70 =>
  (go_op0 rfl rfl (st_id (v := v67) (H := h70) (by kernel_rfl)
  (go_op0 rfl rfl (st_bs (by kernel_rfl) fun h71 =>
  (go_end0 (by kernel_rfl)
  (go_reg0
  (go_op0 rfl rfl (st_bm (by kernel_rfl) fun v72 h73 =>
  (go_op0 rfl rfl (st_id (v := v67) (H := h73) (by kernel_rfl)
  (go_op0 rfl rfl (st_bm (by kernel_rfl) fun v74 h75 =>
  (go_op0 rfl rfl (st_bp (by kernel_rfl) fun v76 h77 =>
  (go_op0 rfl rfl (st_id (v := v76) (H := h77) (by kernel_rfl)
  (go_op0 rfl rfl (st_bm (by kernel_rfl) fun v78 h79 =>
  (go_op0 rfl rfl (st_bm (by kernel_rfl) fun v80 h81 =>
  (go_op0 rfl rfl (st_id (v := v78) (H := h81) (by kernel_rfl)
  (go_op0 rfl rfl (st_bs (by kernel_rfl) fun h82 =>
  (go_end0 (by kernel_rfl)
  (rt_block_norm (go_reg0
  (go_op0 rfl rfl (st_id (v := t13) (H := h82) (by kernel_rfl)
  (go_op0 rfl rfl (st_bm (by kernel_rfl) fun v83 h84 =>
  (go_op0 rfl rfl (st_id (v := v83) (H := h84) (by kernel_rfl)
  (go_end0 (by kernel_rfl)
  (by kernel_rfl))))))))))))))))))))))))))))))))))))))))))))))))))))))
  (go_exit (rt_seq_exit (by kernel_rfl))))))))))))
theorem xj5_4 (s : Sys) (k wl : Nat) (t0 t1 t2 t3 t4 t5 t6 t7 t8 t9 t10 t11 t12 t13 t14 t15 t16 t17 t18 t19 t20 t21 t22 t23 t24 t25 t26 t27 t28 t29 t30 t31 t32 t33 t34 t35 t36 t37 t38 t39 t40 t41 t42 t43 t44 t45 t46 t47 t48 t49 t50 t51 t52 t53 t54 t55 t56 t57 t58 t59 t60 t61 t62 t63 t64 t65 t66 t67 t68 t69 t70 t71 t72 t73 t74 t75 t76 t77 t78 t79 t80 t81 t82 t83 t84 t85 t86 t87 t88 t89 t90 t91 t92 t93 t94 t95 t96 t97 t98 t99 : V) (h : Hp) : runK (xX s 5 wl k false) (bodyK s.P Try.f5) xk5_1 (.exit 0) ⟨(t0 :: t1 :: t2 :: t3 :: t4 :: t5 :: t6 :: t7 :: t8 :: t9 :: t10 :: t11 :: t12 :: t13 :: t14 :: t15 :: t16 :: t17 :: t18 :: t19 :: t20 :: t21 :: t22 :: t23 :: t24 :: t25 :: t26 :: t27 :: t28 :: t29 :: t30 :: t31 :: t32 :: t33 :: t34 :: t35 :: t36 :: t37 :: t38 :: t39 :: t40 :: t41 :: t42 :: t43 :: t44 :: t45 :: t46 :: t47 :: t48 :: t49 :: t50 :: t51 :: t52 :: t53 :: t54 :: t55 :: t56 :: t57 :: t58 :: t59 :: t60 :: t61 :: t62 :: t63 :: t64 :: t65 :: t66 :: t67 :: t68 :: t69 :: t70 :: t71 :: t72 :: t73 :: t74 :: t75 :: t76 :: t77 :: t78 :: t79 :: t80 :: t81 :: t82 :: t83 :: t84 :: t85 :: t86 :: t87 :: t88 :: t89 :: t90 :: t91 :: t92 :: t93 :: t94 :: t95 :: t96 :: t97 :: t98 :: t99 :: []), h⟩ =
  bm (vLoad s.P 28 t10 h) h fun v85 h86 =>
  bp (callV (xX s 5 wl k false) false true (.fn (.func 26) [] []) [v85] h86) fun v87 h88 =>
  gd v87 (
  bm (vLoad s.P 28 t11 h88) h88 fun v89 h90 =>
  bp (callV (xX s 5 wl k false) false true (.fn (.func 26) [] []) [v89] h90) fun v91 h92 =>
  opsP (xX s 5 wl k false) xg5_2 5 h.length ([], []) (runK (xX s 5 wl k false) (bodyK s.P Try.f5) xk5_2) ⟨(t0 :: t1 :: t2 :: t3 :: t4 :: t5 :: t6 :: t7 :: t8 :: t9 :: t10 :: t11 :: t12 :: t13 :: t14 :: t15 :: t16 :: t17 :: t18 :: t19 :: t20 :: t21 :: t22 :: t23 :: t24 :: t25 :: t26 :: t27 :: t28 :: t29 :: t30 :: t31 :: t32 :: t33 :: t34 :: t35 :: t36 :: t37 :: t38 :: t39 :: t40 :: t41 :: t42 :: t43 :: t44 :: t45 :: t46 :: t47 :: t48 :: t49 :: t50 :: t51 :: t52 :: t53 :: t54 :: t55 :: t56 :: t57 :: t58 :: t59 :: t60 :: t61 :: t62 :: t63 :: t64 :: t65 :: t66 :: t67 :: t68 :: t69 :: t70 :: t71 :: t72 :: v85 :: v87 :: (V.lit (Value.bool true)) :: v89 :: v91 :: t78 :: t79 :: t80 :: t81 :: t82 :: t83 :: t84 :: t85 :: t86 :: t87 :: t88 :: t89 :: t90 :: t91 :: t92 :: t93 :: t94 :: t95 :: t96 :: t97 :: t98 :: t99 :: []), h92⟩) (
  opsP (xX s 5 wl k false) xg5_2 5 h.length ([], []) (runK (xX s 5 wl k false) (bodyK s.P Try.f5) xk5_2) ⟨(t0 :: t1 :: t2 :: t3 :: t4 :: t5 :: t6 :: t7 :: t8 :: t9 :: t10 :: t11 :: t12 :: t13 :: t14 :: t15 :: t16 :: t17 :: t18 :: t19 :: t20 :: t21 :: t22 :: t23 :: t24 :: t25 :: t26 :: t27 :: t28 :: t29 :: t30 :: t31 :: t32 :: t33 :: t34 :: t35 :: t36 :: t37 :: t38 :: t39 :: t40 :: t41 :: t42 :: t43 :: t44 :: t45 :: t46 :: t47 :: t48 :: t49 :: t50 :: t51 :: t52 :: t53 :: t54 :: t55 :: t56 :: t57 :: t58 :: t59 :: t60 :: t61 :: t62 :: t63 :: t64 :: t65 :: t66 :: t67 :: t68 :: t69 :: t70 :: t71 :: t72 :: v85 :: v87 :: (V.lit (Value.bool false)) :: uu :: uu :: t78 :: t79 :: t80 :: t81 :: t82 :: t83 :: t84 :: t85 :: t86 :: t87 :: t88 :: t89 :: t90 :: t91 :: t92 :: t93 :: t94 :: t95 :: t96 :: t97 :: t98 :: t99 :: []), h88⟩) (
  opsP (xX s 5 wl k false) xg5_2 4 h.length ([], []) (runK (xX s 5 wl k false) (bodyK s.P Try.f5) xk5_2) ⟨(t0 :: t1 :: t2 :: t3 :: t4 :: t5 :: t6 :: t7 :: t8 :: t9 :: t10 :: t11 :: t12 :: t13 :: t14 :: t15 :: t16 :: t17 :: t18 :: t19 :: t20 :: t21 :: t22 :: t23 :: t24 :: t25 :: t26 :: t27 :: t28 :: t29 :: t30 :: t31 :: t32 :: t33 :: t34 :: t35 :: t36 :: t37 :: t38 :: t39 :: t40 :: t41 :: t42 :: t43 :: t44 :: t45 :: t46 :: t47 :: t48 :: t49 :: t50 :: t51 :: t52 :: t53 :: t54 :: t55 :: t56 :: t57 :: t58 :: t59 :: t60 :: t61 :: t62 :: t63 :: t64 :: t65 :: t66 :: t67 :: t68 :: t69 :: t70 :: t71 :: t72 :: v85 :: v87 :: v87 :: uu :: t77 :: t78 :: t79 :: t80 :: t81 :: t82 :: t83 :: t84 :: t85 :: t86 :: t87 :: t88 :: t89 :: t90 :: t91 :: t92 :: t93 :: t94 :: t95 :: t96 :: t97 :: t98 :: t99 :: []), h88⟩) :=
  (rt_block_eq (go_seq (go_reg0
  (go_op0 rfl rfl (st_bm (by kernel_rfl) fun v85 h86 =>
  (go_op0 rfl rfl (st_bp (by kernel_rfl) fun v87 h88 =>
  (go_op0 rfl rfl (st_id (v := v87) (H := h88) (by kernel_rfl)
  (go_gdT0 rfl rfl rfl (by kernel_rfl)
  (st_bm (by kernel_rfl) fun v89 h90 =>
  (go_run0 rfl rfl rfl (by kernel_rfl) (st_bp (by kernel_rfl) fun v91 h92 =>
  (by kernel_rfl))))
  (go_skip0 rfl rfl rfl (by kernel_rfl)
  (by kernel_rfl))
  (by kernel_rfl)))))))))))
theorem xm5_5 (s : Sys) (k wl : Nat) (m0 : Nat) (ac : List Nat × List Nat) (t0 t1 t2 t3 t4 t5 t6 t7 t8 t9 t10 t11 t12 t13 t14 t15 t16 t17 t18 t19 t20 t21 t22 t23 t24 t25 t26 t27 t28 t29 t30 t31 t32 t33 t34 t35 t36 t37 t38 t39 t40 t41 t42 t43 t44 t45 t46 t47 t48 t49 t50 t51 t52 t53 t54 t55 t56 t57 t58 t59 t60 t61 t62 t63 t64 t65 t66 t67 t68 t69 t70 t71 t72 t73 t74 t75 t76 t77 t78 t79 t80 t81 t82 t83 t84 t85 t86 t87 t88 t89 t90 t91 t92 t93 t94 t95 t96 t97 t98 t99 : V) (h : Hp) : opsP (xX s 5 wl k false) xg5_2 5 m0 ac (runK (xX s 5 wl k false) (bodyK s.P Try.f5) xk5_2) ⟨(t0 :: t1 :: t2 :: t3 :: t4 :: t5 :: t6 :: t7 :: t8 :: t9 :: t10 :: t11 :: t12 :: t13 :: t14 :: t15 :: t16 :: t17 :: t18 :: t19 :: t20 :: t21 :: t22 :: t23 :: t24 :: t25 :: t26 :: t27 :: t28 :: t29 :: t30 :: t31 :: t32 :: t33 :: t34 :: t35 :: t36 :: t37 :: t38 :: t39 :: t40 :: t41 :: t42 :: t43 :: t44 :: t45 :: t46 :: t47 :: t48 :: t49 :: t50 :: t51 :: t52 :: t53 :: t54 :: t55 :: t56 :: t57 :: t58 :: t59 :: t60 :: t61 :: t62 :: t63 :: t64 :: t65 :: t66 :: t67 :: t68 :: t69 :: t70 :: t71 :: t72 :: t73 :: t74 :: t75 :: t76 :: t77 :: t78 :: t79 :: t80 :: t81 :: t82 :: t83 :: t84 :: t85 :: t86 :: t87 :: t88 :: t89 :: t90 :: t91 :: t92 :: t93 :: t94 :: t95 :: t96 :: t97 :: t98 :: t99 :: []), h⟩ =
  bm (vPick t75 t77 (V.lit (Value.bool false))) h fun v93 h94 =>
  gd v93 (
  bm (vLoad s.P 23 t4 h94) h94 fun v95 h96 =>
  bp (callV (xX s 5 wl k false) false true (.fn (.func 27) [] []) [v95, t12, t2] h96) fun v97 h98 =>
  opsP (xX s 5 wl k false) xg5_2 11 m0 ac (runK (xX s 5 wl k false) (bodyK s.P Try.f5) xk5_2) ⟨(t0 :: t1 :: t2 :: t3 :: t4 :: t5 :: t6 :: t7 :: t8 :: t9 :: t10 :: t11 :: t12 :: t13 :: t14 :: t15 :: t16 :: t17 :: t18 :: t19 :: t20 :: t21 :: t22 :: t23 :: t24 :: t25 :: t26 :: t27 :: t28 :: t29 :: t30 :: t31 :: t32 :: t33 :: t34 :: t35 :: t36 :: t37 :: t38 :: t39 :: t40 :: t41 :: t42 :: t43 :: t44 :: t45 :: t46 :: t47 :: t48 :: t49 :: t50 :: t51 :: t52 :: t53 :: t54 :: t55 :: t56 :: t57 :: t58 :: t59 :: t60 :: t61 :: t62 :: t63 :: t64 :: t65 :: t66 :: t67 :: t68 :: t69 :: t70 :: t71 :: t72 :: t73 :: t74 :: t75 :: t76 :: t77 :: v93 :: (V.lit (Value.bool true)) :: v95 :: t12 :: t2 :: v97 :: t84 :: t85 :: t86 :: t87 :: t88 :: t89 :: t90 :: t91 :: t92 :: t93 :: t94 :: t95 :: t96 :: t97 :: t98 :: t99 :: []), h98⟩) (
  opsP (xX s 5 wl k false) xg5_2 11 m0 ac (runK (xX s 5 wl k false) (bodyK s.P Try.f5) xk5_2) ⟨(t0 :: t1 :: t2 :: t3 :: t4 :: t5 :: t6 :: t7 :: t8 :: t9 :: t10 :: t11 :: t12 :: t13 :: t14 :: t15 :: t16 :: t17 :: t18 :: t19 :: t20 :: t21 :: t22 :: t23 :: t24 :: t25 :: t26 :: t27 :: t28 :: t29 :: t30 :: t31 :: t32 :: t33 :: t34 :: t35 :: t36 :: t37 :: t38 :: t39 :: t40 :: t41 :: t42 :: t43 :: t44 :: t45 :: t46 :: t47 :: t48 :: t49 :: t50 :: t51 :: t52 :: t53 :: t54 :: t55 :: t56 :: t57 :: t58 :: t59 :: t60 :: t61 :: t62 :: t63 :: t64 :: t65 :: t66 :: t67 :: t68 :: t69 :: t70 :: t71 :: t72 :: t73 :: t74 :: t75 :: t76 :: t77 :: v93 :: (V.lit (Value.bool false)) :: uu :: uu :: uu :: uu :: t84 :: t85 :: t86 :: t87 :: t88 :: t89 :: t90 :: t91 :: t92 :: t93 :: t94 :: t95 :: t96 :: t97 :: t98 :: t99 :: []), h94⟩) (
  opsP (xX s 5 wl k false) xg5_2 8 m0 ac (runK (xX s 5 wl k false) (bodyK s.P Try.f5) xk5_2) ⟨(t0 :: t1 :: t2 :: t3 :: t4 :: t5 :: t6 :: t7 :: t8 :: t9 :: t10 :: t11 :: t12 :: t13 :: t14 :: t15 :: t16 :: t17 :: t18 :: t19 :: t20 :: t21 :: t22 :: t23 :: t24 :: t25 :: t26 :: t27 :: t28 :: t29 :: t30 :: t31 :: t32 :: t33 :: t34 :: t35 :: t36 :: t37 :: t38 :: t39 :: t40 :: t41 :: t42 :: t43 :: t44 :: t45 :: t46 :: t47 :: t48 :: t49 :: t50 :: t51 :: t52 :: t53 :: t54 :: t55 :: t56 :: t57 :: t58 :: t59 :: t60 :: t61 :: t62 :: t63 :: t64 :: t65 :: t66 :: t67 :: t68 :: t69 :: t70 :: t71 :: t72 :: t73 :: t74 :: t75 :: t76 :: t77 :: v93 :: v93 :: uu :: t81 :: t82 :: t83 :: t84 :: t85 :: t86 :: t87 :: t88 :: t89 :: t90 :: t91 :: t92 :: t93 :: t94 :: t95 :: t96 :: t97 :: t98 :: t99 :: []), h94⟩) :=
  (go_op0 rfl rfl (st_bm (by kernel_rfl) fun v93 h94 =>
  (go_op0 rfl rfl (st_id (v := v93) (H := h94) (by kernel_rfl)
  (go_gdT0 rfl rfl rfl (by kernel_rfl)
  (st_bm (by kernel_rfl) fun v95 h96 =>
  (go_run0 rfl rfl rfl (by kernel_rfl) (st_id (v := t12) (H := h96) (by kernel_rfl)
  (go_run0 rfl rfl rfl (by kernel_rfl) (st_id (v := t2) (H := h96) (by kernel_rfl)
  (go_run0 rfl rfl rfl (by kernel_rfl) (st_bp (by kernel_rfl) fun v97 h98 =>
  (by kernel_rfl))))))))
  (go_skip0 rfl rfl rfl (by kernel_rfl)
  (go_skip0 rfl rfl rfl (by kernel_rfl)
  (go_skip0 rfl rfl rfl (by kernel_rfl)
  (by kernel_rfl))))
  (by kernel_rfl))))))
theorem xm5_6 (s : Sys) (k wl : Nat) (m0 : Nat) (ac : List Nat × List Nat) (t0 t1 t2 t3 t4 t5 t6 t7 t8 t9 t10 t11 t12 t13 t14 t15 t16 t17 t18 t19 t20 t21 t22 t23 t24 t25 t26 t27 t28 t29 t30 t31 t32 t33 t34 t35 t36 t37 t38 t39 t40 t41 t42 t43 t44 t45 t46 t47 t48 t49 t50 t51 t52 t53 t54 t55 t56 t57 t58 t59 t60 t61 t62 t63 t64 t65 t66 t67 t68 t69 t70 t71 t72 t73 t74 t75 t76 t77 t78 t79 t80 t81 t82 t83 t84 t85 t86 t87 t88 t89 t90 t91 t92 t93 t94 t95 t96 t97 t98 t99 : V) (h : Hp) : opsP (xX s 5 wl k false) xg5_2 11 m0 ac (runK (xX s 5 wl k false) (bodyK s.P Try.f5) xk5_2) ⟨(t0 :: t1 :: t2 :: t3 :: t4 :: t5 :: t6 :: t7 :: t8 :: t9 :: t10 :: t11 :: t12 :: t13 :: t14 :: t15 :: t16 :: t17 :: t18 :: t19 :: t20 :: t21 :: t22 :: t23 :: t24 :: t25 :: t26 :: t27 :: t28 :: t29 :: t30 :: t31 :: t32 :: t33 :: t34 :: t35 :: t36 :: t37 :: t38 :: t39 :: t40 :: t41 :: t42 :: t43 :: t44 :: t45 :: t46 :: t47 :: t48 :: t49 :: t50 :: t51 :: t52 :: t53 :: t54 :: t55 :: t56 :: t57 :: t58 :: t59 :: t60 :: t61 :: t62 :: t63 :: t64 :: t65 :: t66 :: t67 :: t68 :: t69 :: t70 :: t71 :: t72 :: t73 :: t74 :: t75 :: t76 :: t77 :: t78 :: t79 :: t80 :: t81 :: t82 :: t83 :: t84 :: t85 :: t86 :: t87 :: t88 :: t89 :: t90 :: t91 :: t92 :: t93 :: t94 :: t95 :: t96 :: t97 :: t98 :: t99 :: []), h⟩ =
  bm (vPick t79 t83 (V.lit (Value.bool false))) h fun v99 h100 =>
  gd v99 (
  bm (vLoad s.P 23 t4 h100) h100 fun v101 h102 =>
  bp (callV (xX s 5 wl k false) false true (.fn (.func 27) [] []) [v101, t12, t3] h102) fun v103 h104 =>
  opsP (xX s 5 wl k false) xg5_2 17 m0 ac (runK (xX s 5 wl k false) (bodyK s.P Try.f5) xk5_2) ⟨(t0 :: t1 :: t2 :: t3 :: t4 :: t5 :: t6 :: t7 :: t8 :: t9 :: t10 :: t11 :: t12 :: t13 :: t14 :: t15 :: t16 :: t17 :: t18 :: t19 :: t20 :: t21 :: t22 :: t23 :: t24 :: t25 :: t26 :: t27 :: t28 :: t29 :: t30 :: t31 :: t32 :: t33 :: t34 :: t35 :: t36 :: t37 :: t38 :: t39 :: t40 :: t41 :: t42 :: t43 :: t44 :: t45 :: t46 :: t47 :: t48 :: t49 :: t50 :: t51 :: t52 :: t53 :: t54 :: t55 :: t56 :: t57 :: t58 :: t59 :: t60 :: t61 :: t62 :: t63 :: t64 :: t65 :: t66 :: t67 :: t68 :: t69 :: t70 :: t71 :: t72 :: t73 :: t74 :: t75 :: t76 :: t77 :: t78 :: t79 :: t80 :: t81 :: t82 :: t83 :: v99 :: (V.lit (Value.bool true)) :: v101 :: t12 :: t3 :: v103 :: t90 :: t91 :: t92 :: t93 :: t94 :: t95 :: t96 :: t97 :: t98 :: t99 :: []), h104⟩) (
  opsP (xX s 5 wl k false) xg5_2 17 m0 ac (runK (xX s 5 wl k false) (bodyK s.P Try.f5) xk5_2) ⟨(t0 :: t1 :: t2 :: t3 :: t4 :: t5 :: t6 :: t7 :: t8 :: t9 :: t10 :: t11 :: t12 :: t13 :: t14 :: t15 :: t16 :: t17 :: t18 :: t19 :: t20 :: t21 :: t22 :: t23 :: t24 :: t25 :: t26 :: t27 :: t28 :: t29 :: t30 :: t31 :: t32 :: t33 :: t34 :: t35 :: t36 :: t37 :: t38 :: t39 :: t40 :: t41 :: t42 :: t43 :: t44 :: t45 :: t46 :: t47 :: t48 :: t49 :: t50 :: t51 :: t52 :: t53 :: t54 :: t55 :: t56 :: t57 :: t58 :: t59 :: t60 :: t61 :: t62 :: t63 :: t64 :: t65 :: t66 :: t67 :: t68 :: t69 :: t70 :: t71 :: t72 :: t73 :: t74 :: t75 :: t76 :: t77 :: t78 :: t79 :: t80 :: t81 :: t82 :: t83 :: v99 :: (V.lit (Value.bool false)) :: uu :: uu :: uu :: uu :: t90 :: t91 :: t92 :: t93 :: t94 :: t95 :: t96 :: t97 :: t98 :: t99 :: []), h100⟩) (
  opsP (xX s 5 wl k false) xg5_2 14 m0 ac (runK (xX s 5 wl k false) (bodyK s.P Try.f5) xk5_2) ⟨(t0 :: t1 :: t2 :: t3 :: t4 :: t5 :: t6 :: t7 :: t8 :: t9 :: t10 :: t11 :: t12 :: t13 :: t14 :: t15 :: t16 :: t17 :: t18 :: t19 :: t20 :: t21 :: t22 :: t23 :: t24 :: t25 :: t26 :: t27 :: t28 :: t29 :: t30 :: t31 :: t32 :: t33 :: t34 :: t35 :: t36 :: t37 :: t38 :: t39 :: t40 :: t41 :: t42 :: t43 :: t44 :: t45 :: t46 :: t47 :: t48 :: t49 :: t50 :: t51 :: t52 :: t53 :: t54 :: t55 :: t56 :: t57 :: t58 :: t59 :: t60 :: t61 :: t62 :: t63 :: t64 :: t65 :: t66 :: t67 :: t68 :: t69 :: t70 :: t71 :: t72 :: t73 :: t74 :: t75 :: t76 :: t77 :: t78 :: t79 :: t80 :: t81 :: t82 :: t83 :: v99 :: v99 :: uu :: t87 :: t88 :: t89 :: t90 :: t91 :: t92 :: t93 :: t94 :: t95 :: t96 :: t97 :: t98 :: t99 :: []), h100⟩) :=
  (go_op0 rfl rfl (st_bm (by kernel_rfl) fun v99 h100 =>
  (go_op0 rfl rfl (st_id (v := v99) (H := h100) (by kernel_rfl)
  (go_gdT0 rfl rfl rfl (by kernel_rfl)
  (st_bm (by kernel_rfl) fun v101 h102 =>
  (go_run0 rfl rfl rfl (by kernel_rfl) (st_id (v := t12) (H := h102) (by kernel_rfl)
  (go_run0 rfl rfl rfl (by kernel_rfl) (st_id (v := t3) (H := h102) (by kernel_rfl)
  (go_run0 rfl rfl rfl (by kernel_rfl) (st_bp (by kernel_rfl) fun v103 h104 =>
  (by kernel_rfl))))))))
  (go_skip0 rfl rfl rfl (by kernel_rfl)
  (go_skip0 rfl rfl rfl (by kernel_rfl)
  (go_skip0 rfl rfl rfl (by kernel_rfl)
  (by kernel_rfl))))
  (by kernel_rfl))))))
theorem xm5_7 (s : Sys) (k wl : Nat) (m0 : Nat) (ac : List Nat × List Nat) (t0 t1 t2 t3 t4 t5 t6 t7 t8 t9 t10 t11 t12 t13 t14 t15 t16 t17 t18 t19 t20 t21 t22 t23 t24 t25 t26 t27 t28 t29 t30 t31 t32 t33 t34 t35 t36 t37 t38 t39 t40 t41 t42 t43 t44 t45 t46 t47 t48 t49 t50 t51 t52 t53 t54 t55 t56 t57 t58 t59 t60 t61 t62 t63 t64 t65 t66 t67 t68 t69 t70 t71 t72 t73 t74 t75 t76 t77 t78 t79 t80 t81 t82 t83 t84 t85 t86 t87 t88 t89 t90 t91 t92 t93 t94 t95 t96 t97 t98 t99 : V) (h : Hp) : opsP (xX s 5 wl k false) xg5_2 17 m0 ac (runK (xX s 5 wl k false) (bodyK s.P Try.f5) xk5_2) ⟨(t0 :: t1 :: t2 :: t3 :: t4 :: t5 :: t6 :: t7 :: t8 :: t9 :: t10 :: t11 :: t12 :: t13 :: t14 :: t15 :: t16 :: t17 :: t18 :: t19 :: t20 :: t21 :: t22 :: t23 :: t24 :: t25 :: t26 :: t27 :: t28 :: t29 :: t30 :: t31 :: t32 :: t33 :: t34 :: t35 :: t36 :: t37 :: t38 :: t39 :: t40 :: t41 :: t42 :: t43 :: t44 :: t45 :: t46 :: t47 :: t48 :: t49 :: t50 :: t51 :: t52 :: t53 :: t54 :: t55 :: t56 :: t57 :: t58 :: t59 :: t60 :: t61 :: t62 :: t63 :: t64 :: t65 :: t66 :: t67 :: t68 :: t69 :: t70 :: t71 :: t72 :: t73 :: t74 :: t75 :: t76 :: t77 :: t78 :: t79 :: t80 :: t81 :: t82 :: t83 :: t84 :: t85 :: t86 :: t87 :: t88 :: t89 :: t90 :: t91 :: t92 :: t93 :: t94 :: t95 :: t96 :: t97 :: t98 :: t99 :: []), h⟩ =
  bm (vPick t85 t89 (V.lit (Value.bool false))) h fun v105 h106 =>
  gd v105 (
  bp (callV (xX s 5 wl k false) false true (.fn (.func 34) [] []) [t12, (V.lit (Value.int .i64 2))] h106) fun v107 h108 =>
  bp (callV (xX s 5 wl k false) false true (.fn (.func 33) [] []) [v107] h108) fun v109 h110 =>
  bp (callV (xX s 5 wl k false) false true (.fn (.func 34) [] []) [t1, (V.lit (Value.int .i64 2))] h110) fun v111 h112 =>
  bp (callV (xX s 5 wl k false) false true (.fn (.func 33) [] []) [v111] h112) fun v113 h114 =>
  bm (vBin s.P .eql 26 v109 v113) h114 fun v115 h116 =>
  opsP (xX s 5 wl k false) xg5_2 26 m0 ac (runK (xX s 5 wl k false) (bodyK s.P Try.f5) xk5_2) ⟨(t0 :: t1 :: t2 :: t3 :: t4 :: t5 :: t6 :: t7 :: t8 :: t9 :: t10 :: t11 :: t12 :: t13 :: t14 :: t15 :: t16 :: t17 :: t18 :: t19 :: t20 :: t21 :: t22 :: t23 :: t24 :: t25 :: t26 :: t27 :: t28 :: t29 :: t30 :: t31 :: t32 :: t33 :: t34 :: t35 :: t36 :: t37 :: t38 :: t39 :: t40 :: t41 :: t42 :: t43 :: t44 :: t45 :: t46 :: t47 :: t48 :: t49 :: t50 :: t51 :: t52 :: t53 :: t54 :: t55 :: t56 :: t57 :: t58 :: t59 :: t60 :: t61 :: t62 :: t63 :: t64 :: t65 :: t66 :: t67 :: t68 :: t69 :: t70 :: t71 :: t72 :: t73 :: t74 :: t75 :: t76 :: t77 :: t78 :: t79 :: t80 :: t81 :: t82 :: t83 :: t84 :: t85 :: t86 :: t87 :: t88 :: t89 :: v105 :: (V.lit (Value.bool true)) :: t12 :: v107 :: v109 :: t1 :: v111 :: v113 :: v115 :: t99 :: []), h116⟩) (
  opsP (xX s 5 wl k false) xg5_2 26 m0 ac (runK (xX s 5 wl k false) (bodyK s.P Try.f5) xk5_2) ⟨(t0 :: t1 :: t2 :: t3 :: t4 :: t5 :: t6 :: t7 :: t8 :: t9 :: t10 :: t11 :: t12 :: t13 :: t14 :: t15 :: t16 :: t17 :: t18 :: t19 :: t20 :: t21 :: t22 :: t23 :: t24 :: t25 :: t26 :: t27 :: t28 :: t29 :: t30 :: t31 :: t32 :: t33 :: t34 :: t35 :: t36 :: t37 :: t38 :: t39 :: t40 :: t41 :: t42 :: t43 :: t44 :: t45 :: t46 :: t47 :: t48 :: t49 :: t50 :: t51 :: t52 :: t53 :: t54 :: t55 :: t56 :: t57 :: t58 :: t59 :: t60 :: t61 :: t62 :: t63 :: t64 :: t65 :: t66 :: t67 :: t68 :: t69 :: t70 :: t71 :: t72 :: t73 :: t74 :: t75 :: t76 :: t77 :: t78 :: t79 :: t80 :: t81 :: t82 :: t83 :: t84 :: t85 :: t86 :: t87 :: t88 :: t89 :: v105 :: (V.lit (Value.bool false)) :: uu :: uu :: uu :: uu :: uu :: uu :: uu :: t99 :: []), h106⟩) (
  opsP (xX s 5 wl k false) xg5_2 20 m0 ac (runK (xX s 5 wl k false) (bodyK s.P Try.f5) xk5_2) ⟨(t0 :: t1 :: t2 :: t3 :: t4 :: t5 :: t6 :: t7 :: t8 :: t9 :: t10 :: t11 :: t12 :: t13 :: t14 :: t15 :: t16 :: t17 :: t18 :: t19 :: t20 :: t21 :: t22 :: t23 :: t24 :: t25 :: t26 :: t27 :: t28 :: t29 :: t30 :: t31 :: t32 :: t33 :: t34 :: t35 :: t36 :: t37 :: t38 :: t39 :: t40 :: t41 :: t42 :: t43 :: t44 :: t45 :: t46 :: t47 :: t48 :: t49 :: t50 :: t51 :: t52 :: t53 :: t54 :: t55 :: t56 :: t57 :: t58 :: t59 :: t60 :: t61 :: t62 :: t63 :: t64 :: t65 :: t66 :: t67 :: t68 :: t69 :: t70 :: t71 :: t72 :: t73 :: t74 :: t75 :: t76 :: t77 :: t78 :: t79 :: t80 :: t81 :: t82 :: t83 :: t84 :: t85 :: t86 :: t87 :: t88 :: t89 :: v105 :: v105 :: uu :: t93 :: t94 :: t95 :: t96 :: t97 :: t98 :: t99 :: []), h106⟩) :=
  (go_op0 rfl rfl (st_bm (by kernel_rfl) fun v105 h106 =>
  (go_op0 rfl rfl (st_id (v := v105) (H := h106) (by kernel_rfl)
  (go_gdT0 rfl rfl rfl (by kernel_rfl)
  (st_id (v := t12) (H := h106) (by kernel_rfl)
  (go_run0 rfl rfl rfl (by kernel_rfl) (st_bp (by kernel_rfl) fun v107 h108 =>
  (go_run0 rfl rfl rfl (by kernel_rfl) (st_bp (by kernel_rfl) fun v109 h110 =>
  (go_run0 rfl rfl rfl (by kernel_rfl) (st_id (v := t1) (H := h110) (by kernel_rfl)
  (go_run0 rfl rfl rfl (by kernel_rfl) (st_bp (by kernel_rfl) fun v111 h112 =>
  (go_run0 rfl rfl rfl (by kernel_rfl) (st_bp (by kernel_rfl) fun v113 h114 =>
  (go_run0 rfl rfl rfl (by kernel_rfl) (st_bm (by kernel_rfl) fun v115 h116 =>
  (by kernel_rfl))))))))))))))
  (go_skip0 rfl rfl rfl (by kernel_rfl)
  (go_skip0 rfl rfl rfl (by kernel_rfl)
  (go_skip0 rfl rfl rfl (by kernel_rfl)
  (go_skip0 rfl rfl rfl (by kernel_rfl)
  (go_skip0 rfl rfl rfl (by kernel_rfl)
  (go_skip0 rfl rfl rfl (by kernel_rfl)
  (by kernel_rfl)))))))
  (by kernel_rfl))))))
theorem xm5_8 (s : Sys) (k wl : Nat) (m0 : Nat) (ac : List Nat × List Nat) (t0 t1 t2 t3 t4 t5 t6 t7 t8 t9 t10 t11 t12 t13 t14 t15 t16 t17 t18 t19 t20 t21 t22 t23 t24 t25 t26 t27 t28 t29 t30 t31 t32 t33 t34 t35 t36 t37 t38 t39 t40 t41 t42 t43 t44 t45 t46 t47 t48 t49 t50 t51 t52 t53 t54 t55 t56 t57 t58 t59 t60 t61 t62 t63 t64 t65 t66 t67 t68 t69 t70 t71 t72 t73 t74 t75 t76 t77 t78 t79 t80 t81 t82 t83 t84 t85 t86 t87 t88 t89 t90 t91 t92 t93 t94 t95 t96 t97 t98 t99 : V) (h : Hp) : opsP (xX s 5 wl k false) xg5_2 26 m0 ac (runK (xX s 5 wl k false) (bodyK s.P Try.f5) xk5_2) ⟨(t0 :: t1 :: t2 :: t3 :: t4 :: t5 :: t6 :: t7 :: t8 :: t9 :: t10 :: t11 :: t12 :: t13 :: t14 :: t15 :: t16 :: t17 :: t18 :: t19 :: t20 :: t21 :: t22 :: t23 :: t24 :: t25 :: t26 :: t27 :: t28 :: t29 :: t30 :: t31 :: t32 :: t33 :: t34 :: t35 :: t36 :: t37 :: t38 :: t39 :: t40 :: t41 :: t42 :: t43 :: t44 :: t45 :: t46 :: t47 :: t48 :: t49 :: t50 :: t51 :: t52 :: t53 :: t54 :: t55 :: t56 :: t57 :: t58 :: t59 :: t60 :: t61 :: t62 :: t63 :: t64 :: t65 :: t66 :: t67 :: t68 :: t69 :: t70 :: t71 :: t72 :: t73 :: t74 :: t75 :: t76 :: t77 :: t78 :: t79 :: t80 :: t81 :: t82 :: t83 :: t84 :: t85 :: t86 :: t87 :: t88 :: t89 :: t90 :: t91 :: t92 :: t93 :: t94 :: t95 :: t96 :: t97 :: t98 :: t99 :: []), h⟩ =
  bm (vPick t91 t98 (V.lit (Value.bool false))) h fun v117 h118 =>
  some (v117, h118) :=
  (go_op0 rfl rfl (st_bm (by kernel_rfl) fun v117 h118 =>
  (go_op0 rfl rfl (st_id (v := v117) (H := h118) (by kernel_rfl)
  (go_end0 (by kernel_rfl)
  (go_ret (by kernel_rfl)))))))
theorem xk5_0_ret (cx : Cx) (K : Out → St → Option (V × Hp)) (s : St) : runK cx K xk5_0 .ret s = K .ret s := by kernel_rfl
theorem xk5_1_ret (cx : Cx) (K : Out → St → Option (V × Hp)) (s : St) : runK cx K xk5_1 .ret s = K .ret s := by kernel_rfl
theorem xk5_2_ret (cx : Cx) (K : Out → St → Option (V × Hp)) (s : St) : runK cx K xk5_2 .ret s = K .ret s := by kernel_rfl
-- names: xb5, xz5, xm5_0, xm5_1, xm5_2, xm5_3, xr5_0, xj5_4, xm5_5, xm5_6, xm5_7, xm5_8, xk5_0_ret, xk5_1_ret, xk5_2_ret
end Go.Ab
