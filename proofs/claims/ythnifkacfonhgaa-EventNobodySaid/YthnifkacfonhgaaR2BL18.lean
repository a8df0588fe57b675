/- The program's code, point by point: printed by gen.py. -/
import Derived.Test.YthnifkacfonhgaaR2Seat
set_option linter.unusedVariables false
set_option linter.unusedSimpArgs false
set_option maxRecDepth 100000
set_option linter.unusedVariables false
namespace Go.Ab
open Go.Proofs
/-! 18 poacher/poacherlaw16.EventNobody: 0 calls, 1 who, 2 waits, 3 calls, 4 who, 5 waits, 7 up, 8 few, 9 some, 10 i, 11 l, 12 j, 13 _, 14 l, 15 _, 16 i -/
noncomputable def xg18_0 : Code := codeAt (bodyOf Try.f18) [1, 1, 1, 0, 0]
noncomputable def xk18_0 : List Fr := [.seq (codeAt (bodyOf Try.f18) [1, 1, 1, 0, 1]), .seq (codeAt (bodyOf Try.f18) [1, 1, 1, 1])]
noncomputable def xl18_0 : Code := codeAt (bodyOf Try.f18) [1, 1, 1, 1, 1, 0, 1, 0, 0]
noncomputable def xk18_1 : List Fr := [.block 0, .seq (codeAt (bodyOf Try.f18) [1, 1, 1, 1, 1, 1])]
noncomputable def xl18_1 : Code := codeAt (bodyOf Try.f18) [1, 1, 1, 1, 1, 0, 1, 0, 0, 1, 0, 0, 1, 0, 1, 0, 0]
noncomputable def xk18_2 : List Fr := [.block 2, .seq (codeAt (bodyOf Try.f18) [1, 1, 1, 1, 1, 0, 1, 0, 0, 1, 0, 0, 1, 1]), .block 1, .seq (codeAt (bodyOf Try.f18) [1, 1, 1, 1, 1, 0, 1, 0, 0, 1, 1])]
noncomputable def xl18_2 : Code := codeAt (bodyOf Try.f18) [1, 1, 1, 1, 1, 1, 1, 0, 1, 0, 0]
noncomputable def xk18_3 : List Fr := [.block 4, .seq (codeAt (bodyOf Try.f18) [1, 1, 1, 1, 1, 1, 1, 1])]
noncomputable def xk18_4 : List Fr := [.block 3, .seq (codeAt (bodyOf Try.f18) [1, 1, 1, 1, 1, 0, 1, 0, 0, 1, 0, 0, 1, 0, 1, 0, 0, 1, 1])]
noncomputable def xg18_1 : Code := codeAt (bodyOf Try.f18) [1, 1, 1, 1, 1, 1, 1, 0, 1, 0, 0, 1, 0, 0, 0]
noncomputable def xk18_5 : List Fr := [.seq (codeAt (bodyOf Try.f18) [1, 1, 1, 1, 1, 1, 1, 0, 1, 0, 0, 1, 0, 0, 1]), .block 5, .seq (codeAt (bodyOf Try.f18) [1, 1, 1, 1, 1, 1, 1, 0, 1, 0, 0, 1, 1])]
theorem xb18 (s : Sys) (k wl : Nat) (t0 t1 t2 : V) (h : Hp) : bodyV (xX s 18 wl k false) Try.f18 [t0, t1, t2] h =
  bp (callV (xX s 18 wl k false) false true (.fn (.func 44) [] []) [] h) fun v1 h2 =>
  bp (callV (xX s 18 wl k false) false true (.fn (.func 45) [] []) [t0] h2) fun v3 h4 =>
  bm (vUn .not v1) h4 fun v5 h6 =>
  gd v5 (
  opsP (xX s 18 wl k false) xg18_0 5 h4.length ([], []) (runK (xX s 18 wl k false) (bodyK s.P Try.f18) xk18_0) ⟨(t0 :: t1 :: t2 :: uu :: uu :: uu :: (V.lit (Value.bool false)) :: v1 :: v3 :: uu :: uu :: uu :: uu :: uu :: uu :: uu :: uu :: v1 :: t0 :: v3 :: v1 :: v5 :: (V.lit (Value.bool true)) :: uu :: uu :: uu :: uu :: uu :: uu :: uu :: uu :: uu :: uu :: uu :: uu :: uu :: uu :: uu :: uu :: uu :: uu :: uu :: uu :: uu :: uu :: uu :: uu :: uu :: uu :: uu :: uu :: uu :: uu :: uu :: uu :: uu :: uu :: uu :: uu :: uu :: uu :: uu :: uu :: uu :: uu :: uu :: uu :: uu :: uu :: uu :: uu :: uu :: uu :: uu :: uu :: uu :: uu :: uu :: uu :: uu :: uu :: uu :: uu :: uu :: uu :: uu :: uu :: uu :: uu :: uu :: uu :: uu :: uu :: []), h6⟩) (
  bm (vUn .not v3) h6 fun v7 h8 =>
  opsP (xX s 18 wl k false) xg18_0 5 h4.length ([], []) (runK (xX s 18 wl k false) (bodyK s.P Try.f18) xk18_0) ⟨(t0 :: t1 :: t2 :: uu :: uu :: uu :: (V.lit (Value.bool false)) :: v1 :: v3 :: uu :: uu :: uu :: uu :: uu :: uu :: uu :: uu :: v1 :: t0 :: v3 :: v1 :: v5 :: (V.lit (Value.bool false)) :: v3 :: v7 :: uu :: uu :: uu :: uu :: uu :: uu :: uu :: uu :: uu :: uu :: uu :: uu :: uu :: uu :: uu :: uu :: uu :: uu :: uu :: uu :: uu :: uu :: uu :: uu :: uu :: uu :: uu :: uu :: uu :: uu :: uu :: uu :: uu :: uu :: uu :: uu :: uu :: uu :: uu :: uu :: uu :: uu :: uu :: uu :: uu :: uu :: uu :: uu :: uu :: uu :: uu :: uu :: uu :: uu :: uu :: uu :: uu :: uu :: uu :: uu :: uu :: uu :: uu :: uu :: uu :: uu :: uu :: uu :: []), h8⟩) (
  opsP (xX s 18 wl k false) xg18_0 4 h4.length ([], []) (runK (xX s 18 wl k false) (bodyK s.P Try.f18) xk18_0) ⟨(t0 :: t1 :: t2 :: uu :: uu :: uu :: (V.lit (Value.bool false)) :: v1 :: v3 :: uu :: uu :: uu :: uu :: uu :: uu :: uu :: uu :: v1 :: t0 :: v3 :: v1 :: v5 :: v5 :: uu :: uu :: uu :: uu :: uu :: uu :: uu :: uu :: uu :: uu :: uu :: uu :: uu :: uu :: uu :: uu :: uu :: uu :: uu :: uu :: uu :: uu :: uu :: uu :: uu :: uu :: uu :: uu :: uu :: uu :: uu :: uu :: uu :: uu :: uu :: uu :: uu :: uu :: uu :: uu :: uu :: uu :: uu :: uu :: uu :: uu :: uu :: uu :: uu :: uu :: uu :: uu :: uu :: uu :: uu :: uu :: uu :: uu :: uu :: uu :: uu :: uu :: uu :: uu :: uu :: uu :: uu :: uu :: uu :: uu :: []), h6⟩) :=
  bodyV_run rfl (go_seq (go_reg0
  (go_op0 rfl rfl (st_id (v := (V.lit (Value.bool false))) (H := h) (by kernel_rfl)
  (go_end0 (by kernel_rfl)
  (go_seq (go_reg0
  (go_op0 rfl rfl (st_bp (by kernel_rfl) fun v1 h2 =>
  (go_op0 rfl rfl (st_id (v := v1) (H := h2) (by kernel_rfl)
  (go_end0 (by kernel_rfl)
  (go_seq (go_reg0
  (go_op0 rfl rfl (st_id (v := t0) (H := h2) (by kernel_rfl)
  (go_op0 rfl rfl (st_bp (by kernel_rfl) fun v3 h4 =>
  (go_op0 rfl rfl (st_id (v := v3) (H := h4) (by kernel_rfl)
  (go_end0 (by kernel_rfl)
  (go_seq (go_seq (go_reg0
  (go_op0 rfl rfl (st_id (v := v1) (H := h4) (by kernel_rfl)
  (go_op0 rfl rfl (st_bm (by kernel_rfl) fun v5 h6 =>
  (go_op0 rfl rfl (st_id (v := v5) (H := h6) (by kernel_rfl)
  (go_gdF0 rfl rfl rfl (by kernel_rfl)
  (go_skip0 rfl rfl rfl (by kernel_rfl)
  (by kernel_rfl))
  (st_id (v := v3) (H := h6) (by kernel_rfl)
  (go_run0 rfl rfl rfl (by kernel_rfl) (st_bm (by kernel_rfl) fun v7 h8 =>
  (by kernel_rfl))))
  (by kernel_rfl))))))))))))))))))))))))))))))))
theorem xe18 (k wl : Nat) (t0 t1 t2 : V) (h : Hp) : evF Try.prog xM (k + 1) wl 18 [t0, t1, t2] h = bodyV (xX (xS k) 18 wl k false) Try.f18 [t0, t1, t2] h := by kernel_rfl
theorem xz18 (P : Program) (t0 t1 t2 t3 t4 t5 t6 t7 t8 t9 t10 t11 t12 t13 t14 t15 t16 t17 t18 t19 t20 t21 t22 t23 t24 t25 t26 t27 t28 t29 t30 t31 t32 t33 t34 t35 t36 t37 t38 t39 t40 t41 t42 t43 t44 t45 t46 t47 t48 t49 t50 t51 t52 t53 t54 t55 t56 t57 t58 t59 t60 t61 t62 t63 t64 t65 t66 t67 t68 t69 t70 t71 t72 t73 t74 t75 t76 t77 t78 t79 t80 t81 t82 t83 t84 t85 t86 t87 t88 t89 t90 t91 t92 : V) (h : Hp) : bodyK P Try.f18 .ret ⟨(t0 :: t1 :: t2 :: t3 :: t4 :: t5 :: t6 :: t7 :: t8 :: t9 :: t10 :: t11 :: t12 :: t13 :: t14 :: t15 :: t16 :: t17 :: t18 :: t19 :: t20 :: t21 :: t22 :: t23 :: t24 :: t25 :: t26 :: t27 :: t28 :: t29 :: t30 :: t31 :: t32 :: t33 :: t34 :: t35 :: t36 :: t37 :: t38 :: t39 :: t40 :: t41 :: t42 :: t43 :: t44 :: t45 :: t46 :: t47 :: t48 :: t49 :: t50 :: t51 :: t52 :: t53 :: t54 :: t55 :: t56 :: t57 :: t58 :: t59 :: t60 :: t61 :: t62 :: t63 :: t64 :: t65 :: t66 :: t67 :: t68 :: t69 :: t70 :: t71 :: t72 :: t73 :: t74 :: t75 :: t76 :: t77 :: t78 :: t79 :: t80 :: t81 :: t82 :: t83 :: t84 :: t85 :: t86 :: t87 :: t88 :: t89 :: t90 :: t91 :: t92 :: []), h⟩ = some (t6, h) := by kernel_rfl
theorem xm18_0 (s : Sys) (k wl : Nat) (m0 : Nat) (ac : List Nat × List Nat) (t0 t1 t2 t3 t4 t5 t6 t7 t8 t9 t10 t11 t12 t13 t14 t15 t16 t17 t18 t19 t20 t21 t22 t23 t24 t25 t26 t27 t28 t29 t30 t31 t32 t33 t34 t35 t36 t37 t38 t39 t40 t41 t42 t43 t44 t45 t46 t47 t48 t49 t50 t51 t52 t53 t54 t55 t56 t57 t58 t59 t60 t61 t62 t63 t64 t65 t66 t67 t68 t69 t70 t71 t72 t73 t74 t75 t76 t77 t78 t79 t80 t81 t82 t83 t84 t85 t86 t87 t88 t89 t90 t91 t92 : V) (h : Hp) : opsP (xX s 18 wl k false) xg18_0 5 m0 ac (runK (xX s 18 wl k false) (bodyK s.P Try.f18) xk18_0) ⟨(t0 :: t1 :: t2 :: t3 :: t4 :: t5 :: t6 :: t7 :: t8 :: t9 :: t10 :: t11 :: t12 :: t13 :: t14 :: t15 :: t16 :: t17 :: t18 :: t19 :: t20 :: t21 :: t22 :: t23 :: t24 :: t25 :: t26 :: t27 :: t28 :: t29 :: t30 :: t31 :: t32 :: t33 :: t34 :: t35 :: t36 :: t37 :: t38 :: t39 :: t40 :: t41 :: t42 :: t43 :: t44 :: t45 :: t46 :: t47 :: t48 :: t49 :: t50 :: t51 :: t52 :: t53 :: t54 :: t55 :: t56 :: t57 :: t58 :: t59 :: t60 :: t61 :: t62 :: t63 :: t64 :: t65 :: t66 :: t67 :: t68 :: t69 :: t70 :: t71 :: t72 :: t73 :: t74 :: t75 :: t76 :: t77 :: t78 :: t79 :: t80 :: t81 :: t82 :: t83 :: t84 :: t85 :: t86 :: t87 :: t88 :: t89 :: t90 :: t91 :: t92 :: []), h⟩ =
  bm (vPick t22 (V.lit (Value.bool true)) t24) h fun v9 h10 =>
  gd v9 (
  opsP (xX s 18 wl k false) xg18_0 10 m0 ac (runK (xX s 18 wl k false) (bodyK s.P Try.f18) xk18_0) ⟨(t0 :: t1 :: t2 :: t3 :: t4 :: t5 :: t6 :: t7 :: t8 :: t9 :: t10 :: t11 :: t12 :: t13 :: t14 :: t15 :: t16 :: t17 :: t18 :: t19 :: t20 :: t21 :: t22 :: t23 :: t24 :: v9 :: (V.lit (Value.bool true)) :: uu :: uu :: uu :: t30 :: t31 :: t32 :: t33 :: t34 :: t35 :: t36 :: t37 :: t38 :: t39 :: t40 :: t41 :: t42 :: t43 :: t44 :: t45 :: t46 :: t47 :: t48 :: t49 :: t50 :: t51 :: t52 :: t53 :: t54 :: t55 :: t56 :: t57 :: t58 :: t59 :: t60 :: t61 :: t62 :: t63 :: t64 :: t65 :: t66 :: t67 :: t68 :: t69 :: t70 :: t71 :: t72 :: t73 :: t74 :: t75 :: t76 :: t77 :: t78 :: t79 :: t80 :: t81 :: t82 :: t83 :: t84 :: t85 :: t86 :: t87 :: t88 :: t89 :: t90 :: t91 :: t92 :: []), h10⟩) (
  bp (opLen s.P 51 t1 h10) fun v11 h12 =>
  bm (vBin s.P .gtr 3 v11 (V.lit (Value.int .i64 500))) h12 fun v13 h14 =>
  opsP (xX s 18 wl k false) xg18_0 10 m0 ac (runK (xX s 18 wl k false) (bodyK s.P Try.f18) xk18_0) ⟨(t0 :: t1 :: t2 :: t3 :: t4 :: t5 :: t6 :: t7 :: t8 :: t9 :: t10 :: t11 :: t12 :: t13 :: t14 :: t15 :: t16 :: t17 :: t18 :: t19 :: t20 :: t21 :: t22 :: t23 :: t24 :: v9 :: (V.lit (Value.bool false)) :: t1 :: v11 :: v13 :: t30 :: t31 :: t32 :: t33 :: t34 :: t35 :: t36 :: t37 :: t38 :: t39 :: t40 :: t41 :: t42 :: t43 :: t44 :: t45 :: t46 :: t47 :: t48 :: t49 :: t50 :: t51 :: t52 :: t53 :: t54 :: t55 :: t56 :: t57 :: t58 :: t59 :: t60 :: t61 :: t62 :: t63 :: t64 :: t65 :: t66 :: t67 :: t68 :: t69 :: t70 :: t71 :: t72 :: t73 :: t74 :: t75 :: t76 :: t77 :: t78 :: t79 :: t80 :: t81 :: t82 :: t83 :: t84 :: t85 :: t86 :: t87 :: t88 :: t89 :: t90 :: t91 :: t92 :: []), h14⟩) (
  opsP (xX s 18 wl k false) xg18_0 8 m0 ac (runK (xX s 18 wl k false) (bodyK s.P Try.f18) xk18_0) ⟨(t0 :: t1 :: t2 :: t3 :: t4 :: t5 :: t6 :: t7 :: t8 :: t9 :: t10 :: t11 :: t12 :: t13 :: t14 :: t15 :: t16 :: t17 :: t18 :: t19 :: t20 :: t21 :: t22 :: t23 :: t24 :: v9 :: v9 :: uu :: t28 :: t29 :: t30 :: t31 :: t32 :: t33 :: t34 :: t35 :: t36 :: t37 :: t38 :: t39 :: t40 :: t41 :: t42 :: t43 :: t44 :: t45 :: t46 :: t47 :: t48 :: t49 :: t50 :: t51 :: t52 :: t53 :: t54 :: t55 :: t56 :: t57 :: t58 :: t59 :: t60 :: t61 :: t62 :: t63 :: t64 :: t65 :: t66 :: t67 :: t68 :: t69 :: t70 :: t71 :: t72 :: t73 :: t74 :: t75 :: t76 :: t77 :: t78 :: t79 :: t80 :: t81 :: t82 :: t83 :: t84 :: t85 :: t86 :: t87 :: t88 :: t89 :: t90 :: t91 :: t92 :: []), h10⟩) :=
  (go_op0 rfl rfl (st_bm (by kernel_rfl) fun v9 h10 =>
  (go_op0 rfl rfl (st_id (v := v9) (H := h10) (by kernel_rfl)
  (go_gdF0 rfl rfl rfl (by kernel_rfl)
  (go_skip0 rfl rfl rfl (by kernel_rfl)
  (go_skip0 rfl rfl rfl (by kernel_rfl)
  (by kernel_rfl)))
  (st_id (v := t1) (H := h10) (by kernel_rfl)
  (go_run0 rfl rfl rfl (by kernel_rfl) (st_bp (by kernel_rfl) fun v11 h12 =>
  (go_run0 rfl rfl rfl (by kernel_rfl) (st_bm (by kernel_rfl) fun v13 h14 =>
  (by kernel_rfl))))))
  (by kernel_rfl))))))
theorem xm18_1 (s : Sys) (k wl : Nat) (m0 : Nat) (ac : List Nat × List Nat) (t0 t1 t2 t3 t4 t5 t6 t7 t8 t9 t10 t11 t12 t13 t14 t15 t16 t17 t18 t19 t20 t21 t22 t23 t24 t25 t26 t27 t28 t29 t30 t31 t32 t33 t34 t35 t36 t37 t38 t39 t40 t41 t42 t43 t44 t45 t46 t47 t48 t49 t50 t51 t52 t53 t54 t55 t56 t57 t58 t59 t60 t61 t62 t63 t64 t65 t66 t67 t68 t69 t70 t71 t72 t73 t74 t75 t76 t77 t78 t79 t80 t81 t82 t83 t84 t85 t86 t87 t88 t89 t90 t91 t92 : V) (h : Hp) : opsP (xX s 18 wl k false) xg18_0 10 m0 ac (runK (xX s 18 wl k false) (bodyK s.P Try.f18) xk18_0) ⟨(t0 :: t1 :: t2 :: t3 :: t4 :: t5 :: t6 :: t7 :: t8 :: t9 :: t10 :: t11 :: t12 :: t13 :: t14 :: t15 :: t16 :: t17 :: t18 :: t19 :: t20 :: t21 :: t22 :: t23 :: t24 :: t25 :: t26 :: t27 :: t28 :: t29 :: t30 :: t31 :: t32 :: t33 :: t34 :: t35 :: t36 :: t37 :: t38 :: t39 :: t40 :: t41 :: t42 :: t43 :: t44 :: t45 :: t46 :: t47 :: t48 :: t49 :: t50 :: t51 :: t52 :: t53 :: t54 :: t55 :: t56 :: t57 :: t58 :: t59 :: t60 :: t61 :: t62 :: t63 :: t64 :: t65 :: t66 :: t67 :: t68 :: t69 :: t70 :: t71 :: t72 :: t73 :: t74 :: t75 :: t76 :: t77 :: t78 :: t79 :: t80 :: t81 :: t82 :: t83 :: t84 :: t85 :: t86 :: t87 :: t88 :: t89 :: t90 :: t91 :: t92 :: []), h⟩ =
  bm (vPick t26 (V.lit (Value.bool true)) t29) h fun v15 h16 =>
  cnd v15 (
  some (t7, h16)) (
  bp (some (.own h16.length 0 0, h16 ++ [.rows 0 [] 0 true])) fun v17 h18 =>
  itX (xX s 18 wl k false) xl18_0 h18.length (runK (xX s 18 wl k false) (bodyK s.P Try.f18) xk18_1) k ⟨((V.kill h18.length t0) :: (V.kill h18.length t1) :: (V.kill h18.length t2) :: (V.kill h18.length t3) :: (V.kill h18.length t4) :: (V.kill h18.length t5) :: (V.kill h18.length t6) :: (V.kill h18.length t7) :: (V.kill h18.length t8) :: (V.kill h18.length v17) :: (V.lit (Value.int .i64 0)) :: (V.kill h18.length t11) :: (V.kill h18.length t12) :: (V.kill h18.length t13) :: (V.kill h18.length t14) :: (V.kill h18.length t15) :: (V.kill h18.length t16) :: (V.kill h18.length t17) :: (V.kill h18.length t18) :: (V.kill h18.length t19) :: (V.kill h18.length t20) :: (V.kill h18.length t21) :: (V.kill h18.length t22) :: (V.kill h18.length t23) :: (V.kill h18.length t24) :: (V.kill h18.length t25) :: (V.kill h18.length t26) :: (V.kill h18.length t27) :: (V.kill h18.length t28) :: (V.kill h18.length t29) :: (V.kill h18.length v15) :: (V.kill h18.length t31) :: .junk :: .junk :: .junk :: .junk :: .junk :: .junk :: .junk :: .junk :: .junk :: .junk :: .junk :: .junk :: .junk :: .junk :: .junk :: .junk :: .junk :: .junk :: .junk :: .junk :: .junk :: .junk :: .junk :: .junk :: .junk :: .junk :: .junk :: .junk :: .junk :: .junk :: .junk :: .junk :: .junk :: .junk :: .junk :: .junk :: .junk :: .junk :: .junk :: (V.kill h18.length t71) :: (V.kill h18.length t72) :: (V.kill h18.length t73) :: (V.kill h18.length t74) :: (V.kill h18.length t75) :: (V.kill h18.length t76) :: (V.kill h18.length t77) :: (V.kill h18.length t78) :: (V.kill h18.length t79) :: (V.kill h18.length t80) :: (V.kill h18.length t81) :: (V.kill h18.length t82) :: (V.kill h18.length t83) :: (V.kill h18.length t84) :: (V.kill h18.length t85) :: (V.kill h18.length t86) :: (V.kill h18.length t87) :: (V.kill h18.length t88) :: (V.kill h18.length t89) :: (V.kill h18.length t90) :: (V.kill h18.length t91) :: (V.kill h18.length t92) :: []), cutH h18.length h18⟩) :=
  (go_op0 rfl rfl (st_bm (by kernel_rfl) fun v15 h16 =>
  (go_end0 (by kernel_rfl)
  (go_cond (by kernel_rfl)
  (go_seq (go_reg0
  (go_op0 rfl rfl (st_id (v := t7) (H := h16) (by kernel_rfl)
  (go_op0 rfl rfl (st_id (v := t7) (H := h16) (by kernel_rfl)
  (go_end0 (by kernel_rfl)
  (go_ret (rt_seq_ret (by kernel_rfl))))))))))
  (go_skip (go_seq (go_reg0
  (go_op0 rfl rfl (st_bp (by kernel_rfl) fun v17 h18 =>
  (go_end0 (by kernel_rfl)
  (go_seq (go_seq (go_reg0
  (go_op0 rfl rfl (st_id (v := (V.lit (Value.int .i64 0))) (H := h18) (by kernel_rfl)
  (go_end0 (by kernel_rfl)
  (go_block (by kernel_rfl))))))))))))))))))
theorem xr18_0 (s : Sys) (K : Out → St → Option (V × Hp)) (k wl : Nat) (rd : Bool) (n n0 : Nat) (t0 t1 t2 t3 t4 t5 t6 t7 t8 t9 t10 t11 t12 t13 t14 t15 t16 t17 t18 t19 t20 t21 t22 t23 t24 t25 t26 t27 t28 t29 t30 t31 t32 t33 t34 t35 t36 t37 t38 t39 t40 t41 t42 t43 t44 t45 t46 t47 t48 t49 t50 t51 t52 t53 t54 t55 t56 t57 t58 t59 t60 t61 t62 t63 t64 t65 t66 t67 t68 t69 t70 t71 t72 t73 t74 t75 t76 t77 t78 t79 t80 t81 t82 t83 t84 t85 t86 t87 t88 t89 t90 t91 t92 : V) (h : Hp) : itX (xX s 18 wl k rd) xl18_0 n0 K (n + 1) ⟨(t0 :: t1 :: t2 :: t3 :: t4 :: t5 :: t6 :: t7 :: t8 :: t9 :: t10 :: t11 :: t12 :: t13 :: t14 :: t15 :: t16 :: t17 :: t18 :: t19 :: t20 :: t21 :: t22 :: t23 :: t24 :: t25 :: t26 :: t27 :: t28 :: t29 :: t30 :: t31 :: t32 :: t33 :: t34 :: t35 :: t36 :: t37 :: t38 :: t39 :: t40 :: t41 :: t42 :: t43 :: t44 :: t45 :: t46 :: t47 :: t48 :: t49 :: t50 :: t51 :: t52 :: t53 :: t54 :: t55 :: t56 :: t57 :: t58 :: t59 :: t60 :: t61 :: t62 :: t63 :: t64 :: t65 :: t66 :: t67 :: t68 :: t69 :: t70 :: t71 :: t72 :: t73 :: t74 :: t75 :: t76 :: t77 :: t78 :: t79 :: t80 :: t81 :: t82 :: t83 :: t84 :: t85 :: t86 :: t87 :: t88 :: t89 :: t90 :: t91 :: t92 :: []), h⟩ =
  bp (opLen s.P 50 t0 h) fun v19 h20 =>
  bm (vBin s.P .lss 3 t10 v19) h20 fun v21 h22 =>
  cnd v21 (
  bp (some (.own h22.length 0 0, h22 ++ [.rows 0 [] 0 true])) fun v23 h24 =>
  itX (xX s 18 wl k rd) xl18_1 h24.length (runK (xX s 18 wl k rd) (nextK (xX s 18 wl k rd) xl18_0 n0 K n) xk18_2) k ⟨((V.kill h24.length t0) :: (V.kill h24.length t1) :: (V.kill h24.length t2) :: (V.kill h24.length t3) :: (V.kill h24.length t4) :: (V.kill h24.length t5) :: (V.kill h24.length t6) :: (V.kill h24.length t7) :: (V.kill h24.length t8) :: (V.kill h24.length t9) :: (V.kill h24.length t10) :: (V.kill h24.length v23) :: (V.lit (Value.int .i64 0)) :: (V.kill h24.length t13) :: (V.kill h24.length t14) :: (V.kill h24.length t15) :: (V.kill h24.length t16) :: (V.kill h24.length t17) :: (V.kill h24.length t18) :: (V.kill h24.length t19) :: (V.kill h24.length t20) :: (V.kill h24.length t21) :: (V.kill h24.length t22) :: (V.kill h24.length t23) :: (V.kill h24.length t24) :: (V.kill h24.length t25) :: (V.kill h24.length t26) :: (V.kill h24.length t27) :: (V.kill h24.length t28) :: (V.kill h24.length t29) :: (V.kill h24.length t30) :: (V.kill h24.length t31) :: (V.kill h24.length t10) :: (V.kill h24.length t0) :: (V.kill h24.length v19) :: (V.kill h24.length v21) :: (V.kill h24.length t36) :: (V.kill h24.length t37) :: .junk :: .junk :: .junk :: .junk :: .junk :: .junk :: .junk :: .junk :: .junk :: .junk :: .junk :: .junk :: .junk :: .junk :: .junk :: .junk :: .junk :: .junk :: .junk :: .junk :: .junk :: .junk :: .junk :: .junk :: .junk :: .junk :: .junk :: .junk :: .junk :: (V.kill h24.length t67) :: (V.kill h24.length t68) :: (V.kill h24.length t69) :: (V.kill h24.length t70) :: (V.kill h24.length t71) :: (V.kill h24.length t72) :: (V.kill h24.length t73) :: (V.kill h24.length t74) :: (V.kill h24.length t75) :: (V.kill h24.length t76) :: (V.kill h24.length t77) :: (V.kill h24.length t78) :: (V.kill h24.length t79) :: (V.kill h24.length t80) :: (V.kill h24.length t81) :: (V.kill h24.length t82) :: (V.kill h24.length t83) :: (V.kill h24.length t84) :: (V.kill h24.length t85) :: (V.kill h24.length t86) :: (V.kill h24.length t87) :: (V.kill h24.length t88) :: (V.kill h24.length t89) :: (V.kill h24.length t90) :: (V.kill h24.length t91) :: (V.kill h24.length t92) :: []), cutH h24.length h24⟩) (
  K (.exit 0) ⟨((V.kill n0 t0) :: (V.kill n0 t1) :: (V.kill n0 t2) :: (V.kill n0 t3) :: (V.kill n0 t4) :: (V.kill n0 t5) :: (V.kill n0 t6) :: (V.kill n0 t7) :: (V.kill n0 t8) :: (V.kill n0 t9) :: (V.kill n0 t10) :: (V.kill n0 t11) :: (V.kill n0 t12) :: (V.kill n0 t13) :: (V.kill n0 t14) :: (V.kill n0 t15) :: (V.kill n0 t16) :: (V.kill n0 t17) :: (V.kill n0 t18) :: (V.kill n0 t19) :: (V.kill n0 t20) :: (V.kill n0 t21) :: (V.kill n0 t22) :: (V.kill n0 t23) :: (V.kill n0 t24) :: (V.kill n0 t25) :: (V.kill n0 t26) :: (V.kill n0 t27) :: (V.kill n0 t28) :: (V.kill n0 t29) :: (V.kill n0 t30) :: (V.kill n0 t31) :: .junk :: .junk :: .junk :: .junk :: .junk :: .junk :: .junk :: .junk :: .junk :: .junk :: .junk :: .junk :: .junk :: .junk :: .junk :: .junk :: .junk :: .junk :: .junk :: .junk :: .junk :: .junk :: .junk :: .junk :: .junk :: .junk :: .junk :: .junk :: .junk :: .junk :: .junk :: .junk :: .junk :: .junk :: .junk :: .junk :: .junk :: .junk :: .junk :: (V.kill n0 t71) :: (V.kill n0 t72) :: (V.kill n0 t73) :: (V.kill n0 t74) :: (V.kill n0 t75) :: (V.kill n0 t76) :: (V.kill n0 t77) :: (V.kill n0 t78) :: (V.kill n0 t79) :: (V.kill n0 t80) :: (V.kill n0 t81) :: (V.kill n0 t82) :: (V.kill n0 t83) :: (V.kill n0 t84) :: (V.kill n0 t85) :: (V.kill n0 t86) :: (V.kill n0 t87) :: (V.kill n0 t88) :: (V.kill n0 t89) :: (V.kill n0 t90) :: (V.kill n0 t91) :: (V.kill n0 t92) :: []), cutH n0 h22⟩) :=
  itX_step (go_seq (go_seq (go_reg0
  (go_op0 rfl rfl (st_id (v := t10) (H := h) (by kernel_rfl)
  (go_op0 rfl rfl (st_id (v := t0) (H := h) (by kernel_rfl)
  (go_op0 rfl rfl (st_bp (by kernel_rfl) fun v19 h20 =>
  (go_op0 rfl rfl (st_bm (by kernel_rfl) fun v21 h22 =>
  (go_end0 (by kernel_rfl)
  (go_cond (by kernel_rfl)
  (go_skip (go_seq (go_block (go_seq (go_reg0
  (go_op0 rfl rfl (st_bp (by kernel_rfl) fun v23 h24 =>
  (go_end0 (by kernel_rfl)
  (go_seq (go_seq (go_reg0
  (go_op0 rfl rfl (st_id (v := (V.lit (Value.int .i64 0))) (H := h24) (by kernel_rfl)
  (go_end0 (by kernel_rfl)
  (go_block (by kernel_rfl))))))))))))))))
  (go_exit (rt_seq_exit (by kernel_rfl))))))))))))))))
theorem xj18_2 (s : Sys) (k wl : Nat) (t0 t1 t2 t3 t4 t5 t6 t7 t8 t9 t10 t11 t12 t13 t14 t15 t16 t17 t18 t19 t20 t21 t22 t23 t24 t25 t26 t27 t28 t29 t30 t31 t32 t33 t34 t35 t36 t37 t38 t39 t40 t41 t42 t43 t44 t45 t46 t47 t48 t49 t50 t51 t52 t53 t54 t55 t56 t57 t58 t59 t60 t61 t62 t63 t64 t65 t66 t67 t68 t69 t70 t71 t72 t73 t74 t75 t76 t77 t78 t79 t80 t81 t82 t83 t84 t85 t86 t87 t88 t89 t90 t91 t92 : V) (h : Hp) : runK (xX s 18 wl k false) (bodyK s.P Try.f18) xk18_1 (.exit 0) ⟨(t0 :: t1 :: t2 :: t3 :: t4 :: t5 :: t6 :: t7 :: t8 :: t9 :: t10 :: t11 :: t12 :: t13 :: t14 :: t15 :: t16 :: t17 :: t18 :: t19 :: t20 :: t21 :: t22 :: t23 :: t24 :: t25 :: t26 :: t27 :: t28 :: t29 :: t30 :: t31 :: t32 :: t33 :: t34 :: t35 :: t36 :: t37 :: t38 :: t39 :: t40 :: t41 :: t42 :: t43 :: t44 :: t45 :: t46 :: t47 :: t48 :: t49 :: t50 :: t51 :: t52 :: t53 :: t54 :: t55 :: t56 :: t57 :: t58 :: t59 :: t60 :: t61 :: t62 :: t63 :: t64 :: t65 :: t66 :: t67 :: t68 :: t69 :: t70 :: t71 :: t72 :: t73 :: t74 :: t75 :: t76 :: t77 :: t78 :: t79 :: t80 :: t81 :: t82 :: t83 :: t84 :: t85 :: t86 :: t87 :: t88 :: t89 :: t90 :: t91 :: t92 :: []), h⟩ =
  bp (callV (xX s 18 wl k false) false true (.fn (.func 46) [] []) [t9, t1] h) fun v25 h26 =>
  bm (vExtract v25 0) h26 fun v27 h28 =>
  bm (vExtract v25 1) h28 fun v29 h30 =>
  bm (vExtract v25 2) h30 fun v31 h32 =>
  itX (xX s 18 wl k false) xl18_2 h32.length (runK (xX s 18 wl k false) (bodyK s.P Try.f18) xk18_3) k ⟨((V.kill h32.length t0) :: (V.kill h32.length t1) :: (V.kill h32.length t2) :: (V.kill h32.length t3) :: (V.kill h32.length t4) :: (V.kill h32.length t5) :: (V.kill h32.length t6) :: (V.kill h32.length t7) :: (V.kill h32.length t8) :: (V.kill h32.length t9) :: (V.kill h32.length t10) :: (V.kill h32.length t11) :: (V.kill h32.length t12) :: (V.kill h32.length v27) :: (V.kill h32.length v29) :: (V.kill h32.length v31) :: (V.lit (Value.int .i64 0)) :: (V.kill h32.length t17) :: (V.kill h32.length t18) :: (V.kill h32.length t19) :: (V.kill h32.length t20) :: (V.kill h32.length t21) :: (V.kill h32.length t22) :: (V.kill h32.length t23) :: (V.kill h32.length t24) :: (V.kill h32.length t25) :: (V.kill h32.length t26) :: (V.kill h32.length t27) :: (V.kill h32.length t28) :: (V.kill h32.length t29) :: (V.kill h32.length t30) :: (V.kill h32.length t31) :: (V.kill h32.length t32) :: (V.kill h32.length t33) :: (V.kill h32.length t34) :: (V.kill h32.length t35) :: (V.kill h32.length t36) :: (V.kill h32.length t37) :: (V.kill h32.length t38) :: (V.kill h32.length t39) :: (V.kill h32.length t40) :: (V.kill h32.length t41) :: (V.kill h32.length t42) :: (V.kill h32.length t43) :: (V.kill h32.length t44) :: (V.kill h32.length t45) :: (V.kill h32.length t46) :: (V.kill h32.length t47) :: (V.kill h32.length t48) :: (V.kill h32.length t49) :: (V.kill h32.length t50) :: (V.kill h32.length t51) :: (V.kill h32.length t52) :: (V.kill h32.length t53) :: (V.kill h32.length t54) :: (V.kill h32.length t55) :: (V.kill h32.length t56) :: (V.kill h32.length t57) :: (V.kill h32.length t58) :: (V.kill h32.length t59) :: (V.kill h32.length t60) :: (V.kill h32.length t61) :: (V.kill h32.length t62) :: (V.kill h32.length t63) :: (V.kill h32.length t64) :: (V.kill h32.length t65) :: (V.kill h32.length t66) :: (V.kill h32.length t67) :: (V.kill h32.length t68) :: (V.kill h32.length t69) :: (V.kill h32.length t70) :: (V.kill h32.length v25) :: (V.kill h32.length t9) :: (V.kill h32.length t1) :: (V.kill h32.length v25) :: (V.kill h32.length v27) :: (V.kill h32.length v29) :: (V.kill h32.length v31) :: .junk :: .junk :: .junk :: .junk :: .junk :: .junk :: .junk :: .junk :: .junk :: .junk :: .junk :: .junk :: .junk :: .junk :: .junk :: []), cutH h32.length h32⟩ :=
  (rt_block_eq (go_seq (go_reg0
  (go_op0 rfl rfl (st_id (v := t9) (H := h) (by kernel_rfl)
  (go_op0 rfl rfl (st_id (v := t1) (H := h) (by kernel_rfl)
  (go_op0 rfl rfl (st_bp (by kernel_rfl) fun v25 h26 =>
  (go_op0 rfl rfl (st_id (v := v25) (H := h26) (by kernel_rfl)
  (go_op0 rfl rfl (st_bm (by kernel_rfl) fun v27 h28 =>
  (go_op0 rfl rfl (st_bm (by kernel_rfl) fun v29 h30 =>
  (go_op0 rfl rfl (st_bm (by kernel_rfl) fun v31 h32 =>
  (go_op0 rfl rfl (st_id (v := v27) (H := h32) (by kernel_rfl)
  (go_op0 rfl rfl (st_id (v := v29) (H := h32) (by kernel_rfl)
  (go_op0 rfl rfl (st_id (v := v31) (H := h32) (by kernel_rfl)
  (go_end0 (by kernel_rfl)
  (go_seq (go_seq (go_reg0
  (go_op0 rfl rfl (st_id (v := (V.lit (Value.int .i64 0))) (H := h32) (by kernel_rfl)
  (go_end0 (by kernel_rfl)
  (go_block (by kernel_rfl))))))))))))))))))))))))))))))))
theorem xr18_1 (s : Sys) (K : Out → St → Option (V × Hp)) (k wl : Nat) (rd : Bool) (n n0 : Nat) (t0 t1 t2 t3 t4 t5 t6 t7 t8 t9 t10 t11 t12 t13 t14 t15 t16 t17 t18 t19 t20 t21 t22 t23 t24 t25 t26 t27 t28 t29 t30 t31 t32 t33 t34 t35 t36 t37 t38 t39 t40 t41 t42 t43 t44 t45 t46 t47 t48 t49 t50 t51 t52 t53 t54 t55 t56 t57 t58 t59 t60 t61 t62 t63 t64 t65 t66 t67 t68 t69 t70 t71 t72 t73 t74 t75 t76 t77 t78 t79 t80 t81 t82 t83 t84 t85 t86 t87 t88 t89 t90 t91 t92 : V) (h : Hp) : itX (xX s 18 wl k rd) xl18_1 n0 K (n + 1) ⟨(t0 :: t1 :: t2 :: t3 :: t4 :: t5 :: t6 :: t7 :: t8 :: t9 :: t10 :: t11 :: t12 :: t13 :: t14 :: t15 :: t16 :: t17 :: t18 :: t19 :: t20 :: t21 :: t22 :: t23 :: t24 :: t25 :: t26 :: t27 :: t28 :: t29 :: t30 :: t31 :: t32 :: t33 :: t34 :: t35 :: t36 :: t37 :: t38 :: t39 :: t40 :: t41 :: t42 :: t43 :: t44 :: t45 :: t46 :: t47 :: t48 :: t49 :: t50 :: t51 :: t52 :: t53 :: t54 :: t55 :: t56 :: t57 :: t58 :: t59 :: t60 :: t61 :: t62 :: t63 :: t64 :: t65 :: t66 :: t67 :: t68 :: t69 :: t70 :: t71 :: t72 :: t73 :: t74 :: t75 :: t76 :: t77 :: t78 :: t79 :: t80 :: t81 :: t82 :: t83 :: t84 :: t85 :: t86 :: t87 :: t88 :: t89 :: t90 :: t91 :: t92 :: []), h⟩ =
  bm (vIndexAddr s.P 50 t0 t10 h) h fun v33 h34 =>
  bm (vLoad s.P 51 v33 h34) h34 fun v35 h36 =>
  bp (opLen s.P 51 v35 h36) fun v37 h38 =>
  bm (vBin s.P .lss 3 t12 v37) h38 fun v39 h40 =>
  cnd v39 (
  bm (vIndexAddr s.P 50 t0 t10 h40) h40 fun v41 h42 =>
  bm (vLoad s.P 51 v41 h42) h42 fun v43 h44 =>
  bm (vIndexAddr s.P 51 v43 t12 h44) h44 fun v45 h46 =>
  bm (vLoad s.P 3 v45 h46) h46 fun v47 h48 =>
  bm (vBin s.P .eql 3 v47 (V.lit (Value.int .i64 5))) h48 fun v49 h50 =>
  bm (vBin s.P .eql 4 v49 t2) h50 fun v51 h52 =>
  cnd v51 (
  bm (vIndexAddr s.P 50 t0 t10 h52) h52 fun v53 h54 =>
  bm (vLoad s.P 51 v53 h54) h54 fun v55 h56 =>
  bm (vIndexAddr s.P 51 v55 t12 h56) h56 fun v57 h58 =>
  bm (vLoad s.P 3 v57 h58) h58 fun v59 h60 =>
  bp (vBuildSlice s.P wl 51 1 [(0, v59)] h60) fun v61 h62 =>
  bp (opApp s.P wl 51 51 t11 v61 h62) fun v63 h64 =>
  runK (xX s 18 wl k rd) (nextK (xX s 18 wl k rd) xl18_1 n0 K n) xk18_4 .norm ⟨(t0 :: t1 :: t2 :: t3 :: t4 :: t5 :: t6 :: t7 :: t8 :: t9 :: t10 :: v63 :: t12 :: t13 :: t14 :: t15 :: t16 :: t17 :: t18 :: t19 :: t20 :: t21 :: t22 :: t23 :: t24 :: t25 :: t26 :: t27 :: t28 :: t29 :: t30 :: t31 :: t32 :: t33 :: t34 :: t35 :: t36 :: t37 :: t12 :: t0 :: t10 :: v33 :: v35 :: v37 :: v39 :: t45 :: t46 :: t0 :: t10 :: v41 :: v43 :: t12 :: v45 :: v47 :: v49 :: t2 :: v51 :: t11 :: t0 :: t10 :: v53 :: v55 :: t12 :: v57 :: v59 :: v61 :: v63 :: t67 :: t68 :: t69 :: t70 :: t71 :: t72 :: t73 :: t74 :: t75 :: t76 :: t77 :: t78 :: t79 :: t80 :: t81 :: t82 :: t83 :: t84 :: t85 :: t86 :: t87 :: t88 :: t89 :: t90 :: t91 :: t92 :: []), h64⟩) (
  runK (xX s 18 wl k rd) (nextK (xX s 18 wl k rd) xl18_1 n0 K n) xk18_4 .norm ⟨(t0 :: t1 :: t2 :: t3 :: t4 :: t5 :: t6 :: t7 :: t8 :: t9 :: t10 :: t11 :: t12 :: t13 :: t14 :: t15 :: t16 :: t17 :: t18 :: t19 :: t20 :: t21 :: t22 :: t23 :: t24 :: t25 :: t26 :: t27 :: t28 :: t29 :: t30 :: t31 :: t32 :: t33 :: t34 :: t35 :: t36 :: t37 :: t12 :: t0 :: t10 :: v33 :: v35 :: v37 :: v39 :: t45 :: t46 :: t0 :: t10 :: v41 :: v43 :: t12 :: v45 :: v47 :: v49 :: t2 :: v51 :: t57 :: t58 :: t59 :: t60 :: t61 :: t62 :: t63 :: t64 :: t65 :: t66 :: t67 :: t68 :: t69 :: t70 :: t71 :: t72 :: t73 :: t74 :: t75 :: t76 :: t77 :: t78 :: t79 :: t80 :: t81 :: t82 :: t83 :: t84 :: t85 :: t86 :: t87 :: t88 :: t89 :: t90 :: t91 :: t92 :: []), h52⟩)) (
  K (.exit 2) ⟨((V.kill n0 t0) :: (V.kill n0 t1) :: (V.kill n0 t2) :: (V.kill n0 t3) :: (V.kill n0 t4) :: (V.kill n0 t5) :: (V.kill n0 t6) :: (V.kill n0 t7) :: (V.kill n0 t8) :: (V.kill n0 t9) :: (V.kill n0 t10) :: (V.kill n0 t11) :: (V.kill n0 t12) :: (V.kill n0 t13) :: (V.kill n0 t14) :: (V.kill n0 t15) :: (V.kill n0 t16) :: (V.kill n0 t17) :: (V.kill n0 t18) :: (V.kill n0 t19) :: (V.kill n0 t20) :: (V.kill n0 t21) :: (V.kill n0 t22) :: (V.kill n0 t23) :: (V.kill n0 t24) :: (V.kill n0 t25) :: (V.kill n0 t26) :: (V.kill n0 t27) :: (V.kill n0 t28) :: (V.kill n0 t29) :: (V.kill n0 t30) :: (V.kill n0 t31) :: (V.kill n0 t32) :: (V.kill n0 t33) :: (V.kill n0 t34) :: (V.kill n0 t35) :: (V.kill n0 t36) :: (V.kill n0 t37) :: .junk :: .junk :: .junk :: .junk :: .junk :: .junk :: .junk :: .junk :: .junk :: .junk :: .junk :: .junk :: .junk :: .junk :: .junk :: .junk :: .junk :: .junk :: .junk :: .junk :: .junk :: .junk :: .junk :: .junk :: .junk :: .junk :: .junk :: .junk :: .junk :: (V.kill n0 t67) :: (V.kill n0 t68) :: (V.kill n0 t69) :: (V.kill n0 t70) :: (V.kill n0 t71) :: (V.kill n0 t72) :: (V.kill n0 t73) :: (V.kill n0 t74) :: (V.kill n0 t75) :: (V.kill n0 t76) :: (V.kill n0 t77) :: (V.kill n0 t78) :: (V.kill n0 t79) :: (V.kill n0 t80) :: (V.kill n0 t81) :: (V.kill n0 t82) :: (V.kill n0 t83) :: (V.kill n0 t84) :: (V.kill n0 t85) :: (V.kill n0 t86) :: (V.kill n0 t87) :: (V.kill n0 t88) :: (V.kill n0 t89) :: (V.kill n0 t90) :: (V.kill n0 t91) :: (V.kill n0 t92) :: []), cutH n0 h40⟩) :=
  itX_step (go_seq (go_seq (go_reg0
  (go_op0 rfl rfl (st_id (v := t12) (H := h) (by kernel_rfl)
  (go_op0 rfl rfl (st_id (v := t0) (H := h) (by kernel_rfl)
  (go_op0 rfl rfl (st_id (v := t10) (H := h) (by kernel_rfl)
  (go_op0 rfl rfl (st_bm (by kernel_rfl) fun v33 h34 =>
  (go_op0 rfl rfl (st_bm (by kernel_rfl) fun v35 h36 =>
  (go_op0 rfl rfl (st_bp (by kernel_rfl) fun v37 h38 =>
  (go_op0 rfl rfl (st_bm (by kernel_rfl) fun v39 h40 =>
  (go_end0 (by kernel_rfl)
  (go_cond (by kernel_rfl)
  (go_skip (go_seq (go_block (go_seq (go_reg0
  (go_op0 rfl rfl (st_id (v := t0) (H := h40) (by kernel_rfl)
  (go_op0 rfl rfl (st_id (v := t10) (H := h40) (by kernel_rfl)
  (go_op0 rfl rfl (st_bm (by kernel_rfl) fun v41 h42 =>
  (go_op0 rfl rfl (st_bm (by kernel_rfl) fun v43 h44 =>
  (go_op0 rfl rfl (st_id (v := t12) (H := h44) (by kernel_rfl)
  (go_op0 rfl rfl (st_bm (by kernel_rfl) fun v45 h46 =>
  (go_op0 rfl rfl (st_bm (by kernel_rfl) fun v47 h48 =>
  (go_op0 rfl rfl (st_bm (by kernel_rfl) fun v49 h50 =>
  (go_op0 rfl rfl (st_id (v := t2) (H := h50) (by kernel_rfl)
  (go_op0 rfl rfl (st_bm (by kernel_rfl) fun v51 h52 =>
  (go_end0 (by kernel_rfl)
  (go_cond (by kernel_rfl)
  (go_reg0
  (go_op0 rfl rfl (st_id (v := t11) (H := h52) (by kernel_rfl)
  (go_op0 rfl rfl (st_id (v := t0) (H := h52) (by kernel_rfl)
  (go_op0 rfl rfl (st_id (v := t10) (H := h52) (by kernel_rfl)
  (go_op0 rfl rfl (st_bm (by kernel_rfl) fun v53 h54 =>
  (go_op0 rfl rfl (st_bm (by kernel_rfl) fun v55 h56 =>
  (go_op0 rfl rfl (st_id (v := t12) (H := h56) (by kernel_rfl)
  (go_op0 rfl rfl (st_bm (by kernel_rfl) fun v57 h58 =>
  (go_op0 rfl rfl (st_bm (by kernel_rfl) fun v59 h60 =>
  (go_op0 rfl rfl (st_bp (by kernel_rfl) fun v61 h62 =>
  (go_op0 rfl rfl (st_bp (by kernel_rfl) fun v63 h64 =>
  (go_op0 rfl rfl (st_id (v := v63) (H := h64) (by kernel_rfl)
  (go_end0 (by kernel_rfl)
  (by kernel_rfl)))))))))))))))))))))))))
  (go_skip (by kernel_rfl)))))))))))))))))))))))))))))
  (go_exit (rt_seq_exit (by kernel_rfl))))))))))))))))))))))
theorem xj18_3 (s : Sys) (K : Out → St → Option (V × Hp)) (k wl : Nat) (rd : Bool) (n n0 : Nat) (t0 t1 t2 t3 t4 t5 t6 t7 t8 t9 t10 t11 t12 t13 t14 t15 t16 t17 t18 t19 t20 t21 t22 t23 t24 t25 t26 t27 t28 t29 t30 t31 t32 t33 t34 t35 t36 t37 t38 t39 t40 t41 t42 t43 t44 t45 t46 t47 t48 t49 t50 t51 t52 t53 t54 t55 t56 t57 t58 t59 t60 t61 t62 t63 t64 t65 t66 t67 t68 t69 t70 t71 t72 t73 t74 t75 t76 t77 t78 t79 t80 t81 t82 t83 t84 t85 t86 t87 t88 t89 t90 t91 t92 : V) (h : Hp) : runK (xX s 18 wl k rd) (nextK (xX s 18 wl k rd) xl18_0 n0 K n) xk18_2 (.exit 2) ⟨(t0 :: t1 :: t2 :: t3 :: t4 :: t5 :: t6 :: t7 :: t8 :: t9 :: t10 :: t11 :: t12 :: t13 :: t14 :: t15 :: t16 :: t17 :: t18 :: t19 :: t20 :: t21 :: t22 :: t23 :: t24 :: t25 :: t26 :: t27 :: t28 :: t29 :: t30 :: t31 :: t32 :: t33 :: t34 :: t35 :: t36 :: t37 :: t38 :: t39 :: t40 :: t41 :: t42 :: t43 :: t44 :: t45 :: t46 :: t47 :: t48 :: t49 :: t50 :: t51 :: t52 :: t53 :: t54 :: t55 :: t56 :: t57 :: t58 :: t59 :: t60 :: t61 :: t62 :: t63 :: t64 :: t65 :: t66 :: t67 :: t68 :: t69 :: t70 :: t71 :: t72 :: t73 :: t74 :: t75 :: t76 :: t77 :: t78 :: t79 :: t80 :: t81 :: t82 :: t83 :: t84 :: t85 :: t86 :: t87 :: t88 :: t89 :: t90 :: t91 :: t92 :: []), h⟩ =
  bp (vBuildSlice s.P wl 50 1 [(0, t11)] h) fun v65 h66 =>
  bp (opApp s.P wl 50 50 t9 v65 h66) fun v67 h68 =>
  bm (vBin s.P .add 3 t10 (V.lit (Value.int .i64 1))) h68 fun v69 h70 =>
  itX (xX s 18 wl k rd) xl18_0 n0 K n ⟨((V.kill n0 t0) :: (V.kill n0 t1) :: (V.kill n0 t2) :: (V.kill n0 t3) :: (V.kill n0 t4) :: (V.kill n0 t5) :: (V.kill n0 t6) :: (V.kill n0 t7) :: (V.kill n0 t8) :: (V.kill n0 v67) :: (V.kill n0 v69) :: (V.kill n0 t11) :: (V.kill n0 t12) :: (V.kill n0 t13) :: (V.kill n0 t14) :: (V.kill n0 t15) :: (V.kill n0 t16) :: (V.kill n0 t17) :: (V.kill n0 t18) :: (V.kill n0 t19) :: (V.kill n0 t20) :: (V.kill n0 t21) :: (V.kill n0 t22) :: (V.kill n0 t23) :: (V.kill n0 t24) :: (V.kill n0 t25) :: (V.kill n0 t26) :: (V.kill n0 t27) :: (V.kill n0 t28) :: (V.kill n0 t29) :: (V.kill n0 t30) :: (V.kill n0 t31) :: .junk :: .junk :: .junk :: .junk :: .junk :: .junk :: .junk :: .junk :: .junk :: .junk :: .junk :: .junk :: .junk :: .junk :: .junk :: .junk :: .junk :: .junk :: .junk :: .junk :: .junk :: .junk :: .junk :: .junk :: .junk :: .junk :: .junk :: .junk :: .junk :: .junk :: .junk :: .junk :: .junk :: .junk :: .junk :: .junk :: .junk :: .junk :: .junk :: (V.kill n0 t71) :: (V.kill n0 t72) :: (V.kill n0 t73) :: (V.kill n0 t74) :: (V.kill n0 t75) :: (V.kill n0 t76) :: (V.kill n0 t77) :: (V.kill n0 t78) :: (V.kill n0 t79) :: (V.kill n0 t80) :: (V.kill n0 t81) :: (V.kill n0 t82) :: (V.kill n0 t83) :: (V.kill n0 t84) :: (V.kill n0 t85) :: (V.kill n0 t86) :: (V.kill n0 t87) :: (V.kill n0 t88) :: (V.kill n0 t89) :: (V.kill n0 t90) :: (V.kill n0 t91) :: (V.kill n0 t92) :: []), cutH n0 h70⟩ :=
  (rt_block_eq (go_reg0
  (go_op0 rfl rfl (st_id (v := t9) (H := h) (by kernel_rfl)
  (go_op0 rfl rfl (st_id (v := t11) (H := h) (by kernel_rfl)
  (go_op0 rfl rfl (st_bp (by kernel_rfl) fun v65 h66 =>
  (go_op0 rfl rfl (st_bp (by kernel_rfl) fun v67 h68 =>
  (go_op0 rfl rfl (st_id (v := v67) (H := h68) (by kernel_rfl)
  (go_end0 (by kernel_rfl)
  (rt_block_norm (go_reg0
  (go_op0 rfl rfl (st_id (v := t10) (H := h68) (by kernel_rfl)
  (go_op0 rfl rfl (st_bm (by kernel_rfl) fun v69 h70 =>
  (go_op0 rfl rfl (st_id (v := v69) (H := h70) (by kernel_rfl)
  (go_end0 (by kernel_rfl)
  (by kernel_rfl)))))))))))))))))))))))
theorem xr18_2 (s : Sys) (K : Out → St → Option (V × Hp)) (k wl : Nat) (rd : Bool) (n n0 : Nat) (t0 t1 t2 t3 t4 t5 t6 t7 t8 t9 t10 t11 t12 t13 t14 t15 t16 t17 t18 t19 t20 t21 t22 t23 t24 t25 t26 t27 t28 t29 t30 t31 t32 t33 t34 t35 t36 t37 t38 t39 t40 t41 t42 t43 t44 t45 t46 t47 t48 t49 t50 t51 t52 t53 t54 t55 t56 t57 t58 t59 t60 t61 t62 t63 t64 t65 t66 t67 t68 t69 t70 t71 t72 t73 t74 t75 t76 t77 t78 t79 t80 t81 t82 t83 t84 t85 t86 t87 t88 t89 t90 t91 t92 : V) (h : Hp) : itX (xX s 18 wl k rd) xl18_2 n0 K (n + 1) ⟨(t0 :: t1 :: t2 :: t3 :: t4 :: t5 :: t6 :: t7 :: t8 :: t9 :: t10 :: t11 :: t12 :: t13 :: t14 :: t15 :: t16 :: t17 :: t18 :: t19 :: t20 :: t21 :: t22 :: t23 :: t24 :: t25 :: t26 :: t27 :: t28 :: t29 :: t30 :: t31 :: t32 :: t33 :: t34 :: t35 :: t36 :: t37 :: t38 :: t39 :: t40 :: t41 :: t42 :: t43 :: t44 :: t45 :: t46 :: t47 :: t48 :: t49 :: t50 :: t51 :: t52 :: t53 :: t54 :: t55 :: t56 :: t57 :: t58 :: t59 :: t60 :: t61 :: t62 :: t63 :: t64 :: t65 :: t66 :: t67 :: t68 :: t69 :: t70 :: t71 :: t72 :: t73 :: t74 :: t75 :: t76 :: t77 :: t78 :: t79 :: t80 :: t81 :: t82 :: t83 :: t84 :: t85 :: t86 :: t87 :: t88 :: t89 :: t90 :: t91 :: t92 :: []), h⟩ =
  bp (opLen s.P 53 t14 h) fun v71 h72 =>
  bm (vBin s.P .lss 3 t16 v71) h72 fun v73 h74 =>
  cnd v73 (
  gd t2 (
  opsP (xX s 18 wl k rd) xg18_1 8 h74.length ([], []) (runK (xX s 18 wl k rd) (nextK (xX s 18 wl k rd) xl18_2 n0 K n) xk18_5) ⟨(t0 :: t1 :: t2 :: t3 :: t4 :: t5 :: t6 :: t7 :: t8 :: t9 :: t10 :: t11 :: t12 :: t13 :: t14 :: t15 :: t16 :: t17 :: t18 :: t19 :: t20 :: t21 :: t22 :: t23 :: t24 :: t25 :: t26 :: t27 :: t28 :: t29 :: t30 :: t31 :: t32 :: t33 :: t34 :: t35 :: t36 :: t37 :: t38 :: t39 :: t40 :: t41 :: t42 :: t43 :: t44 :: t45 :: t46 :: t47 :: t48 :: t49 :: t50 :: t51 :: t52 :: t53 :: t54 :: t55 :: t56 :: t57 :: t58 :: t59 :: t60 :: t61 :: t62 :: t63 :: t64 :: t65 :: t66 :: t67 :: t68 :: t69 :: t70 :: t71 :: t72 :: t73 :: t74 :: t75 :: t76 :: t77 :: t16 :: t14 :: v71 :: v73 :: t82 :: t83 :: t2 :: (V.lit (Value.bool true)) :: uu :: uu :: uu :: uu :: uu :: uu :: t92 :: []), h74⟩) (
  bm (vIndexAddr s.P 53 t14 t16 h74) h74 fun v75 h76 =>
  bm (vFieldAddr s.P 28 v75 6) h76 fun v77 h78 =>
  bm (vLoad s.P 3 v77 h78) h78 fun v79 h80 =>
  bm (vBin s.P .neq 3 v79 (V.lit (Value.int .i64 3))) h80 fun v81 h82 =>
  opsP (xX s 18 wl k rd) xg18_1 8 h74.length ([], []) (runK (xX s 18 wl k rd) (nextK (xX s 18 wl k rd) xl18_2 n0 K n) xk18_5) ⟨(t0 :: t1 :: t2 :: t3 :: t4 :: t5 :: t6 :: t7 :: t8 :: t9 :: t10 :: t11 :: t12 :: t13 :: t14 :: t15 :: t16 :: t17 :: t18 :: t19 :: t20 :: t21 :: t22 :: t23 :: t24 :: t25 :: t26 :: t27 :: t28 :: t29 :: t30 :: t31 :: t32 :: t33 :: t34 :: t35 :: t36 :: t37 :: t38 :: t39 :: t40 :: t41 :: t42 :: t43 :: t44 :: t45 :: t46 :: t47 :: t48 :: t49 :: t50 :: t51 :: t52 :: t53 :: t54 :: t55 :: t56 :: t57 :: t58 :: t59 :: t60 :: t61 :: t62 :: t63 :: t64 :: t65 :: t66 :: t67 :: t68 :: t69 :: t70 :: t71 :: t72 :: t73 :: t74 :: t75 :: t76 :: t77 :: t16 :: t14 :: v71 :: v73 :: t82 :: t83 :: t2 :: (V.lit (Value.bool false)) :: t14 :: t16 :: v75 :: v77 :: v79 :: v81 :: t92 :: []), h82⟩) (
  opsP (xX s 18 wl k rd) xg18_1 3 h74.length ([], []) (runK (xX s 18 wl k rd) (nextK (xX s 18 wl k rd) xl18_2 n0 K n) xk18_5) ⟨(t0 :: t1 :: t2 :: t3 :: t4 :: t5 :: t6 :: t7 :: t8 :: t9 :: t10 :: t11 :: t12 :: t13 :: t14 :: t15 :: t16 :: t17 :: t18 :: t19 :: t20 :: t21 :: t22 :: t23 :: t24 :: t25 :: t26 :: t27 :: t28 :: t29 :: t30 :: t31 :: t32 :: t33 :: t34 :: t35 :: t36 :: t37 :: t38 :: t39 :: t40 :: t41 :: t42 :: t43 :: t44 :: t45 :: t46 :: t47 :: t48 :: t49 :: t50 :: t51 :: t52 :: t53 :: t54 :: t55 :: t56 :: t57 :: t58 :: t59 :: t60 :: t61 :: t62 :: t63 :: t64 :: t65 :: t66 :: t67 :: t68 :: t69 :: t70 :: t71 :: t72 :: t73 :: t74 :: t75 :: t76 :: t77 :: t16 :: t14 :: v71 :: v73 :: t82 :: t83 :: t2 :: t2 :: uu :: t87 :: t88 :: t89 :: t90 :: t91 :: t92 :: []), h74⟩)) (
  K (.exit 4) ⟨((V.kill n0 t0) :: (V.kill n0 t1) :: (V.kill n0 t2) :: (V.kill n0 t3) :: (V.kill n0 t4) :: (V.kill n0 t5) :: (V.kill n0 t6) :: (V.kill n0 t7) :: (V.kill n0 t8) :: (V.kill n0 t9) :: (V.kill n0 t10) :: (V.kill n0 t11) :: (V.kill n0 t12) :: (V.kill n0 t13) :: (V.kill n0 t14) :: (V.kill n0 t15) :: (V.kill n0 t16) :: (V.kill n0 t17) :: (V.kill n0 t18) :: (V.kill n0 t19) :: (V.kill n0 t20) :: (V.kill n0 t21) :: (V.kill n0 t22) :: (V.kill n0 t23) :: (V.kill n0 t24) :: (V.kill n0 t25) :: (V.kill n0 t26) :: (V.kill n0 t27) :: (V.kill n0 t28) :: (V.kill n0 t29) :: (V.kill n0 t30) :: (V.kill n0 t31) :: (V.kill n0 t32) :: (V.kill n0 t33) :: (V.kill n0 t34) :: (V.kill n0 t35) :: (V.kill n0 t36) :: (V.kill n0 t37) :: (V.kill n0 t38) :: (V.kill n0 t39) :: (V.kill n0 t40) :: (V.kill n0 t41) :: (V.kill n0 t42) :: (V.kill n0 t43) :: (V.kill n0 t44) :: (V.kill n0 t45) :: (V.kill n0 t46) :: (V.kill n0 t47) :: (V.kill n0 t48) :: (V.kill n0 t49) :: (V.kill n0 t50) :: (V.kill n0 t51) :: (V.kill n0 t52) :: (V.kill n0 t53) :: (V.kill n0 t54) :: (V.kill n0 t55) :: (V.kill n0 t56) :: (V.kill n0 t57) :: (V.kill n0 t58) :: (V.kill n0 t59) :: (V.kill n0 t60) :: (V.kill n0 t61) :: (V.kill n0 t62) :: (V.kill n0 t63) :: (V.kill n0 t64) :: (V.kill n0 t65) :: (V.kill n0 t66) :: (V.kill n0 t67) :: (V.kill n0 t68) :: (V.kill n0 t69) :: (V.kill n0 t70) :: (V.kill n0 t71) :: (V.kill n0 t72) :: (V.kill n0 t73) :: (V.kill n0 t74) :: (V.kill n0 t75) :: (V.kill n0 t76) :: (V.kill n0 t77) :: .junk :: .junk :: .junk :: .junk :: .junk :: .junk :: .junk :: .junk :: .junk :: .junk :: .junk :: .junk :: .junk :: .junk :: .junk :: []), cutH n0 h74⟩) :=
  itX_step (go_seq (go_seq (go_reg0
  (go_op0 rfl rfl (st_id (v := t16) (H := h) (by kernel_rfl)
  (go_op0 rfl rfl (st_id (v := t14) (H := h) (by kernel_rfl)
  (go_op0 rfl rfl (st_bp (by kernel_rfl) fun v71 h72 =>
  (go_op0 rfl rfl (st_bm (by kernel_rfl) fun v73 h74 =>
  (go_end0 (by kernel_rfl)
  (go_cond (by kernel_rfl)
  (go_skip (go_seq (go_block (go_seq (go_reg0
  (go_op0 rfl rfl (st_id (v := t2) (H := h74) (by kernel_rfl)
  (go_op0 rfl rfl (st_id (v := t2) (H := h74) (by kernel_rfl)
  (go_gdF0 rfl rfl rfl (by kernel_rfl)
  (go_skip0 rfl rfl rfl (by kernel_rfl)
  (go_skip0 rfl rfl rfl (by kernel_rfl)
  (go_skip0 rfl rfl rfl (by kernel_rfl)
  (go_skip0 rfl rfl rfl (by kernel_rfl)
  (go_skip0 rfl rfl rfl (by kernel_rfl)
  (by kernel_rfl))))))
  (st_id (v := t14) (H := h74) (by kernel_rfl)
  (go_run0 rfl rfl rfl (by kernel_rfl) (st_id (v := t16) (H := h74) (by kernel_rfl)
  (go_run0 rfl rfl rfl (by kernel_rfl) (st_bm (by kernel_rfl) fun v75 h76 =>
  (go_run0 rfl rfl rfl (by kernel_rfl) (st_bm (by kernel_rfl) fun v77 h78 =>
  (go_run0 rfl rfl rfl (by kernel_rfl) (st_bm (by kernel_rfl) fun v79 h80 =>
  (go_run0 rfl rfl rfl (by kernel_rfl) (st_bm (by kernel_rfl) fun v81 h82 =>
  (by kernel_rfl))))))))))))
  (by kernel_rfl)))))))))))
  (go_exit (rt_seq_exit (by kernel_rfl))))))))))))))))
theorem xj18_4 (s : Sys) (k wl : Nat) (t0 t1 t2 t3 t4 t5 t6 t7 t8 t9 t10 t11 t12 t13 t14 t15 t16 t17 t18 t19 t20 t21 t22 t23 t24 t25 t26 t27 t28 t29 t30 t31 t32 t33 t34 t35 t36 t37 t38 t39 t40 t41 t42 t43 t44 t45 t46 t47 t48 t49 t50 t51 t52 t53 t54 t55 t56 t57 t58 t59 t60 t61 t62 t63 t64 t65 t66 t67 t68 t69 t70 t71 t72 t73 t74 t75 t76 t77 t78 t79 t80 t81 t82 t83 t84 t85 t86 t87 t88 t89 t90 t91 t92 : V) (h : Hp) : runK (xX s 18 wl k false) (bodyK s.P Try.f18) xk18_3 (.exit 4) ⟨(t0 :: t1 :: t2 :: t3 :: t4 :: t5 :: t6 :: t7 :: t8 :: t9 :: t10 :: t11 :: t12 :: t13 :: t14 :: t15 :: t16 :: t17 :: t18 :: t19 :: t20 :: t21 :: t22 :: t23 :: t24 :: t25 :: t26 :: t27 :: t28 :: t29 :: t30 :: t31 :: t32 :: t33 :: t34 :: t35 :: t36 :: t37 :: t38 :: t39 :: t40 :: t41 :: t42 :: t43 :: t44 :: t45 :: t46 :: t47 :: t48 :: t49 :: t50 :: t51 :: t52 :: t53 :: t54 :: t55 :: t56 :: t57 :: t58 :: t59 :: t60 :: t61 :: t62 :: t63 :: t64 :: t65 :: t66 :: t67 :: t68 :: t69 :: t70 :: t71 :: t72 :: t73 :: t74 :: t75 :: t76 :: t77 :: t78 :: t79 :: t80 :: t81 :: t82 :: t83 :: t84 :: t85 :: t86 :: t87 :: t88 :: t89 :: t90 :: t91 :: t92 :: []), h⟩ =
  some ((V.lit (Value.bool true)), h) :=
  (rt_block_eq (go_seq (go_reg0
  (go_op0 rfl rfl (st_id (v := (V.lit (Value.bool true))) (H := h) (by kernel_rfl)
  (go_end0 (by kernel_rfl)
  (go_ret (by kernel_rfl))))))))
theorem xj18_5 (s : Sys) (K : Out → St → Option (V × Hp)) (k wl : Nat) (rd : Bool) (n n0 : Nat) (t0 t1 t2 t3 t4 t5 t6 t7 t8 t9 t10 t11 t12 t13 t14 t15 t16 t17 t18 t19 t20 t21 t22 t23 t24 t25 t26 t27 t28 t29 t30 t31 t32 t33 t34 t35 t36 t37 t38 t39 t40 t41 t42 t43 t44 t45 t46 t47 t48 t49 t50 t51 t52 t53 t54 t55 t56 t57 t58 t59 t60 t61 t62 t63 t64 t65 t66 t67 t68 t69 t70 t71 t72 t73 t74 t75 t76 t77 t78 t79 t80 t81 t82 t83 t84 t85 t86 t87 t88 t89 t90 t91 t92 : V) (h : Hp) : runK (xX s 18 wl k rd) (nextK (xX s 18 wl k rd) xl18_1 n0 K n) xk18_4 .norm ⟨(t0 :: t1 :: t2 :: t3 :: t4 :: t5 :: t6 :: t7 :: t8 :: t9 :: t10 :: t11 :: t12 :: t13 :: t14 :: t15 :: t16 :: t17 :: t18 :: t19 :: t20 :: t21 :: t22 :: t23 :: t24 :: t25 :: t26 :: t27 :: t28 :: t29 :: t30 :: t31 :: t32 :: t33 :: t34 :: t35 :: t36 :: t37 :: t38 :: t39 :: t40 :: t41 :: t42 :: t43 :: t44 :: t45 :: t46 :: t47 :: t48 :: t49 :: t50 :: t51 :: t52 :: t53 :: t54 :: t55 :: t56 :: t57 :: t58 :: t59 :: t60 :: t61 :: t62 :: t63 :: t64 :: t65 :: t66 :: t67 :: t68 :: t69 :: t70 :: t71 :: t72 :: t73 :: t74 :: t75 :: t76 :: t77 :: t78 :: t79 :: t80 :: t81 :: t82 :: t83 :: t84 :: t85 :: t86 :: t87 :: t88 :: t89 :: t90 :: t91 :: t92 :: []), h⟩ =
  bm (vBin s.P .add 3 t12 (V.lit (Value.int .i64 1))) h fun v83 h84 =>
  itX (xX s 18 wl k rd) xl18_1 n0 K n ⟨((V.kill n0 t0) :: (V.kill n0 t1) :: (V.kill n0 t2) :: (V.kill n0 t3) :: (V.kill n0 t4) :: (V.kill n0 t5) :: (V.kill n0 t6) :: (V.kill n0 t7) :: (V.kill n0 t8) :: (V.kill n0 t9) :: (V.kill n0 t10) :: (V.kill n0 t11) :: (V.kill n0 v83) :: (V.kill n0 t13) :: (V.kill n0 t14) :: (V.kill n0 t15) :: (V.kill n0 t16) :: (V.kill n0 t17) :: (V.kill n0 t18) :: (V.kill n0 t19) :: (V.kill n0 t20) :: (V.kill n0 t21) :: (V.kill n0 t22) :: (V.kill n0 t23) :: (V.kill n0 t24) :: (V.kill n0 t25) :: (V.kill n0 t26) :: (V.kill n0 t27) :: (V.kill n0 t28) :: (V.kill n0 t29) :: (V.kill n0 t30) :: (V.kill n0 t31) :: (V.kill n0 t32) :: (V.kill n0 t33) :: (V.kill n0 t34) :: (V.kill n0 t35) :: (V.kill n0 t36) :: (V.kill n0 t37) :: .junk :: .junk :: .junk :: .junk :: .junk :: .junk :: .junk :: .junk :: .junk :: .junk :: .junk :: .junk :: .junk :: .junk :: .junk :: .junk :: .junk :: .junk :: .junk :: .junk :: .junk :: .junk :: .junk :: .junk :: .junk :: .junk :: .junk :: .junk :: .junk :: (V.kill n0 t67) :: (V.kill n0 t68) :: (V.kill n0 t69) :: (V.kill n0 t70) :: (V.kill n0 t71) :: (V.kill n0 t72) :: (V.kill n0 t73) :: (V.kill n0 t74) :: (V.kill n0 t75) :: (V.kill n0 t76) :: (V.kill n0 t77) :: (V.kill n0 t78) :: (V.kill n0 t79) :: (V.kill n0 t80) :: (V.kill n0 t81) :: (V.kill n0 t82) :: (V.kill n0 t83) :: (V.kill n0 t84) :: (V.kill n0 t85) :: (V.kill n0 t86) :: (V.kill n0 t87) :: (V.kill n0 t88) :: (V.kill n0 t89) :: (V.kill n0 t90) :: (V.kill n0 t91) :: (V.kill n0 t92) :: []), cutH n0 h84⟩ :=
  (rt_block_norm (go_reg0
  (go_op0 rfl rfl (st_id (v := t12) (H := h) (by kernel_rfl)
  (go_op0 rfl rfl (st_bm (by kernel_rfl) fun v83 h84 =>
  (go_op0 rfl rfl (st_id (v := v83) (H := h84) (by kernel_rfl)
  (go_end0 (by kernel_rfl)
  (by kernel_rfl))))))))))
theorem xm18_6 (s : Sys) (K : Out → St → Option (V × Hp)) (k wl : Nat) (rd : Bool) (n n0 : Nat) (m0 : Nat) (ac : List Nat × List Nat) (t0 t1 t2 t3 t4 t5 t6 t7 t8 t9 t10 t11 t12 t13 t14 t15 t16 t17 t18 t19 t20 t21 t22 t23 t24 t25 t26 t27 t28 t29 t30 t31 t32 t33 t34 t35 t36 t37 t38 t39 t40 t41 t42 t43 t44 t45 t46 t47 t48 t49 t50 t51 t52 t53 t54 t55 t56 t57 t58 t59 t60 t61 t62 t63 t64 t65 t66 t67 t68 t69 t70 t71 t72 t73 t74 t75 t76 t77 t78 t79 t80 t81 t82 t83 t84 t85 t86 t87 t88 t89 t90 t91 t92 : V) (h : Hp) : opsP (xX s 18 wl k rd) xg18_1 8 m0 ac (runK (xX s 18 wl k rd) (nextK (xX s 18 wl k rd) xl18_2 n0 K n) xk18_5) ⟨(t0 :: t1 :: t2 :: t3 :: t4 :: t5 :: t6 :: t7 :: t8 :: t9 :: t10 :: t11 :: t12 :: t13 :: t14 :: t15 :: t16 :: t17 :: t18 :: t19 :: t20 :: t21 :: t22 :: t23 :: t24 :: t25 :: t26 :: t27 :: t28 :: t29 :: t30 :: t31 :: t32 :: t33 :: t34 :: t35 :: t36 :: t37 :: t38 :: t39 :: t40 :: t41 :: t42 :: t43 :: t44 :: t45 :: t46 :: t47 :: t48 :: t49 :: t50 :: t51 :: t52 :: t53 :: t54 :: t55 :: t56 :: t57 :: t58 :: t59 :: t60 :: t61 :: t62 :: t63 :: t64 :: t65 :: t66 :: t67 :: t68 :: t69 :: t70 :: t71 :: t72 :: t73 :: t74 :: t75 :: t76 :: t77 :: t78 :: t79 :: t80 :: t81 :: t82 :: t83 :: t84 :: t85 :: t86 :: t87 :: t88 :: t89 :: t90 :: t91 :: t92 :: []), h⟩ =
  bm (vPick t85 (V.lit (Value.bool true)) t91) h fun v85 h86 =>
  cnd v85 (
  K .ret ⟨(t0 :: t1 :: t2 :: t3 :: t4 :: t5 :: (V.lit (Value.bool false)) :: t7 :: t8 :: t9 :: t10 :: t11 :: t12 :: t13 :: t14 :: t15 :: t16 :: t17 :: t18 :: t19 :: t20 :: t21 :: t22 :: t23 :: t24 :: t25 :: t26 :: t27 :: t28 :: t29 :: t30 :: t31 :: t32 :: t33 :: t34 :: t35 :: t36 :: t37 :: t38 :: t39 :: t40 :: t41 :: t42 :: t43 :: t44 :: t45 :: t46 :: t47 :: t48 :: t49 :: t50 :: t51 :: t52 :: t53 :: t54 :: t55 :: t56 :: t57 :: t58 :: t59 :: t60 :: t61 :: t62 :: t63 :: t64 :: t65 :: t66 :: t67 :: t68 :: t69 :: t70 :: t71 :: t72 :: t73 :: t74 :: t75 :: t76 :: t77 :: t78 :: t79 :: t80 :: t81 :: t82 :: t83 :: t84 :: t85 :: t86 :: t87 :: t88 :: t89 :: t90 :: t91 :: v85 :: []), h86⟩) (
  bm (vBin s.P .add 3 t16 (V.lit (Value.int .i64 1))) h86 fun v87 h88 =>
  itX (xX s 18 wl k rd) xl18_2 n0 K n ⟨((V.kill n0 t0) :: (V.kill n0 t1) :: (V.kill n0 t2) :: (V.kill n0 t3) :: (V.kill n0 t4) :: (V.kill n0 t5) :: (V.kill n0 t6) :: (V.kill n0 t7) :: (V.kill n0 t8) :: (V.kill n0 t9) :: (V.kill n0 t10) :: (V.kill n0 t11) :: (V.kill n0 t12) :: (V.kill n0 t13) :: (V.kill n0 t14) :: (V.kill n0 t15) :: (V.kill n0 v87) :: (V.kill n0 t17) :: (V.kill n0 t18) :: (V.kill n0 t19) :: (V.kill n0 t20) :: (V.kill n0 t21) :: (V.kill n0 t22) :: (V.kill n0 t23) :: (V.kill n0 t24) :: (V.kill n0 t25) :: (V.kill n0 t26) :: (V.kill n0 t27) :: (V.kill n0 t28) :: (V.kill n0 t29) :: (V.kill n0 t30) :: (V.kill n0 t31) :: (V.kill n0 t32) :: (V.kill n0 t33) :: (V.kill n0 t34) :: (V.kill n0 t35) :: (V.kill n0 t36) :: (V.kill n0 t37) :: (V.kill n0 t38) :: (V.kill n0 t39) :: (V.kill n0 t40) :: (V.kill n0 t41) :: (V.kill n0 t42) :: (V.kill n0 t43) :: (V.kill n0 t44) :: (V.kill n0 t45) :: (V.kill n0 t46) :: (V.kill n0 t47) :: (V.kill n0 t48) :: (V.kill n0 t49) :: (V.kill n0 t50) :: (V.kill n0 t51) :: (V.kill n0 t52) :: (V.kill n0 t53) :: (V.kill n0 t54) :: (V.kill n0 t55) :: (V.kill n0 t56) :: (V.kill n0 t57) :: (V.kill n0 t58) :: (V.kill n0 t59) :: (V.kill n0 t60) :: (V.kill n0 t61) :: (V.kill n0 t62) :: (V.kill n0 t63) :: (V.kill n0 t64) :: (V.kill n0 t65) :: (V.kill n0 t66) :: (V.kill n0 t67) :: (V.kill n0 t68) :: (V.kill n0 t69) :: (V.kill n0 t70) :: (V.kill n0 t71) :: (V.kill n0 t72) :: (V.kill n0 t73) :: (V.kill n0 t74) :: (V.kill n0 t75) :: (V.kill n0 t76) :: (V.kill n0 t77) :: .junk :: .junk :: .junk :: .junk :: .junk :: .junk :: .junk :: .junk :: .junk :: .junk :: .junk :: .junk :: .junk :: .junk :: .junk :: []), cutH n0 h88⟩) :=
  (go_op0 rfl rfl (st_bm (by kernel_rfl) fun v85 h86 =>
  (go_end0 (by kernel_rfl)
  (go_cond (by kernel_rfl)
  (go_seq (go_reg0
  (go_op0 rfl rfl (st_id (v := (V.lit (Value.bool false))) (H := h86) (by kernel_rfl)
  (go_end0 (by kernel_rfl)
  (go_ret (rt_block_ret (rt_seq_ret (by kernel_rfl)))))))))
  (go_skip (rt_block_norm (go_reg0
  (go_op0 rfl rfl (st_id (v := t16) (H := h86) (by kernel_rfl)
  (go_op0 rfl rfl (st_bm (by kernel_rfl) fun v87 h88 =>
  (go_op0 rfl rfl (st_id (v := v87) (H := h88) (by kernel_rfl)
  (go_end0 (by kernel_rfl)
  (by kernel_rfl)))))))))))))))
theorem xk18_0_ret (cx : Cx) (K : Out → St → Option (V × Hp)) (s : St) : runK cx K xk18_0 .ret s = K .ret s := by kernel_rfl
theorem xk18_1_ret (cx : Cx) (K : Out → St → Option (V × Hp)) (s : St) : runK cx K xk18_1 .ret s = K .ret s := by kernel_rfl
theorem xk18_2_ret (cx : Cx) (K : Out → St → Option (V × Hp)) (s : St) : runK cx K xk18_2 .ret s = K .ret s := by kernel_rfl
theorem xk18_3_ret (cx : Cx) (K : Out → St → Option (V × Hp)) (s : St) : runK cx K xk18_3 .ret s = K .ret s := by kernel_rfl
theorem xk18_4_ret (cx : Cx) (K : Out → St → Option (V × Hp)) (s : St) : runK cx K xk18_4 .ret s = K .ret s := by kernel_rfl
theorem xk18_5_ret (cx : Cx) (K : Out → St → Option (V × Hp)) (s : St) : runK cx K xk18_5 .ret s = K .ret s := by kernel_rfl
-- names: xb18, xz18, xm18_0, xm18_1, xr18_0, xj18_2, xr18_1, xj18_3, xr18_2, xj18_4, xj18_5, xm18_6, xk18_0_ret, xk18_1_ret, xk18_2_ret, xk18_3_ret, xk18_4_ret, xk18_5_ret
end Go.Ab
