/- The program's code, point by point: printed by gen.py. -/
import Derived.Test.YthnifkacfonhgaaR2Seat
set_option maxRecDepth 100000
set_option linter.unusedVariables false
namespace Go.Ab
open Go.Proofs
/-! 12 poacher/poacherlaw15.NoteAgain: 0 c, 1 m, 2 f, 3 e, 4 c, 5 m, 6 f, 7 e, 9 up, 10 n, 11 a, 12 g -/
noncomputable def xg12_0 : Code := codeAt (bodyOf Try.f12) [1, 1, 0, 0]
noncomputable def xk12_0 : List Fr := [.seq (codeAt (bodyOf Try.f12) [1, 1, 0, 1]), .seq (codeAt (bodyOf Try.f12) [1, 1, 1])]
noncomputable def xg12_1 : Code := codeAt (bodyOf Try.f12) [1, 1, 1, 1, 1, 0]
noncomputable def xk12_1 : List Fr := [.seq (codeAt (bodyOf Try.f12) [1, 1, 1, 1, 1, 1])]
theorem xb12 (s : Sys) (k wl : Nat) (t0 t1 t2 t3 : V) (h : Hp) : bodyV (xX s 12 wl k false) Try.f12 [t0, t1, t2, t3] h =
  bp (opBox t0 h) fun v1 h2 =>
  bp (opBox t2 h2) fun v3 h4 =>
  bp (callV (xX s 12 wl k false) false true (.fn (.func 36) [] []) [] h4) fun v5 h6 =>
  bm (vUn .not v5) h6 fun v7 h8 =>
  gd v7 (
  opsP (xX s 12 wl k false) xg12_0 6 h6.length ([], []) (runK (xX s 12 wl k false) (bodyK s.P Try.f12) xk12_0) ⟨(t0 :: t1 :: t2 :: t3 :: v1 :: uu :: v3 :: uu :: (V.lit (Value.bool false)) :: v5 :: uu :: uu :: uu :: v5 :: v5 :: v7 :: (V.lit (Value.bool true)) :: uu :: uu :: uu :: uu :: uu :: uu :: uu :: uu :: uu :: uu :: uu :: uu :: uu :: uu :: uu :: uu :: uu :: uu :: uu :: uu :: uu :: uu :: uu :: uu :: uu :: uu :: uu :: uu :: uu :: uu :: uu :: uu :: uu :: uu :: uu :: uu :: uu :: uu :: uu :: uu :: uu :: uu :: uu :: uu :: uu :: uu :: uu :: uu :: uu :: uu :: uu :: []), h8⟩) (
  bp (opLen s.P 25 t1 h8) fun v9 h10 =>
  bm (vBin s.P .gtr 3 v9 (V.lit (Value.int .i64 500))) h10 fun v11 h12 =>
  opsP (xX s 12 wl k false) xg12_0 6 h6.length ([], []) (runK (xX s 12 wl k false) (bodyK s.P Try.f12) xk12_0) ⟨(t0 :: t1 :: t2 :: t3 :: v1 :: uu :: v3 :: uu :: (V.lit (Value.bool false)) :: v5 :: uu :: uu :: uu :: v5 :: v5 :: v7 :: (V.lit (Value.bool false)) :: t1 :: v9 :: v11 :: uu :: uu :: uu :: uu :: uu :: uu :: uu :: uu :: uu :: uu :: uu :: uu :: uu :: uu :: uu :: uu :: uu :: uu :: uu :: uu :: uu :: uu :: uu :: uu :: uu :: uu :: uu :: uu :: uu :: uu :: uu :: uu :: uu :: uu :: uu :: uu :: uu :: uu :: uu :: uu :: uu :: uu :: uu :: uu :: uu :: uu :: uu :: uu :: []), h12⟩) (
  opsP (xX s 12 wl k false) xg12_0 4 h6.length ([], []) (runK (xX s 12 wl k false) (bodyK s.P Try.f12) xk12_0) ⟨(t0 :: t1 :: t2 :: t3 :: v1 :: uu :: v3 :: uu :: (V.lit (Value.bool false)) :: v5 :: uu :: uu :: uu :: v5 :: v5 :: v7 :: v7 :: uu :: uu :: uu :: uu :: uu :: uu :: uu :: uu :: uu :: uu :: uu :: uu :: uu :: uu :: uu :: uu :: uu :: uu :: uu :: uu :: uu :: uu :: uu :: uu :: uu :: uu :: uu :: uu :: uu :: uu :: uu :: uu :: uu :: uu :: uu :: uu :: uu :: uu :: uu :: uu :: uu :: uu :: uu :: uu :: uu :: uu :: uu :: uu :: uu :: uu :: uu :: []), h8⟩) :=
  bodyV_run rfl (go_seq (go_reg0
  (go_op0 rfl rfl (st_bp (by kernel_rfl) fun v1 h2 =>
  (go_op0 rfl rfl (st_bp (by kernel_rfl) fun v3 h4 =>
  (go_op0 rfl rfl (st_id (v := (V.lit (Value.bool false))) (H := h4) (by kernel_rfl)
  (go_end0 (by kernel_rfl)
  (go_seq (go_reg0
  (go_op0 rfl rfl (st_bp (by kernel_rfl) fun v5 h6 =>
  (go_op0 rfl rfl (st_id (v := v5) (H := h6) (by kernel_rfl)
  (go_end0 (by kernel_rfl)
  (go_seq (go_seq (go_reg0
  (go_op0 rfl rfl (st_id (v := v5) (H := h6) (by kernel_rfl)
  (go_op0 rfl rfl (st_bm (by kernel_rfl) fun v7 h8 =>
  (go_op0 rfl rfl (st_id (v := v7) (H := h8) (by kernel_rfl)
  (go_gdF0 rfl rfl rfl (by kernel_rfl)
  (go_skip0 rfl rfl rfl (by kernel_rfl)
  (go_skip0 rfl rfl rfl (by kernel_rfl)
  (by kernel_rfl)))
  (st_id (v := t1) (H := h8) (by kernel_rfl)
  (go_run0 rfl rfl rfl (by kernel_rfl) (st_bp (by kernel_rfl) fun v9 h10 =>
  (go_run0 rfl rfl rfl (by kernel_rfl) (st_bm (by kernel_rfl) fun v11 h12 =>
  (by kernel_rfl))))))
  (by kernel_rfl)))))))))))))))))))))))))))
theorem xe12 (k wl : Nat) (t0 t1 t2 t3 : V) (h : Hp) : evF Try.prog xM (k + 1) wl 12 [t0, t1, t2, t3] h = bodyV (xX (xS k) 12 wl k false) Try.f12 [t0, t1, t2, t3] h := by kernel_rfl
theorem xm12_0 (s : Sys) (k wl : Nat) (m0 : Nat) (ac : List Nat × List Nat) (t0 t1 t2 t3 t4 t5 t6 t7 t8 t9 t10 t11 t12 t13 t14 t15 t16 t17 t18 t19 t20 t21 t22 t23 t24 t25 t26 t27 t28 t29 t30 t31 t32 t33 t34 t35 t36 t37 t38 t39 t40 t41 t42 t43 t44 t45 t46 t47 t48 t49 t50 t51 t52 t53 t54 t55 t56 t57 t58 t59 t60 t61 t62 t63 t64 t65 t66 t67 : V) (h : Hp) : opsP (xX s 12 wl k false) xg12_0 6 m0 ac (runK (xX s 12 wl k false) (bodyK s.P Try.f12) xk12_0) ⟨(t0 :: t1 :: t2 :: t3 :: t4 :: t5 :: t6 :: t7 :: t8 :: t9 :: t10 :: t11 :: t12 :: t13 :: t14 :: t15 :: t16 :: t17 :: t18 :: t19 :: t20 :: t21 :: t22 :: t23 :: t24 :: t25 :: t26 :: t27 :: t28 :: t29 :: t30 :: t31 :: t32 :: t33 :: t34 :: t35 :: t36 :: t37 :: t38 :: t39 :: t40 :: t41 :: t42 :: t43 :: t44 :: t45 :: t46 :: t47 :: t48 :: t49 :: t50 :: t51 :: t52 :: t53 :: t54 :: t55 :: t56 :: t57 :: t58 :: t59 :: t60 :: t61 :: t62 :: t63 :: t64 :: t65 :: t66 :: t67 :: []), h⟩ =
  bm (vPick t16 (V.lit (Value.bool true)) t19) h fun v13 h14 =>
  gd v13 (
  opsP (xX s 12 wl k false) xg12_0 11 m0 ac (runK (xX s 12 wl k false) (bodyK s.P Try.f12) xk12_0) ⟨(t0 :: t1 :: t2 :: t3 :: t4 :: t5 :: t6 :: t7 :: t8 :: t9 :: t10 :: t11 :: t12 :: t13 :: t14 :: t15 :: t16 :: t17 :: t18 :: t19 :: v13 :: (V.lit (Value.bool true)) :: uu :: uu :: uu :: t25 :: t26 :: t27 :: t28 :: t29 :: t30 :: t31 :: t32 :: t33 :: t34 :: t35 :: t36 :: t37 :: t38 :: t39 :: t40 :: t41 :: t42 :: t43 :: t44 :: t45 :: t46 :: t47 :: t48 :: t49 :: t50 :: t51 :: t52 :: t53 :: t54 :: t55 :: t56 :: t57 :: t58 :: t59 :: t60 :: t61 :: t62 :: t63 :: t64 :: t65 :: t66 :: t67 :: []), h14⟩) (
  bm (vFieldAddr s.P 28 t6 1) h14 fun v15 h16 =>
  bm (vLoad s.P 3 v15 h16) h16 fun v17 h18 =>
  bm (vBin s.P .neq 3 v17 (V.lit (Value.int .i64 1))) h18 fun v19 h20 =>
  opsP (xX s 12 wl k false) xg12_0 11 m0 ac (runK (xX s 12 wl k false) (bodyK s.P Try.f12) xk12_0) ⟨(t0 :: t1 :: t2 :: t3 :: t4 :: t5 :: t6 :: t7 :: t8 :: t9 :: t10 :: t11 :: t12 :: t13 :: t14 :: t15 :: t16 :: t17 :: t18 :: t19 :: v13 :: (V.lit (Value.bool false)) :: v15 :: v17 :: v19 :: t25 :: t26 :: t27 :: t28 :: t29 :: t30 :: t31 :: t32 :: t33 :: t34 :: t35 :: t36 :: t37 :: t38 :: t39 :: t40 :: t41 :: t42 :: t43 :: t44 :: t45 :: t46 :: t47 :: t48 :: t49 :: t50 :: t51 :: t52 :: t53 :: t54 :: t55 :: t56 :: t57 :: t58 :: t59 :: t60 :: t61 :: t62 :: t63 :: t64 :: t65 :: t66 :: t67 :: []), h20⟩) (
  opsP (xX s 12 wl k false) xg12_0 9 m0 ac (runK (xX s 12 wl k false) (bodyK s.P Try.f12) xk12_0) ⟨(t0 :: t1 :: t2 :: t3 :: t4 :: t5 :: t6 :: t7 :: t8 :: t9 :: t10 :: t11 :: t12 :: t13 :: t14 :: t15 :: t16 :: t17 :: t18 :: t19 :: v13 :: v13 :: uu :: t23 :: t24 :: t25 :: t26 :: t27 :: t28 :: t29 :: t30 :: t31 :: t32 :: t33 :: t34 :: t35 :: t36 :: t37 :: t38 :: t39 :: t40 :: t41 :: t42 :: t43 :: t44 :: t45 :: t46 :: t47 :: t48 :: t49 :: t50 :: t51 :: t52 :: t53 :: t54 :: t55 :: t56 :: t57 :: t58 :: t59 :: t60 :: t61 :: t62 :: t63 :: t64 :: t65 :: t66 :: t67 :: []), h14⟩) :=
  (go_op0 rfl rfl (st_bm (by kernel_rfl) fun v13 h14 =>
  (go_op0 rfl rfl (st_id (v := v13) (H := h14) (by kernel_rfl)
  (go_gdF0 rfl rfl rfl (by kernel_rfl)
  (go_skip0 rfl rfl rfl (by kernel_rfl)
  (go_skip0 rfl rfl rfl (by kernel_rfl)
  (by kernel_rfl)))
  (st_bm (by kernel_rfl) fun v15 h16 =>
  (go_run0 rfl rfl rfl (by kernel_rfl) (st_bm (by kernel_rfl) fun v17 h18 =>
  (go_run0 rfl rfl rfl (by kernel_rfl) (st_bm (by kernel_rfl) fun v19 h20 =>
  (by kernel_rfl))))))
  (by kernel_rfl))))))
theorem xm12_1 (s : Sys) (k wl : Nat) (m0 : Nat) (ac : List Nat × List Nat) (t0 t1 t2 t3 t4 t5 t6 t7 t8 t9 t10 t11 t12 t13 t14 t15 t16 t17 t18 t19 t20 t21 t22 t23 t24 t25 t26 t27 t28 t29 t30 t31 t32 t33 t34 t35 t36 t37 t38 t39 t40 t41 t42 t43 t44 t45 t46 t47 t48 t49 t50 t51 t52 t53 t54 t55 t56 t57 t58 t59 t60 t61 t62 t63 t64 t65 t66 t67 : V) (h : Hp) : opsP (xX s 12 wl k false) xg12_0 11 m0 ac (runK (xX s 12 wl k false) (bodyK s.P Try.f12) xk12_0) ⟨(t0 :: t1 :: t2 :: t3 :: t4 :: t5 :: t6 :: t7 :: t8 :: t9 :: t10 :: t11 :: t12 :: t13 :: t14 :: t15 :: t16 :: t17 :: t18 :: t19 :: t20 :: t21 :: t22 :: t23 :: t24 :: t25 :: t26 :: t27 :: t28 :: t29 :: t30 :: t31 :: t32 :: t33 :: t34 :: t35 :: t36 :: t37 :: t38 :: t39 :: t40 :: t41 :: t42 :: t43 :: t44 :: t45 :: t46 :: t47 :: t48 :: t49 :: t50 :: t51 :: t52 :: t53 :: t54 :: t55 :: t56 :: t57 :: t58 :: t59 :: t60 :: t61 :: t62 :: t63 :: t64 :: t65 :: t66 :: t67 :: []), h⟩ =
  bm (vPick t21 (V.lit (Value.bool true)) t24) h fun v21 h22 =>
  gd v21 (
  opsP (xX s 12 wl k false) xg12_0 18 m0 ac (runK (xX s 12 wl k false) (bodyK s.P Try.f12) xk12_0) ⟨(t0 :: t1 :: t2 :: t3 :: t4 :: t5 :: t6 :: t7 :: t8 :: t9 :: t10 :: t11 :: t12 :: t13 :: t14 :: t15 :: t16 :: t17 :: t18 :: t19 :: t20 :: t21 :: t22 :: t23 :: t24 :: v21 :: (V.lit (Value.bool true)) :: uu :: uu :: uu :: uu :: uu :: t32 :: t33 :: t34 :: t35 :: t36 :: t37 :: t38 :: t39 :: t40 :: t41 :: t42 :: t43 :: t44 :: t45 :: t46 :: t47 :: t48 :: t49 :: t50 :: t51 :: t52 :: t53 :: t54 :: t55 :: t56 :: t57 :: t58 :: t59 :: t60 :: t61 :: t62 :: t63 :: t64 :: t65 :: t66 :: t67 :: []), h22⟩) (
  bm (vLoad s.P 23 t4 h22) h22 fun v23 h24 =>
  bm (vLoad s.P 28 t6 h24) h24 fun v25 h26 =>
  bp (callV (xX s 12 wl k false) false true (.fn (.func 38) [] []) [v23, t1, v25] h26) fun v27 h28 =>
  bm (vUn .not v27) h28 fun v29 h30 =>
  opsP (xX s 12 wl k false) xg12_0 18 m0 ac (runK (xX s 12 wl k false) (bodyK s.P Try.f12) xk12_0) ⟨(t0 :: t1 :: t2 :: t3 :: t4 :: t5 :: t6 :: t7 :: t8 :: t9 :: t10 :: t11 :: t12 :: t13 :: t14 :: t15 :: t16 :: t17 :: t18 :: t19 :: t20 :: t21 :: t22 :: t23 :: t24 :: v21 :: (V.lit (Value.bool false)) :: v23 :: t1 :: v25 :: v27 :: v29 :: t32 :: t33 :: t34 :: t35 :: t36 :: t37 :: t38 :: t39 :: t40 :: t41 :: t42 :: t43 :: t44 :: t45 :: t46 :: t47 :: t48 :: t49 :: t50 :: t51 :: t52 :: t53 :: t54 :: t55 :: t56 :: t57 :: t58 :: t59 :: t60 :: t61 :: t62 :: t63 :: t64 :: t65 :: t66 :: t67 :: []), h30⟩) (
  opsP (xX s 12 wl k false) xg12_0 14 m0 ac (runK (xX s 12 wl k false) (bodyK s.P Try.f12) xk12_0) ⟨(t0 :: t1 :: t2 :: t3 :: t4 :: t5 :: t6 :: t7 :: t8 :: t9 :: t10 :: t11 :: t12 :: t13 :: t14 :: t15 :: t16 :: t17 :: t18 :: t19 :: t20 :: t21 :: t22 :: t23 :: t24 :: v21 :: v21 :: uu :: t28 :: t29 :: t30 :: t31 :: t32 :: t33 :: t34 :: t35 :: t36 :: t37 :: t38 :: t39 :: t40 :: t41 :: t42 :: t43 :: t44 :: t45 :: t46 :: t47 :: t48 :: t49 :: t50 :: t51 :: t52 :: t53 :: t54 :: t55 :: t56 :: t57 :: t58 :: t59 :: t60 :: t61 :: t62 :: t63 :: t64 :: t65 :: t66 :: t67 :: []), h22⟩) :=
  (go_op0 rfl rfl (st_bm (by kernel_rfl) fun v21 h22 =>
  (go_op0 rfl rfl (st_id (v := v21) (H := h22) (by kernel_rfl)
  (go_gdF0 rfl rfl rfl (by kernel_rfl)
  (go_skip0 rfl rfl rfl (by kernel_rfl)
  (go_skip0 rfl rfl rfl (by kernel_rfl)
  (go_skip0 rfl rfl rfl (by kernel_rfl)
  (go_skip0 rfl rfl rfl (by kernel_rfl)
  (by kernel_rfl)))))
  (st_bm (by kernel_rfl) fun v23 h24 =>
  (go_run0 rfl rfl rfl (by kernel_rfl) (st_id (v := t1) (H := h24) (by kernel_rfl)
  (go_run0 rfl rfl rfl (by kernel_rfl) (st_bm (by kernel_rfl) fun v25 h26 =>
  (go_run0 rfl rfl rfl (by kernel_rfl) (st_bp (by kernel_rfl) fun v27 h28 =>
  (go_run0 rfl rfl rfl (by kernel_rfl) (st_bm (by kernel_rfl) fun v29 h30 =>
  (by kernel_rfl))))))))))
  (by kernel_rfl))))))
theorem xm12_2 (s : Sys) (k wl : Nat) (m0 : Nat) (ac : List Nat × List Nat) (t0 t1 t2 t3 t4 t5 t6 t7 t8 t9 t10 t11 t12 t13 t14 t15 t16 t17 t18 t19 t20 t21 t22 t23 t24 t25 t26 t27 t28 t29 t30 t31 t32 t33 t34 t35 t36 t37 t38 t39 t40 t41 t42 t43 t44 t45 t46 t47 t48 t49 t50 t51 t52 t53 t54 t55 t56 t57 t58 t59 t60 t61 t62 t63 t64 t65 t66 t67 : V) (h : Hp) : opsP (xX s 12 wl k false) xg12_0 18 m0 ac (runK (xX s 12 wl k false) (bodyK s.P Try.f12) xk12_0) ⟨(t0 :: t1 :: t2 :: t3 :: t4 :: t5 :: t6 :: t7 :: t8 :: t9 :: t10 :: t11 :: t12 :: t13 :: t14 :: t15 :: t16 :: t17 :: t18 :: t19 :: t20 :: t21 :: t22 :: t23 :: t24 :: t25 :: t26 :: t27 :: t28 :: t29 :: t30 :: t31 :: t32 :: t33 :: t34 :: t35 :: t36 :: t37 :: t38 :: t39 :: t40 :: t41 :: t42 :: t43 :: t44 :: t45 :: t46 :: t47 :: t48 :: t49 :: t50 :: t51 :: t52 :: t53 :: t54 :: t55 :: t56 :: t57 :: t58 :: t59 :: t60 :: t61 :: t62 :: t63 :: t64 :: t65 :: t66 :: t67 :: []), h⟩ =
  bm (vPick t26 (V.lit (Value.bool true)) t31) h fun v31 h32 =>
  gd v31 (
  opsP (xX s 12 wl k false) xg12_0 24 m0 ac (runK (xX s 12 wl k false) (bodyK s.P Try.f12) xk12_0) ⟨(t0 :: t1 :: t2 :: t3 :: t4 :: t5 :: t6 :: t7 :: t8 :: t9 :: t10 :: t11 :: t12 :: t13 :: t14 :: t15 :: t16 :: t17 :: t18 :: t19 :: t20 :: t21 :: t22 :: t23 :: t24 :: t25 :: t26 :: t27 :: t28 :: t29 :: t30 :: t31 :: v31 :: (V.lit (Value.bool true)) :: uu :: uu :: uu :: uu :: t38 :: t39 :: t40 :: t41 :: t42 :: t43 :: t44 :: t45 :: t46 :: t47 :: t48 :: t49 :: t50 :: t51 :: t52 :: t53 :: t54 :: t55 :: t56 :: t57 :: t58 :: t59 :: t60 :: t61 :: t62 :: t63 :: t64 :: t65 :: t66 :: t67 :: []), h32⟩) (
  bm (vFieldAddr s.P 28 t6 4) h32 fun v33 h34 =>
  bm (vLoad s.P 26 v33 h34) h34 fun v35 h36 =>
  bm (vBin s.P .eql 26 t3 v35) h36 fun v37 h38 =>
  opsP (xX s 12 wl k false) xg12_0 24 m0 ac (runK (xX s 12 wl k false) (bodyK s.P Try.f12) xk12_0) ⟨(t0 :: t1 :: t2 :: t3 :: t4 :: t5 :: t6 :: t7 :: t8 :: t9 :: t10 :: t11 :: t12 :: t13 :: t14 :: t15 :: t16 :: t17 :: t18 :: t19 :: t20 :: t21 :: t22 :: t23 :: t24 :: t25 :: t26 :: t27 :: t28 :: t29 :: t30 :: t31 :: v31 :: (V.lit (Value.bool false)) :: t3 :: v33 :: v35 :: v37 :: t38 :: t39 :: t40 :: t41 :: t42 :: t43 :: t44 :: t45 :: t46 :: t47 :: t48 :: t49 :: t50 :: t51 :: t52 :: t53 :: t54 :: t55 :: t56 :: t57 :: t58 :: t59 :: t60 :: t61 :: t62 :: t63 :: t64 :: t65 :: t66 :: t67 :: []), h38⟩) (
  opsP (xX s 12 wl k false) xg12_0 21 m0 ac (runK (xX s 12 wl k false) (bodyK s.P Try.f12) xk12_0) ⟨(t0 :: t1 :: t2 :: t3 :: t4 :: t5 :: t6 :: t7 :: t8 :: t9 :: t10 :: t11 :: t12 :: t13 :: t14 :: t15 :: t16 :: t17 :: t18 :: t19 :: t20 :: t21 :: t22 :: t23 :: t24 :: t25 :: t26 :: t27 :: t28 :: t29 :: t30 :: t31 :: v31 :: v31 :: uu :: t35 :: t36 :: t37 :: t38 :: t39 :: t40 :: t41 :: t42 :: t43 :: t44 :: t45 :: t46 :: t47 :: t48 :: t49 :: t50 :: t51 :: t52 :: t53 :: t54 :: t55 :: t56 :: t57 :: t58 :: t59 :: t60 :: t61 :: t62 :: t63 :: t64 :: t65 :: t66 :: t67 :: []), h32⟩) :=
  (go_op0 rfl rfl (st_bm (by kernel_rfl) fun v31 h32 =>
  (go_op0 rfl rfl (st_id (v := v31) (H := h32) (by kernel_rfl)
  (go_gdF0 rfl rfl rfl (by kernel_rfl)
  (go_skip0 rfl rfl rfl (by kernel_rfl)
  (go_skip0 rfl rfl rfl (by kernel_rfl)
  (go_skip0 rfl rfl rfl (by kernel_rfl)
  (by kernel_rfl))))
  (st_id (v := t3) (H := h32) (by kernel_rfl)
  (go_run0 rfl rfl rfl (by kernel_rfl) (st_bm (by kernel_rfl) fun v33 h34 =>
  (go_run0 rfl rfl rfl (by kernel_rfl) (st_bm (by kernel_rfl) fun v35 h36 =>
  (go_run0 rfl rfl rfl (by kernel_rfl) (st_bm (by kernel_rfl) fun v37 h38 =>
  (by kernel_rfl))))))))
  (by kernel_rfl))))))
theorem xm12_3 (s : Sys) (k wl : Nat) (m0 : Nat) (ac : List Nat × List Nat) (t0 t1 t2 t3 t4 t5 t6 t7 t8 t9 t10 t11 t12 t13 t14 t15 t16 t17 t18 t19 t20 t21 t22 t23 t24 t25 t26 t27 t28 t29 t30 t31 t32 t33 t34 t35 t36 t37 t38 t39 t40 t41 t42 t43 t44 t45 t46 t47 t48 t49 t50 t51 t52 t53 t54 t55 t56 t57 t58 t59 t60 t61 t62 t63 t64 t65 t66 t67 : V) (h : Hp) : opsP (xX s 12 wl k false) xg12_0 24 m0 ac (runK (xX s 12 wl k false) (bodyK s.P Try.f12) xk12_0) ⟨(t0 :: t1 :: t2 :: t3 :: t4 :: t5 :: t6 :: t7 :: t8 :: t9 :: t10 :: t11 :: t12 :: t13 :: t14 :: t15 :: t16 :: t17 :: t18 :: t19 :: t20 :: t21 :: t22 :: t23 :: t24 :: t25 :: t26 :: t27 :: t28 :: t29 :: t30 :: t31 :: t32 :: t33 :: t34 :: t35 :: t36 :: t37 :: t38 :: t39 :: t40 :: t41 :: t42 :: t43 :: t44 :: t45 :: t46 :: t47 :: t48 :: t49 :: t50 :: t51 :: t52 :: t53 :: t54 :: t55 :: t56 :: t57 :: t58 :: t59 :: t60 :: t61 :: t62 :: t63 :: t64 :: t65 :: t66 :: t67 :: []), h⟩ =
  bm (vPick t33 (V.lit (Value.bool true)) t37) h fun v39 h40 =>
  cnd v39 (
  some (t9, h40)) (
  bp (callV (xX s 12 wl k false) false true (.fn (.func 32) [] []) [t1, (V.lit (Value.int .i64 2)), t3] h40) fun v41 h42 =>
  bm (vLoad s.P 23 t4 h42) h42 fun v43 h44 =>
  bm (vLoad s.P 28 t6 h44) h44 fun v45 h46 =>
  bp (callV (xX s 12 wl k false) false true (.fn (.func 37) [] []) [v43, v41, v45] h46) fun v47 h48 =>
  bm (vExtract v47 0) h48 fun v49 h50 =>
  bm (vExtract v47 1) h50 fun v51 h52 =>
  bp (opAlloc s.P 28 h52) fun v53 h54 =>
  bs (vStore s.P wl 28 v53 v51 h54) fun h55 =>
  bp (callV (xX s 12 wl k false) false true (.fn (.func 35) [] []) [v49, v41] h55) fun v56 h57 =>
  gd v56 (
  bm (vFieldAddr s.P 28 v53 1) h57 fun v58 h59 =>
  bm (vLoad s.P 3 v58 h59) h59 fun v60 h61 =>
  bm (vBin s.P .eql 3 v60 (V.lit (Value.int .i64 0))) h61 fun v62 h63 =>
  opsP (xX s 12 wl k false) xg12_1 7 h55.length ([], []) (runK (xX s 12 wl k false) (bodyK s.P Try.f12) xk12_1) ⟨(t0 :: t1 :: t2 :: t3 :: t4 :: t5 :: t6 :: t7 :: t8 :: t9 :: v41 :: v49 :: v53 :: t13 :: t14 :: t15 :: t16 :: t17 :: t18 :: t19 :: t20 :: t21 :: t22 :: t23 :: t24 :: t25 :: t26 :: t27 :: t28 :: t29 :: t30 :: t31 :: t32 :: t33 :: t34 :: t35 :: t36 :: t37 :: v39 :: t39 :: t1 :: t3 :: v41 :: v47 :: v43 :: v41 :: v45 :: v47 :: v49 :: v51 :: v49 :: v41 :: v56 :: (V.lit (Value.bool true)) :: v58 :: v60 :: v62 :: t57 :: t58 :: t59 :: t60 :: t61 :: t62 :: t63 :: t64 :: t65 :: t66 :: t67 :: []), h63⟩) (
  opsP (xX s 12 wl k false) xg12_1 7 h55.length ([], []) (runK (xX s 12 wl k false) (bodyK s.P Try.f12) xk12_1) ⟨(t0 :: t1 :: t2 :: t3 :: t4 :: t5 :: t6 :: t7 :: t8 :: t9 :: v41 :: v49 :: v53 :: t13 :: t14 :: t15 :: t16 :: t17 :: t18 :: t19 :: t20 :: t21 :: t22 :: t23 :: t24 :: t25 :: t26 :: t27 :: t28 :: t29 :: t30 :: t31 :: t32 :: t33 :: t34 :: t35 :: t36 :: t37 :: v39 :: t39 :: t1 :: t3 :: v41 :: v47 :: v43 :: v41 :: v45 :: v47 :: v49 :: v51 :: v49 :: v41 :: v56 :: (V.lit (Value.bool false)) :: uu :: uu :: uu :: t57 :: t58 :: t59 :: t60 :: t61 :: t62 :: t63 :: t64 :: t65 :: t66 :: t67 :: []), h57⟩) (
  opsP (xX s 12 wl k false) xg12_1 5 h55.length ([], []) (runK (xX s 12 wl k false) (bodyK s.P Try.f12) xk12_1) ⟨(t0 :: t1 :: t2 :: t3 :: t4 :: t5 :: t6 :: t7 :: t8 :: t9 :: v41 :: v49 :: v53 :: t13 :: t14 :: t15 :: t16 :: t17 :: t18 :: t19 :: t20 :: t21 :: t22 :: t23 :: t24 :: t25 :: t26 :: t27 :: t28 :: t29 :: t30 :: t31 :: t32 :: t33 :: t34 :: t35 :: t36 :: t37 :: v39 :: t39 :: t1 :: t3 :: v41 :: v47 :: v43 :: v41 :: v45 :: v47 :: v49 :: v51 :: v49 :: v41 :: v56 :: v56 :: uu :: t55 :: t56 :: t57 :: t58 :: t59 :: t60 :: t61 :: t62 :: t63 :: t64 :: t65 :: t66 :: t67 :: []), h57⟩)) :=
  (go_op0 rfl rfl (st_bm (by kernel_rfl) fun v39 h40 =>
  (go_end0 (by kernel_rfl)
  (go_cond (by kernel_rfl)
  (go_seq (go_reg0
  (go_op0 rfl rfl (st_id (v := t9) (H := h40) (by kernel_rfl)
  (go_op0 rfl rfl (st_id (v := t9) (H := h40) (by kernel_rfl)
  (go_end0 (by kernel_rfl)
  (go_ret (rt_seq_ret (by kernel_rfl))))))))))
  (go_skip (go_seq (go_reg0
  (go_op0 rfl rfl (st_id (v := t1) (H := h40) (by kernel_rfl)
  (go_op0 rfl rfl (st_id (v := t3) (H := h40) (by kernel_rfl)
  (go_op0 rfl rfl (st_bp (by kernel_rfl) fun v41 h42 =>
  (go_op0 rfl rfl (st_id (v := v41) (H := h42) (by kernel_rfl)
  (go_end0 (by kernel_rfl)
  (go_seq (go_reg0
  (go_op0 rfl rfl (st_bm (by kernel_rfl) fun v43 h44 =>
  (go_op0 rfl rfl (st_id (v := v41) (H := h44) (by kernel_rfl)
  (go_op0 rfl rfl (st_bm (by kernel_rfl) fun v45 h46 =>
  (go_op0 rfl rfl (st_bp (by kernel_rfl) fun v47 h48 =>
  (go_op0 rfl rfl (st_id (v := v47) (H := h48) (by kernel_rfl)
  (go_op0 rfl rfl (st_bm (by kernel_rfl) fun v49 h50 =>
  (go_op0 rfl rfl (st_bm (by kernel_rfl) fun v51 h52 =>
  (go_op0 rfl rfl (st_bp (by kernel_rfl) fun v53 h54 =>
  (go_op0 rfl rfl (st_id (v := v49) (H := h54) (by kernel_rfl)
  (go_op0 rfl rfl (st_bs (by kernel_rfl) fun h55 =>
  (go_end0 (by kernel_rfl)
  (go_seq (go_reg0
  (go_op0 rfl rfl (st_id (v := v49) (H := h55) (by kernel_rfl)
  (go_op0 rfl rfl (st_id (v := v41) (H := h55) (by kernel_rfl)
  (go_op0 rfl rfl (st_bp (by kernel_rfl) fun v56 h57 =>
  (go_op0 rfl rfl (st_id (v := v56) (H := h57) (by kernel_rfl)
  (go_gdT0 rfl rfl rfl (by kernel_rfl)
  (st_bm (by kernel_rfl) fun v58 h59 =>
  (go_run0 rfl rfl rfl (by kernel_rfl) (st_bm (by kernel_rfl) fun v60 h61 =>
  (go_run0 rfl rfl rfl (by kernel_rfl) (st_bm (by kernel_rfl) fun v62 h63 =>
  (by kernel_rfl))))))
  (go_skip0 rfl rfl rfl (by kernel_rfl)
  (go_skip0 rfl rfl rfl (by kernel_rfl)
  (by kernel_rfl)))
  (by kernel_rfl)))))))))))))))))))))))))))))))))))))))))))))))))))
theorem xm12_4 (s : Sys) (k wl : Nat) (m0 : Nat) (ac : List Nat × List Nat) (t0 t1 t2 t3 t4 t5 t6 t7 t8 t9 t10 t11 t12 t13 t14 t15 t16 t17 t18 t19 t20 t21 t22 t23 t24 t25 t26 t27 t28 t29 t30 t31 t32 t33 t34 t35 t36 t37 t38 t39 t40 t41 t42 t43 t44 t45 t46 t47 t48 t49 t50 t51 t52 t53 t54 t55 t56 t57 t58 t59 t60 t61 t62 t63 t64 t65 t66 t67 : V) (h : Hp) : opsP (xX s 12 wl k false) xg12_1 7 m0 ac (runK (xX s 12 wl k false) (bodyK s.P Try.f12) xk12_1) ⟨(t0 :: t1 :: t2 :: t3 :: t4 :: t5 :: t6 :: t7 :: t8 :: t9 :: t10 :: t11 :: t12 :: t13 :: t14 :: t15 :: t16 :: t17 :: t18 :: t19 :: t20 :: t21 :: t22 :: t23 :: t24 :: t25 :: t26 :: t27 :: t28 :: t29 :: t30 :: t31 :: t32 :: t33 :: t34 :: t35 :: t36 :: t37 :: t38 :: t39 :: t40 :: t41 :: t42 :: t43 :: t44 :: t45 :: t46 :: t47 :: t48 :: t49 :: t50 :: t51 :: t52 :: t53 :: t54 :: t55 :: t56 :: t57 :: t58 :: t59 :: t60 :: t61 :: t62 :: t63 :: t64 :: t65 :: t66 :: t67 :: []), h⟩ =
  bm (vPick t53 t56 (V.lit (Value.bool false))) h fun v64 h65 =>
  gd v64 (
  bm (vLoad s.P 28 t12 h65) h65 fun v66 h67 =>
  bp (callV (xX s 12 wl k false) false true (.fn (.func 43) [] []) [v66] h67) fun v68 h69 =>
  bm (vUn .not v68) h69 fun v70 h71 =>
  opsP (xX s 12 wl k false) xg12_1 12 m0 ac (runK (xX s 12 wl k false) (bodyK s.P Try.f12) xk12_1) ⟨(t0 :: t1 :: t2 :: t3 :: t4 :: t5 :: t6 :: t7 :: t8 :: t9 :: t10 :: t11 :: t12 :: t13 :: t14 :: t15 :: t16 :: t17 :: t18 :: t19 :: t20 :: t21 :: t22 :: t23 :: t24 :: t25 :: t26 :: t27 :: t28 :: t29 :: t30 :: t31 :: t32 :: t33 :: t34 :: t35 :: t36 :: t37 :: t38 :: t39 :: t40 :: t41 :: t42 :: t43 :: t44 :: t45 :: t46 :: t47 :: t48 :: t49 :: t50 :: t51 :: t52 :: t53 :: t54 :: t55 :: t56 :: v64 :: (V.lit (Value.bool true)) :: v66 :: v68 :: v70 :: t62 :: t63 :: t64 :: t65 :: t66 :: t67 :: []), h71⟩) (
  opsP (xX s 12 wl k false) xg12_1 12 m0 ac (runK (xX s 12 wl k false) (bodyK s.P Try.f12) xk12_1) ⟨(t0 :: t1 :: t2 :: t3 :: t4 :: t5 :: t6 :: t7 :: t8 :: t9 :: t10 :: t11 :: t12 :: t13 :: t14 :: t15 :: t16 :: t17 :: t18 :: t19 :: t20 :: t21 :: t22 :: t23 :: t24 :: t25 :: t26 :: t27 :: t28 :: t29 :: t30 :: t31 :: t32 :: t33 :: t34 :: t35 :: t36 :: t37 :: t38 :: t39 :: t40 :: t41 :: t42 :: t43 :: t44 :: t45 :: t46 :: t47 :: t48 :: t49 :: t50 :: t51 :: t52 :: t53 :: t54 :: t55 :: t56 :: v64 :: (V.lit (Value.bool false)) :: uu :: uu :: uu :: t62 :: t63 :: t64 :: t65 :: t66 :: t67 :: []), h65⟩) (
  opsP (xX s 12 wl k false) xg12_1 10 m0 ac (runK (xX s 12 wl k false) (bodyK s.P Try.f12) xk12_1) ⟨(t0 :: t1 :: t2 :: t3 :: t4 :: t5 :: t6 :: t7 :: t8 :: t9 :: t10 :: t11 :: t12 :: t13 :: t14 :: t15 :: t16 :: t17 :: t18 :: t19 :: t20 :: t21 :: t22 :: t23 :: t24 :: t25 :: t26 :: t27 :: t28 :: t29 :: t30 :: t31 :: t32 :: t33 :: t34 :: t35 :: t36 :: t37 :: t38 :: t39 :: t40 :: t41 :: t42 :: t43 :: t44 :: t45 :: t46 :: t47 :: t48 :: t49 :: t50 :: t51 :: t52 :: t53 :: t54 :: t55 :: t56 :: v64 :: v64 :: uu :: t60 :: t61 :: t62 :: t63 :: t64 :: t65 :: t66 :: t67 :: []), h65⟩) :=
  (go_op0 rfl rfl (st_bm (by kernel_rfl) fun v64 h65 =>
  (go_op0 rfl rfl (st_id (v := v64) (H := h65) (by kernel_rfl)
  (go_gdT0 rfl rfl rfl (by kernel_rfl)
  (st_bm (by kernel_rfl) fun v66 h67 =>
  (go_run0 rfl rfl rfl (by kernel_rfl) (st_bp (by kernel_rfl) fun v68 h69 =>
  (go_run0 rfl rfl rfl (by kernel_rfl) (st_bm (by kernel_rfl) fun v70 h71 =>
  (by kernel_rfl))))))
  (go_skip0 rfl rfl rfl (by kernel_rfl)
  (go_skip0 rfl rfl rfl (by kernel_rfl)
  (by kernel_rfl)))
  (by kernel_rfl))))))
theorem xm12_5 (s : Sys) (k wl : Nat) (m0 : Nat) (ac : List Nat × List Nat) (t0 t1 t2 t3 t4 t5 t6 t7 t8 t9 t10 t11 t12 t13 t14 t15 t16 t17 t18 t19 t20 t21 t22 t23 t24 t25 t26 t27 t28 t29 t30 t31 t32 t33 t34 t35 t36 t37 t38 t39 t40 t41 t42 t43 t44 t45 t46 t47 t48 t49 t50 t51 t52 t53 t54 t55 t56 t57 t58 t59 t60 t61 t62 t63 t64 t65 t66 t67 : V) (h : Hp) : opsP (xX s 12 wl k false) xg12_1 12 m0 ac (runK (xX s 12 wl k false) (bodyK s.P Try.f12) xk12_1) ⟨(t0 :: t1 :: t2 :: t3 :: t4 :: t5 :: t6 :: t7 :: t8 :: t9 :: t10 :: t11 :: t12 :: t13 :: t14 :: t15 :: t16 :: t17 :: t18 :: t19 :: t20 :: t21 :: t22 :: t23 :: t24 :: t25 :: t26 :: t27 :: t28 :: t29 :: t30 :: t31 :: t32 :: t33 :: t34 :: t35 :: t36 :: t37 :: t38 :: t39 :: t40 :: t41 :: t42 :: t43 :: t44 :: t45 :: t46 :: t47 :: t48 :: t49 :: t50 :: t51 :: t52 :: t53 :: t54 :: t55 :: t56 :: t57 :: t58 :: t59 :: t60 :: t61 :: t62 :: t63 :: t64 :: t65 :: t66 :: t67 :: []), h⟩ =
  bm (vPick t58 t61 (V.lit (Value.bool false))) h fun v72 h73 =>
  gd v72 (
  bm (vLoad s.P 28 t12 h73) h73 fun v74 h75 =>
  bp (callV (xX s 12 wl k false) false true (.fn (.func 39) [] []) [v74, (V.lit (Value.int .i64 0))] h75) fun v76 h77 =>
  bm (vUn .not v76) h77 fun v78 h79 =>
  opsP (xX s 12 wl k false) xg12_1 17 m0 ac (runK (xX s 12 wl k false) (bodyK s.P Try.f12) xk12_1) ⟨(t0 :: t1 :: t2 :: t3 :: t4 :: t5 :: t6 :: t7 :: t8 :: t9 :: t10 :: t11 :: t12 :: t13 :: t14 :: t15 :: t16 :: t17 :: t18 :: t19 :: t20 :: t21 :: t22 :: t23 :: t24 :: t25 :: t26 :: t27 :: t28 :: t29 :: t30 :: t31 :: t32 :: t33 :: t34 :: t35 :: t36 :: t37 :: t38 :: t39 :: t40 :: t41 :: t42 :: t43 :: t44 :: t45 :: t46 :: t47 :: t48 :: t49 :: t50 :: t51 :: t52 :: t53 :: t54 :: t55 :: t56 :: t57 :: t58 :: t59 :: t60 :: t61 :: v72 :: (V.lit (Value.bool true)) :: v74 :: v76 :: v78 :: t67 :: []), h79⟩) (
  opsP (xX s 12 wl k false) xg12_1 17 m0 ac (runK (xX s 12 wl k false) (bodyK s.P Try.f12) xk12_1) ⟨(t0 :: t1 :: t2 :: t3 :: t4 :: t5 :: t6 :: t7 :: t8 :: t9 :: t10 :: t11 :: t12 :: t13 :: t14 :: t15 :: t16 :: t17 :: t18 :: t19 :: t20 :: t21 :: t22 :: t23 :: t24 :: t25 :: t26 :: t27 :: t28 :: t29 :: t30 :: t31 :: t32 :: t33 :: t34 :: t35 :: t36 :: t37 :: t38 :: t39 :: t40 :: t41 :: t42 :: t43 :: t44 :: t45 :: t46 :: t47 :: t48 :: t49 :: t50 :: t51 :: t52 :: t53 :: t54 :: t55 :: t56 :: t57 :: t58 :: t59 :: t60 :: t61 :: v72 :: (V.lit (Value.bool false)) :: uu :: uu :: uu :: t67 :: []), h73⟩) (
  opsP (xX s 12 wl k false) xg12_1 15 m0 ac (runK (xX s 12 wl k false) (bodyK s.P Try.f12) xk12_1) ⟨(t0 :: t1 :: t2 :: t3 :: t4 :: t5 :: t6 :: t7 :: t8 :: t9 :: t10 :: t11 :: t12 :: t13 :: t14 :: t15 :: t16 :: t17 :: t18 :: t19 :: t20 :: t21 :: t22 :: t23 :: t24 :: t25 :: t26 :: t27 :: t28 :: t29 :: t30 :: t31 :: t32 :: t33 :: t34 :: t35 :: t36 :: t37 :: t38 :: t39 :: t40 :: t41 :: t42 :: t43 :: t44 :: t45 :: t46 :: t47 :: t48 :: t49 :: t50 :: t51 :: t52 :: t53 :: t54 :: t55 :: t56 :: t57 :: t58 :: t59 :: t60 :: t61 :: v72 :: v72 :: uu :: t65 :: t66 :: t67 :: []), h73⟩) :=
  (go_op0 rfl rfl (st_bm (by kernel_rfl) fun v72 h73 =>
  (go_op0 rfl rfl (st_id (v := v72) (H := h73) (by kernel_rfl)
  (go_gdT0 rfl rfl rfl (by kernel_rfl)
  (st_bm (by kernel_rfl) fun v74 h75 =>
  (go_run0 rfl rfl rfl (by kernel_rfl) (st_bp (by kernel_rfl) fun v76 h77 =>
  (go_run0 rfl rfl rfl (by kernel_rfl) (st_bm (by kernel_rfl) fun v78 h79 =>
  (by kernel_rfl))))))
  (go_skip0 rfl rfl rfl (by kernel_rfl)
  (go_skip0 rfl rfl rfl (by kernel_rfl)
  (by kernel_rfl)))
  (by kernel_rfl))))))
theorem xm12_6 (s : Sys) (k wl : Nat) (m0 : Nat) (ac : List Nat × List Nat) (t0 t1 t2 t3 t4 t5 t6 t7 t8 t9 t10 t11 t12 t13 t14 t15 t16 t17 t18 t19 t20 t21 t22 t23 t24 t25 t26 t27 t28 t29 t30 t31 t32 t33 t34 t35 t36 t37 t38 t39 t40 t41 t42 t43 t44 t45 t46 t47 t48 t49 t50 t51 t52 t53 t54 t55 t56 t57 t58 t59 t60 t61 t62 t63 t64 t65 t66 t67 : V) (h : Hp) : opsP (xX s 12 wl k false) xg12_1 17 m0 ac (runK (xX s 12 wl k false) (bodyK s.P Try.f12) xk12_1) ⟨(t0 :: t1 :: t2 :: t3 :: t4 :: t5 :: t6 :: t7 :: t8 :: t9 :: t10 :: t11 :: t12 :: t13 :: t14 :: t15 :: t16 :: t17 :: t18 :: t19 :: t20 :: t21 :: t22 :: t23 :: t24 :: t25 :: t26 :: t27 :: t28 :: t29 :: t30 :: t31 :: t32 :: t33 :: t34 :: t35 :: t36 :: t37 :: t38 :: t39 :: t40 :: t41 :: t42 :: t43 :: t44 :: t45 :: t46 :: t47 :: t48 :: t49 :: t50 :: t51 :: t52 :: t53 :: t54 :: t55 :: t56 :: t57 :: t58 :: t59 :: t60 :: t61 :: t62 :: t63 :: t64 :: t65 :: t66 :: t67 :: []), h⟩ =
  bm (vPick t63 t66 (V.lit (Value.bool false))) h fun v80 h81 =>
  some (v80, h81) :=
  (go_op0 rfl rfl (st_bm (by kernel_rfl) fun v80 h81 =>
  (go_op0 rfl rfl (st_id (v := v80) (H := h81) (by kernel_rfl)
  (go_end0 (by kernel_rfl)
  (go_ret (by kernel_rfl)))))))
theorem xk12_0_ret (cx : Cx) (K : Out → St → Option (V × Hp)) (s : St) : runK cx K xk12_0 .ret s = K .ret s := by kernel_rfl
theorem xk12_1_ret (cx : Cx) (K : Out → St → Option (V × Hp)) (s : St) : runK cx K xk12_1 .ret s = K .ret s := by kernel_rfl
-- names: xb12, xm12_0, xm12_1, xm12_2, xm12_3, xm12_4, xm12_5, xm12_6, xk12_0_ret, xk12_1_ret
end Go.Ab
