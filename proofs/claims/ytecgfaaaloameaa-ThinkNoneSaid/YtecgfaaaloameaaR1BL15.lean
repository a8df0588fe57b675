/- The program's code, point by point: printed by gen.py. -/
import Derived.Test.YtecgfaaaloameaaR1Seat
set_option maxRecDepth 100000
set_option linter.unusedVariables false
namespace Go.Ab
open Go.Proofs
/-! 15 poacher/poacherlaw17.ThinkNone: 0 t, 1 s, 2 k, 3 t, 4 s, 5 k, 7 up, 8 few, 9 none -/
noncomputable def xg15_0 : Code := codeAt (bodyOf Try.f15) [1, 1, 1, 0, 0]
noncomputable def xk15_0 : List Fr := [.seq (codeAt (bodyOf Try.f15) [1, 1, 1, 0, 1]), .seq (codeAt (bodyOf Try.f15) [1, 1, 1, 1])]
noncomputable def xg15_1 : Code := codeAt (bodyOf Try.f15) [1, 1, 1, 1, 0]
noncomputable def xk15_1 : List Fr := [.seq (codeAt (bodyOf Try.f15) [1, 1, 1, 1, 1])]
noncomputable def xg15_2 : Code := codeAt (bodyOf Try.f15) [1, 1, 1, 1, 1, 1, 0]
noncomputable def xk15_2 : List Fr := [.seq (codeAt (bodyOf Try.f15) [1, 1, 1, 1, 1, 1, 1])]
theorem xb15 (s : Sys) (k wl : Nat) (t0 t1 t2 : V) (h : Hp) : bodyV (xX s 15 wl k false) Try.f15 [t0, t1, t2] h =
  bp (callV (xX s 15 wl k false) false true (.fn (.func 37) [] []) [] h) fun v1 h2 =>
  bp (callV (xX s 15 wl k false) false true (.fn (.func 24) [] []) [t0] h2) fun v3 h4 =>
  bm (vUn .not v1) h4 fun v5 h6 =>
  gd v5 (
  opsP (xX s 15 wl k false) xg15_0 5 h4.length ([], []) (runK (xX s 15 wl k false) (bodyK s.P Try.f15) xk15_0) ⟨[t0, t1, t2, uu, uu, uu, (V.lit (Value.bool false)), v1, v3, uu, v1, t0, v3, v1, v5, (V.lit (Value.bool true)), uu, uu, uu, uu, uu, uu, uu, uu, uu, uu, uu, uu, uu, uu, uu, uu, uu, uu, uu, uu, uu, uu, uu, uu, uu, uu, uu, uu, uu, uu, uu, uu, uu, uu, uu, uu, uu, uu, uu, uu, uu, uu, uu, uu], h6⟩) (
  bm (vUn .not v3) h6 fun v7 h8 =>
  opsP (xX s 15 wl k false) xg15_0 5 h4.length ([], []) (runK (xX s 15 wl k false) (bodyK s.P Try.f15) xk15_0) ⟨[t0, t1, t2, uu, uu, uu, (V.lit (Value.bool false)), v1, v3, uu, v1, t0, v3, v1, v5, (V.lit (Value.bool false)), v3, v7, uu, uu, uu, uu, uu, uu, uu, uu, uu, uu, uu, uu, uu, uu, uu, uu, uu, uu, uu, uu, uu, uu, uu, uu, uu, uu, uu, uu, uu, uu, uu, uu, uu, uu, uu, uu, uu, uu, uu, uu, uu, uu], h8⟩) (
  opsP (xX s 15 wl k false) xg15_0 4 h4.length ([], []) (runK (xX s 15 wl k false) (bodyK s.P Try.f15) xk15_0) ⟨[t0, t1, t2, uu, uu, uu, (V.lit (Value.bool false)), v1, v3, uu, v1, t0, v3, v1, v5, v5, uu, uu, uu, uu, uu, uu, uu, uu, uu, uu, uu, uu, uu, uu, uu, uu, uu, uu, uu, uu, uu, uu, uu, uu, uu, uu, uu, uu, uu, uu, uu, uu, uu, uu, uu, uu, uu, uu, uu, uu, uu, uu, uu, uu], h6⟩) :=
  bodyV_run rfl (go_seq (go_reg0
  (go_op0 rfl rfl (st_id (v := (V.lit (Value.bool false))) (H := h) (by kernel_rfl)
  (go_end0 (by kernel_rfl)
  (go_seq (go_reg0
  (go_op0 rfl rfl (st_bp (by kernel_rfl) fun v1 h2 =>
  (go_op0 rfl rfl (st_id (v := v1) (H := h2) (by kernel_rfl)
  (go_end0 (by kernel_rfl)
  (go_seq (go_reg0
  (go_op0 rfl rfl (st_id (v := t0) (H := h2) (by kernel_rfl)
  (go_op0 rfl rfl (st_bp (by kernel_rfl) fun v3 h4 =>
  (go_op0 rfl rfl (st_id (v := v3) (H := h4) (by kernel_rfl)
  (go_end0 (by kernel_rfl)
  (go_seq (go_seq (go_reg0
  (go_op0 rfl rfl (st_id (v := v1) (H := h4) (by kernel_rfl)
  (go_op0 rfl rfl (st_bm (by kernel_rfl) fun v5 h6 =>
  (go_op0 rfl rfl (st_id (v := v5) (H := h6) (by kernel_rfl)
  (go_gdF0 rfl rfl rfl (by kernel_rfl)
  (go_skip0 rfl rfl rfl (by kernel_rfl)
  (by kernel_rfl))
  (st_id (v := v3) (H := h6) (by kernel_rfl)
  (go_run0 rfl rfl rfl (by kernel_rfl) (st_bm (by kernel_rfl) fun v7 h8 =>
  (by kernel_rfl))))
  (by kernel_rfl))))))))))))))))))))))))))))))))
theorem xe15 (k wl : Nat) (t0 t1 t2 : V) (h : Hp) : evF Try.prog xM (k + 1) wl 15 [t0, t1, t2] h = bodyV (xX (xS k) 15 wl k false) Try.f15 [t0, t1, t2] h := by kernel_rfl
theorem xm15_0 (s : Sys) (k wl : Nat) (m0 : Nat) (ac : List Nat × List Nat) (t0 t1 t2 t3 t4 t5 t6 t7 t8 t9 t10 t11 t12 t13 t14 t15 t16 t17 t18 t19 t20 t21 t22 t23 t24 t25 t26 t27 t28 t29 t30 t31 t32 t33 t34 t35 t36 t37 t38 t39 t40 t41 t42 t43 t44 t45 t46 t47 t48 t49 t50 t51 t52 t53 t54 t55 t56 t57 t58 t59 : V) (h : Hp) : opsP (xX s 15 wl k false) xg15_0 5 m0 ac (runK (xX s 15 wl k false) (bodyK s.P Try.f15) xk15_0) ⟨[t0, t1, t2, t3, t4, t5, t6, t7, t8, t9, t10, t11, t12, t13, t14, t15, t16, t17, t18, t19, t20, t21, t22, t23, t24, t25, t26, t27, t28, t29, t30, t31, t32, t33, t34, t35, t36, t37, t38, t39, t40, t41, t42, t43, t44, t45, t46, t47, t48, t49, t50, t51, t52, t53, t54, t55, t56, t57, t58, t59], h⟩ =
  bm (vPick t15 (V.lit (Value.bool true)) t17) h fun v9 h10 =>
  gd v9 (
  opsP (xX s 15 wl k false) xg15_0 10 m0 ac (runK (xX s 15 wl k false) (bodyK s.P Try.f15) xk15_0) ⟨[t0, t1, t2, t3, t4, t5, t6, t7, t8, t9, t10, t11, t12, t13, t14, t15, t16, t17, v9, (V.lit (Value.bool true)), uu, uu, uu, t23, t24, t25, t26, t27, t28, t29, t30, t31, t32, t33, t34, t35, t36, t37, t38, t39, t40, t41, t42, t43, t44, t45, t46, t47, t48, t49, t50, t51, t52, t53, t54, t55, t56, t57, t58, t59], h10⟩) (
  bp (opLen s.P 43 t1 h10) fun v11 h12 =>
  bm (vBin s.P .gtr 3 v11 (V.lit (Value.int .i64 40))) h12 fun v13 h14 =>
  opsP (xX s 15 wl k false) xg15_0 10 m0 ac (runK (xX s 15 wl k false) (bodyK s.P Try.f15) xk15_0) ⟨[t0, t1, t2, t3, t4, t5, t6, t7, t8, t9, t10, t11, t12, t13, t14, t15, t16, t17, v9, (V.lit (Value.bool false)), t1, v11, v13, t23, t24, t25, t26, t27, t28, t29, t30, t31, t32, t33, t34, t35, t36, t37, t38, t39, t40, t41, t42, t43, t44, t45, t46, t47, t48, t49, t50, t51, t52, t53, t54, t55, t56, t57, t58, t59], h14⟩) (
  opsP (xX s 15 wl k false) xg15_0 8 m0 ac (runK (xX s 15 wl k false) (bodyK s.P Try.f15) xk15_0) ⟨[t0, t1, t2, t3, t4, t5, t6, t7, t8, t9, t10, t11, t12, t13, t14, t15, t16, t17, v9, v9, uu, t21, t22, t23, t24, t25, t26, t27, t28, t29, t30, t31, t32, t33, t34, t35, t36, t37, t38, t39, t40, t41, t42, t43, t44, t45, t46, t47, t48, t49, t50, t51, t52, t53, t54, t55, t56, t57, t58, t59], h10⟩) :=
  (go_op0 rfl rfl (st_bm (by kernel_rfl) fun v9 h10 =>
  (go_op0 rfl rfl (st_id (v := v9) (H := h10) (by kernel_rfl)
  (go_gdF0 rfl rfl rfl (by kernel_rfl)
  (go_skip0 rfl rfl rfl (by kernel_rfl)
  (go_skip0 rfl rfl rfl (by kernel_rfl)
  (by kernel_rfl)))
  (st_id (v := t1) (H := h10) (by kernel_rfl)
  (go_run0 rfl rfl rfl (by kernel_rfl) (st_bp (by kernel_rfl) fun v11 h12 =>
  (go_run0 rfl rfl rfl (by kernel_rfl) (st_bm (by kernel_rfl) fun v13 h14 =>
  (by kernel_rfl))))))
  (by kernel_rfl))))))
theorem xm15_1 (s : Sys) (k wl : Nat) (m0 : Nat) (ac : List Nat × List Nat) (t0 t1 t2 t3 t4 t5 t6 t7 t8 t9 t10 t11 t12 t13 t14 t15 t16 t17 t18 t19 t20 t21 t22 t23 t24 t25 t26 t27 t28 t29 t30 t31 t32 t33 t34 t35 t36 t37 t38 t39 t40 t41 t42 t43 t44 t45 t46 t47 t48 t49 t50 t51 t52 t53 t54 t55 t56 t57 t58 t59 : V) (h : Hp) : opsP (xX s 15 wl k false) xg15_0 10 m0 ac (runK (xX s 15 wl k false) (bodyK s.P Try.f15) xk15_0) ⟨[t0, t1, t2, t3, t4, t5, t6, t7, t8, t9, t10, t11, t12, t13, t14, t15, t16, t17, t18, t19, t20, t21, t22, t23, t24, t25, t26, t27, t28, t29, t30, t31, t32, t33, t34, t35, t36, t37, t38, t39, t40, t41, t42, t43, t44, t45, t46, t47, t48, t49, t50, t51, t52, t53, t54, t55, t56, t57, t58, t59], h⟩ =
  bm (vPick t19 (V.lit (Value.bool true)) t22) h fun v15 h16 =>
  cnd v15 (
  some (t7, h16)) (
  bp (callV (xX s 15 wl k false) false true (.fn (.func 44) [] []) [t0, t1] h16) fun v17 h18 =>
  bm (vBuild s.P 49 []) h18 fun v19 h20 =>
  bm (vBin s.P .eql 49 v17 v19) h20 fun v21 h22 =>
  gd v21 (
  bp (callV (xX s 15 wl k false) false true (.fn (.func 39) [] []) [t0, t1] h22) fun v23 h24 =>
  bp (callV (xX s 15 wl k false) false true (.fn (.func 49) [] []) [v23, t1] h24) fun v25 h26 =>
  opsP (xX s 15 wl k false) xg15_1 11 h16.length ([], []) (runK (xX s 15 wl k false) (bodyK s.P Try.f15) xk15_1) ⟨[t0, t1, t2, t3, t4, t5, t6, t7, t8, t9, t10, t11, t12, t13, t14, t15, t16, t17, t18, t19, t20, t21, t22, v15, t24, t0, t1, v17, v19, v21, (V.lit (Value.bool true)), t0, t1, v23, t1, v25, t36, t37, t38, t39, t40, t41, t42, t43, t44, t45, t46, t47, t48, t49, t50, t51, t52, t53, t54, t55, t56, t57, t58, t59], h26⟩) (
  opsP (xX s 15 wl k false) xg15_1 11 h16.length ([], []) (runK (xX s 15 wl k false) (bodyK s.P Try.f15) xk15_1) ⟨[t0, t1, t2, t3, t4, t5, t6, t7, t8, t9, t10, t11, t12, t13, t14, t15, t16, t17, t18, t19, t20, t21, t22, v15, t24, t0, t1, v17, v19, v21, (V.lit (Value.bool false)), uu, uu, uu, uu, uu, t36, t37, t38, t39, t40, t41, t42, t43, t44, t45, t46, t47, t48, t49, t50, t51, t52, t53, t54, t55, t56, t57, t58, t59], h22⟩) (
  opsP (xX s 15 wl k false) xg15_1 7 h16.length ([], []) (runK (xX s 15 wl k false) (bodyK s.P Try.f15) xk15_1) ⟨[t0, t1, t2, t3, t4, t5, t6, t7, t8, t9, t10, t11, t12, t13, t14, t15, t16, t17, t18, t19, t20, t21, t22, v15, t24, t0, t1, v17, v19, v21, v21, uu, t32, t33, t34, t35, t36, t37, t38, t39, t40, t41, t42, t43, t44, t45, t46, t47, t48, t49, t50, t51, t52, t53, t54, t55, t56, t57, t58, t59], h22⟩)) :=
  (go_op0 rfl rfl (st_bm (by kernel_rfl) fun v15 h16 =>
  (go_end0 (by kernel_rfl)
  (go_cond (by kernel_rfl)
  (go_seq (go_reg0
  (go_op0 rfl rfl (st_id (v := t7) (H := h16) (by kernel_rfl)
  (go_op0 rfl rfl (st_id (v := t7) (H := h16) (by kernel_rfl)
  (go_end0 (by kernel_rfl)
  (go_ret (rt_seq_ret (by kernel_rfl))))))))))
  (go_skip (go_seq (go_reg0
  (go_op0 rfl rfl (st_id (v := t0) (H := h16) (by kernel_rfl)
  (go_op0 rfl rfl (st_id (v := t1) (H := h16) (by kernel_rfl)
  (go_op0 rfl rfl (st_bp (by kernel_rfl) fun v17 h18 =>
  (go_op0 rfl rfl (st_bm (by kernel_rfl) fun v19 h20 =>
  (go_op0 rfl rfl (st_bm (by kernel_rfl) fun v21 h22 =>
  (go_op0 rfl rfl (st_id (v := v21) (H := h22) (by kernel_rfl)
  (go_gdT0 rfl rfl rfl (by kernel_rfl)
  (st_id (v := t0) (H := h22) (by kernel_rfl)
  (go_run0 rfl rfl rfl (by kernel_rfl) (st_id (v := t1) (H := h22) (by kernel_rfl)
  (go_run0 rfl rfl rfl (by kernel_rfl) (st_bp (by kernel_rfl) fun v23 h24 =>
  (go_run0 rfl rfl rfl (by kernel_rfl) (st_id (v := t1) (H := h24) (by kernel_rfl)
  (go_run0 rfl rfl rfl (by kernel_rfl) (st_bp (by kernel_rfl) fun v25 h26 =>
  (by kernel_rfl))))))))))
  (go_skip0 rfl rfl rfl (by kernel_rfl)
  (go_skip0 rfl rfl rfl (by kernel_rfl)
  (go_skip0 rfl rfl rfl (by kernel_rfl)
  (go_skip0 rfl rfl rfl (by kernel_rfl)
  (by kernel_rfl)))))
  (by kernel_rfl)))))))))))))))))))))
theorem xm15_2 (s : Sys) (k wl : Nat) (m0 : Nat) (ac : List Nat × List Nat) (t0 t1 t2 t3 t4 t5 t6 t7 t8 t9 t10 t11 t12 t13 t14 t15 t16 t17 t18 t19 t20 t21 t22 t23 t24 t25 t26 t27 t28 t29 t30 t31 t32 t33 t34 t35 t36 t37 t38 t39 t40 t41 t42 t43 t44 t45 t46 t47 t48 t49 t50 t51 t52 t53 t54 t55 t56 t57 t58 t59 : V) (h : Hp) : opsP (xX s 15 wl k false) xg15_1 11 m0 ac (runK (xX s 15 wl k false) (bodyK s.P Try.f15) xk15_1) ⟨[t0, t1, t2, t3, t4, t5, t6, t7, t8, t9, t10, t11, t12, t13, t14, t15, t16, t17, t18, t19, t20, t21, t22, t23, t24, t25, t26, t27, t28, t29, t30, t31, t32, t33, t34, t35, t36, t37, t38, t39, t40, t41, t42, t43, t44, t45, t46, t47, t48, t49, t50, t51, t52, t53, t54, t55, t56, t57, t58, t59], h⟩ =
  bm (vPick t30 t35 (V.lit (Value.bool false))) h fun v27 h28 =>
  bp (callV (xX s 15 wl k false) false true (.fn (.func 48) [] []) [t0, t1] h28) fun v29 h30 =>
  cnd v29 (
  bp (opLen s.P 43 t1 h30) fun v31 h32 =>
  bm (vBin s.P .eql 3 v31 (V.lit (Value.int .i64 0))) h32 fun v33 h34 =>
  bm (vBin s.P .eql 4 v27 v33) h34 fun v35 h36 =>
  some (v35, h36)) (
  gd v27 (
  bp (callV (xX s 15 wl k false) false true (.fn (.func 46) [] []) [t0, t1] h30) fun v37 h38 =>
  bm (vBin s.P .eql 3 v37 (V.lit (Value.int .i64 0))) h38 fun v39 h40 =>
  opsP (xX s 15 wl k false) xg15_2 6 h30.length ([], []) (runK (xX s 15 wl k false) (bodyK s.P Try.f15) xk15_2) ⟨[t0, t1, t2, t3, t4, t5, t6, t7, t8, v27, t10, t11, t12, t13, t14, t15, t16, t17, t18, t19, t20, t21, t22, t23, t24, t25, t26, t27, t28, t29, t30, t31, t32, t33, t34, t35, v27, t0, t1, v29, t40, t41, t42, t43, t44, v27, (V.lit (Value.bool true)), t0, t1, v37, v39, t51, t52, t53, t54, t55, t56, t57, t58, t59], h40⟩) (
  opsP (xX s 15 wl k false) xg15_2 6 h30.length ([], []) (runK (xX s 15 wl k false) (bodyK s.P Try.f15) xk15_2) ⟨[t0, t1, t2, t3, t4, t5, t6, t7, t8, v27, t10, t11, t12, t13, t14, t15, t16, t17, t18, t19, t20, t21, t22, t23, t24, t25, t26, t27, t28, t29, t30, t31, t32, t33, t34, t35, v27, t0, t1, v29, t40, t41, t42, t43, t44, v27, (V.lit (Value.bool false)), uu, uu, uu, uu, t51, t52, t53, t54, t55, t56, t57, t58, t59], h30⟩) (
  opsP (xX s 15 wl k false) xg15_2 3 h30.length ([], []) (runK (xX s 15 wl k false) (bodyK s.P Try.f15) xk15_2) ⟨[t0, t1, t2, t3, t4, t5, t6, t7, t8, v27, t10, t11, t12, t13, t14, t15, t16, t17, t18, t19, t20, t21, t22, t23, t24, t25, t26, t27, t28, t29, t30, t31, t32, t33, t34, t35, v27, t0, t1, v29, t40, t41, t42, t43, t44, v27, v27, uu, t48, t49, t50, t51, t52, t53, t54, t55, t56, t57, t58, t59], h30⟩)) :=
  (go_op0 rfl rfl (st_bm (by kernel_rfl) fun v27 h28 =>
  (go_op0 rfl rfl (st_id (v := v27) (H := h28) (by kernel_rfl)
  (go_end0 (by kernel_rfl)
  (go_seq (go_seq (go_reg0
  (go_op0 rfl rfl (st_id (v := t0) (H := h28) (by kernel_rfl)
  (go_op0 rfl rfl (st_id (v := t1) (H := h28) (by kernel_rfl)
  (go_op0 rfl rfl (st_bp (by kernel_rfl) fun v29 h30 =>
  (go_end0 (by kernel_rfl)
  (go_cond (by kernel_rfl)
  (go_seq (go_reg0
  (go_op0 rfl rfl (st_id (v := v27) (H := h30) (by kernel_rfl)
  (go_op0 rfl rfl (st_id (v := t1) (H := h30) (by kernel_rfl)
  (go_op0 rfl rfl (st_bp (by kernel_rfl) fun v31 h32 =>
  (go_op0 rfl rfl (st_bm (by kernel_rfl) fun v33 h34 =>
  (go_op0 rfl rfl (st_bm (by kernel_rfl) fun v35 h36 =>
  (go_op0 rfl rfl (st_id (v := v35) (H := h36) (by kernel_rfl)
  (go_end0 (by kernel_rfl)
  (go_ret (rt_seq_ret (by kernel_rfl))))))))))))))))))
  (go_skip (go_seq (go_reg0
  (go_op0 rfl rfl (st_id (v := v27) (H := h30) (by kernel_rfl)
  (go_op0 rfl rfl (st_id (v := v27) (H := h30) (by kernel_rfl)
  (go_gdT0 rfl rfl rfl (by kernel_rfl)
  (st_id (v := t0) (H := h30) (by kernel_rfl)
  (go_run0 rfl rfl rfl (by kernel_rfl) (st_id (v := t1) (H := h30) (by kernel_rfl)
  (go_run0 rfl rfl rfl (by kernel_rfl) (st_bp (by kernel_rfl) fun v37 h38 =>
  (go_run0 rfl rfl rfl (by kernel_rfl) (st_bm (by kernel_rfl) fun v39 h40 =>
  (by kernel_rfl))))))))
  (go_skip0 rfl rfl rfl (by kernel_rfl)
  (go_skip0 rfl rfl rfl (by kernel_rfl)
  (go_skip0 rfl rfl rfl (by kernel_rfl)
  (by kernel_rfl))))
  (by kernel_rfl)))))))))))))))))))))))))
theorem xm15_3 (s : Sys) (k wl : Nat) (m0 : Nat) (ac : List Nat × List Nat) (t0 t1 t2 t3 t4 t5 t6 t7 t8 t9 t10 t11 t12 t13 t14 t15 t16 t17 t18 t19 t20 t21 t22 t23 t24 t25 t26 t27 t28 t29 t30 t31 t32 t33 t34 t35 t36 t37 t38 t39 t40 t41 t42 t43 t44 t45 t46 t47 t48 t49 t50 t51 t52 t53 t54 t55 t56 t57 t58 t59 : V) (h : Hp) : opsP (xX s 15 wl k false) xg15_2 6 m0 ac (runK (xX s 15 wl k false) (bodyK s.P Try.f15) xk15_2) ⟨[t0, t1, t2, t3, t4, t5, t6, t7, t8, t9, t10, t11, t12, t13, t14, t15, t16, t17, t18, t19, t20, t21, t22, t23, t24, t25, t26, t27, t28, t29, t30, t31, t32, t33, t34, t35, t36, t37, t38, t39, t40, t41, t42, t43, t44, t45, t46, t47, t48, t49, t50, t51, t52, t53, t54, t55, t56, t57, t58, t59], h⟩ =
  bm (vPick t46 t50 (V.lit (Value.bool false))) h fun v41 h42 =>
  gd v41 (
  bp (callV (xX s 15 wl k false) false true (.fn (.func 41) [] []) [t0, t1, t2] h42) fun v43 h44 =>
  bp (callV (xX s 15 wl k false) false true (.fn (.func 49) [] []) [v43, t1] h44) fun v45 h46 =>
  opsP (xX s 15 wl k false) xg15_2 14 m0 ac (runK (xX s 15 wl k false) (bodyK s.P Try.f15) xk15_2) ⟨[t0, t1, t2, t3, t4, t5, t6, t7, t8, t9, t10, t11, t12, t13, t14, t15, t16, t17, t18, t19, t20, t21, t22, t23, t24, t25, t26, t27, t28, t29, t30, t31, t32, t33, t34, t35, t36, t37, t38, t39, t40, t41, t42, t43, t44, t45, t46, t47, t48, t49, t50, v41, (V.lit (Value.bool true)), t0, t1, t2, v43, t1, v45, t59], h46⟩) (
  opsP (xX s 15 wl k false) xg15_2 14 m0 ac (runK (xX s 15 wl k false) (bodyK s.P Try.f15) xk15_2) ⟨[t0, t1, t2, t3, t4, t5, t6, t7, t8, t9, t10, t11, t12, t13, t14, t15, t16, t17, t18, t19, t20, t21, t22, t23, t24, t25, t26, t27, t28, t29, t30, t31, t32, t33, t34, t35, t36, t37, t38, t39, t40, t41, t42, t43, t44, t45, t46, t47, t48, t49, t50, v41, (V.lit (Value.bool false)), uu, uu, uu, uu, uu, uu, t59], h42⟩) (
  opsP (xX s 15 wl k false) xg15_2 9 m0 ac (runK (xX s 15 wl k false) (bodyK s.P Try.f15) xk15_2) ⟨[t0, t1, t2, t3, t4, t5, t6, t7, t8, t9, t10, t11, t12, t13, t14, t15, t16, t17, t18, t19, t20, t21, t22, t23, t24, t25, t26, t27, t28, t29, t30, t31, t32, t33, t34, t35, t36, t37, t38, t39, t40, t41, t42, t43, t44, t45, t46, t47, t48, t49, t50, v41, v41, uu, t54, t55, t56, t57, t58, t59], h42⟩) :=
  (go_op0 rfl rfl (st_bm (by kernel_rfl) fun v41 h42 =>
  (go_op0 rfl rfl (st_id (v := v41) (H := h42) (by kernel_rfl)
  (go_gdT0 rfl rfl rfl (by kernel_rfl)
  (st_id (v := t0) (H := h42) (by kernel_rfl)
  (go_run0 rfl rfl rfl (by kernel_rfl) (st_id (v := t1) (H := h42) (by kernel_rfl)
  (go_run0 rfl rfl rfl (by kernel_rfl) (st_id (v := t2) (H := h42) (by kernel_rfl)
  (go_run0 rfl rfl rfl (by kernel_rfl) (st_bp (by kernel_rfl) fun v43 h44 =>
  (go_run0 rfl rfl rfl (by kernel_rfl) (st_id (v := t1) (H := h44) (by kernel_rfl)
  (go_run0 rfl rfl rfl (by kernel_rfl) (st_bp (by kernel_rfl) fun v45 h46 =>
  (by kernel_rfl))))))))))))
  (go_skip0 rfl rfl rfl (by kernel_rfl)
  (go_skip0 rfl rfl rfl (by kernel_rfl)
  (go_skip0 rfl rfl rfl (by kernel_rfl)
  (go_skip0 rfl rfl rfl (by kernel_rfl)
  (go_skip0 rfl rfl rfl (by kernel_rfl)
  (by kernel_rfl))))))
  (by kernel_rfl))))))
theorem xm15_4 (s : Sys) (k wl : Nat) (m0 : Nat) (ac : List Nat × List Nat) (t0 t1 t2 t3 t4 t5 t6 t7 t8 t9 t10 t11 t12 t13 t14 t15 t16 t17 t18 t19 t20 t21 t22 t23 t24 t25 t26 t27 t28 t29 t30 t31 t32 t33 t34 t35 t36 t37 t38 t39 t40 t41 t42 t43 t44 t45 t46 t47 t48 t49 t50 t51 t52 t53 t54 t55 t56 t57 t58 t59 : V) (h : Hp) : opsP (xX s 15 wl k false) xg15_2 14 m0 ac (runK (xX s 15 wl k false) (bodyK s.P Try.f15) xk15_2) ⟨[t0, t1, t2, t3, t4, t5, t6, t7, t8, t9, t10, t11, t12, t13, t14, t15, t16, t17, t18, t19, t20, t21, t22, t23, t24, t25, t26, t27, t28, t29, t30, t31, t32, t33, t34, t35, t36, t37, t38, t39, t40, t41, t42, t43, t44, t45, t46, t47, t48, t49, t50, t51, t52, t53, t54, t55, t56, t57, t58, t59], h⟩ =
  bm (vPick t52 t58 (V.lit (Value.bool false))) h fun v47 h48 =>
  some (v47, h48) :=
  (go_op0 rfl rfl (st_bm (by kernel_rfl) fun v47 h48 =>
  (go_op0 rfl rfl (st_id (v := v47) (H := h48) (by kernel_rfl)
  (go_end0 (by kernel_rfl)
  (go_ret (by kernel_rfl)))))))
theorem xk15_0_ret (cx : Cx) (K : Out → St → Option (V × Hp)) (s : St) : runK cx K xk15_0 .ret s = K .ret s := by kernel_rfl
theorem xk15_1_ret (cx : Cx) (K : Out → St → Option (V × Hp)) (s : St) : runK cx K xk15_1 .ret s = K .ret s := by kernel_rfl
theorem xk15_2_ret (cx : Cx) (K : Out → St → Option (V × Hp)) (s : St) : runK cx K xk15_2 .ret s = K .ret s := by kernel_rfl
-- names: xb15, xm15_0, xm15_1, xm15_2, xm15_3, xm15_4, xk15_0_ret, xk15_1_ret, xk15_2_ret
end Go.Ab
