/- The program's code, point by point: printed by gen.py. -/
import Derived.Test.YtecgfaaaloameaaR1Seat
set_option maxRecDepth 100000
set_option linter.unusedVariables false
namespace Go.Ab
open Go.Proofs
/-! 8 poacher/poacherlaw21.ModelWho: 0 t, 1 s, 2 e, 3 who, 4 t, 5 s, 6 e, 7 who, 9 up, 10 one, 11 a, 12 is, 13 f, 14 b, 15 can, 16 same -/
noncomputable def xg8_0 : Code := codeAt (bodyOf Try.f8) [1, 1, 1, 0, 0]
noncomputable def xk8_0 : List Fr := [.seq (codeAt (bodyOf Try.f8) [1, 1, 1, 0, 1]), .seq (codeAt (bodyOf Try.f8) [1, 1, 1, 1])]
noncomputable def xg8_1 : Code := codeAt (bodyOf Try.f8) [1, 1, 1, 1, 1, 1, 1, 1, 1, 0]
noncomputable def xk8_1 : List Fr := [.seq (codeAt (bodyOf Try.f8) [1, 1, 1, 1, 1, 1, 1, 1, 1, 1])]
theorem xb8 (s : Sys) (k wl : Nat) (t0 t1 t2 t3 : V) (h : Hp) : bodyV (xX s 8 wl k false) Try.f8 [t0, t1, t2, t3] h =
  bp (opBox t2 h) fun v1 h2 =>
  bp (callV (xX s 8 wl k false) false true (.fn (.func 23) [] []) [] h2) fun v3 h4 =>
  bp (callV (xX s 8 wl k false) false true (.fn (.func 24) [] []) [t0] h4) fun v5 h6 =>
  bm (vUn .not v3) h6 fun v7 h8 =>
  gd v7 (
  opsP (xX s 8 wl k false) xg8_0 5 h6.length ([], []) (runK (xX s 8 wl k false) (bodyK s.P Try.f8) xk8_0) ⟨[t0, t1, t2, t3, uu, uu, v1, uu, (V.lit (Value.bool false)), v3, v5, uu, uu, uu, uu, uu, uu, v3, t0, v5, v3, v7, (V.lit (Value.bool true)), uu, uu, uu, uu, uu, uu, uu, uu, uu, uu, uu, uu, uu, uu, uu, uu, uu, uu, uu, uu, uu, uu, uu, uu, uu, uu, uu, uu, uu, uu, uu, uu, uu, uu, uu], h8⟩) (
  bm (vUn .not v5) h8 fun v9 h10 =>
  opsP (xX s 8 wl k false) xg8_0 5 h6.length ([], []) (runK (xX s 8 wl k false) (bodyK s.P Try.f8) xk8_0) ⟨[t0, t1, t2, t3, uu, uu, v1, uu, (V.lit (Value.bool false)), v3, v5, uu, uu, uu, uu, uu, uu, v3, t0, v5, v3, v7, (V.lit (Value.bool false)), v5, v9, uu, uu, uu, uu, uu, uu, uu, uu, uu, uu, uu, uu, uu, uu, uu, uu, uu, uu, uu, uu, uu, uu, uu, uu, uu, uu, uu, uu, uu, uu, uu, uu, uu], h10⟩) (
  opsP (xX s 8 wl k false) xg8_0 4 h6.length ([], []) (runK (xX s 8 wl k false) (bodyK s.P Try.f8) xk8_0) ⟨[t0, t1, t2, t3, uu, uu, v1, uu, (V.lit (Value.bool false)), v3, v5, uu, uu, uu, uu, uu, uu, v3, t0, v5, v3, v7, v7, uu, uu, uu, uu, uu, uu, uu, uu, uu, uu, uu, uu, uu, uu, uu, uu, uu, uu, uu, uu, uu, uu, uu, uu, uu, uu, uu, uu, uu, uu, uu, uu, uu, uu, uu], h8⟩) :=
  bodyV_run rfl (go_seq (go_reg0
  (go_op0 rfl rfl (st_bp (by kernel_rfl) fun v1 h2 =>
  (go_op0 rfl rfl (st_id (v := (V.lit (Value.bool false))) (H := h2) (by kernel_rfl)
  (go_end0 (by kernel_rfl)
  (go_seq (go_reg0
  (go_op0 rfl rfl (st_bp (by kernel_rfl) fun v3 h4 =>
  (go_op0 rfl rfl (st_id (v := v3) (H := h4) (by kernel_rfl)
  (go_end0 (by kernel_rfl)
  (go_seq (go_reg0
  (go_op0 rfl rfl (st_id (v := t0) (H := h4) (by kernel_rfl)
  (go_op0 rfl rfl (st_bp (by kernel_rfl) fun v5 h6 =>
  (go_op0 rfl rfl (st_id (v := v5) (H := h6) (by kernel_rfl)
  (go_end0 (by kernel_rfl)
  (go_seq (go_seq (go_reg0
  (go_op0 rfl rfl (st_id (v := v3) (H := h6) (by kernel_rfl)
  (go_op0 rfl rfl (st_bm (by kernel_rfl) fun v7 h8 =>
  (go_op0 rfl rfl (st_id (v := v7) (H := h8) (by kernel_rfl)
  (go_gdF0 rfl rfl rfl (by kernel_rfl)
  (go_skip0 rfl rfl rfl (by kernel_rfl)
  (by kernel_rfl))
  (st_id (v := v5) (H := h8) (by kernel_rfl)
  (go_run0 rfl rfl rfl (by kernel_rfl) (st_bm (by kernel_rfl) fun v9 h10 =>
  (by kernel_rfl))))
  (by kernel_rfl))))))))))))))))))))))))))))))))))
theorem xe8 (k wl : Nat) (t0 t1 t2 t3 : V) (h : Hp) : evF Try.prog xM (k + 1) wl 8 [t0, t1, t2, t3] h = bodyV (xX (xS k) 8 wl k false) Try.f8 [t0, t1, t2, t3] h := by kernel_rfl
theorem xm8_0 (s : Sys) (k wl : Nat) (m0 : Nat) (ac : List Nat × List Nat) (t0 t1 t2 t3 t4 t5 t6 t7 t8 t9 t10 t11 t12 t13 t14 t15 t16 t17 t18 t19 t20 t21 t22 t23 t24 t25 t26 t27 t28 t29 t30 t31 t32 t33 t34 t35 t36 t37 t38 t39 t40 t41 t42 t43 t44 t45 t46 t47 t48 t49 t50 t51 t52 t53 t54 t55 t56 t57 : V) (h : Hp) : opsP (xX s 8 wl k false) xg8_0 5 m0 ac (runK (xX s 8 wl k false) (bodyK s.P Try.f8) xk8_0) ⟨[t0, t1, t2, t3, t4, t5, t6, t7, t8, t9, t10, t11, t12, t13, t14, t15, t16, t17, t18, t19, t20, t21, t22, t23, t24, t25, t26, t27, t28, t29, t30, t31, t32, t33, t34, t35, t36, t37, t38, t39, t40, t41, t42, t43, t44, t45, t46, t47, t48, t49, t50, t51, t52, t53, t54, t55, t56, t57], h⟩ =
  bm (vPick t22 (V.lit (Value.bool true)) t24) h fun v11 h12 =>
  gd v11 (
  opsP (xX s 8 wl k false) xg8_0 10 m0 ac (runK (xX s 8 wl k false) (bodyK s.P Try.f8) xk8_0) ⟨[t0, t1, t2, t3, t4, t5, t6, t7, t8, t9, t10, t11, t12, t13, t14, t15, t16, t17, t18, t19, t20, t21, t22, t23, t24, v11, (V.lit (Value.bool true)), uu, uu, uu, t30, t31, t32, t33, t34, t35, t36, t37, t38, t39, t40, t41, t42, t43, t44, t45, t46, t47, t48, t49, t50, t51, t52, t53, t54, t55, t56, t57], h12⟩) (
  bp (opLen s.P 23 t1 h12) fun v13 h14 =>
  bm (vBin s.P .gtr 3 v13 (V.lit (Value.int .i64 60))) h14 fun v15 h16 =>
  opsP (xX s 8 wl k false) xg8_0 10 m0 ac (runK (xX s 8 wl k false) (bodyK s.P Try.f8) xk8_0) ⟨[t0, t1, t2, t3, t4, t5, t6, t7, t8, t9, t10, t11, t12, t13, t14, t15, t16, t17, t18, t19, t20, t21, t22, t23, t24, v11, (V.lit (Value.bool false)), t1, v13, v15, t30, t31, t32, t33, t34, t35, t36, t37, t38, t39, t40, t41, t42, t43, t44, t45, t46, t47, t48, t49, t50, t51, t52, t53, t54, t55, t56, t57], h16⟩) (
  opsP (xX s 8 wl k false) xg8_0 8 m0 ac (runK (xX s 8 wl k false) (bodyK s.P Try.f8) xk8_0) ⟨[t0, t1, t2, t3, t4, t5, t6, t7, t8, t9, t10, t11, t12, t13, t14, t15, t16, t17, t18, t19, t20, t21, t22, t23, t24, v11, v11, uu, t28, t29, t30, t31, t32, t33, t34, t35, t36, t37, t38, t39, t40, t41, t42, t43, t44, t45, t46, t47, t48, t49, t50, t51, t52, t53, t54, t55, t56, t57], h12⟩) :=
  (go_op0 rfl rfl (st_bm (by kernel_rfl) fun v11 h12 =>
  (go_op0 rfl rfl (st_id (v := v11) (H := h12) (by kernel_rfl)
  (go_gdF0 rfl rfl rfl (by kernel_rfl)
  (go_skip0 rfl rfl rfl (by kernel_rfl)
  (go_skip0 rfl rfl rfl (by kernel_rfl)
  (by kernel_rfl)))
  (st_id (v := t1) (H := h12) (by kernel_rfl)
  (go_run0 rfl rfl rfl (by kernel_rfl) (st_bp (by kernel_rfl) fun v13 h14 =>
  (go_run0 rfl rfl rfl (by kernel_rfl) (st_bm (by kernel_rfl) fun v15 h16 =>
  (by kernel_rfl))))))
  (by kernel_rfl))))))
theorem xm8_1 (s : Sys) (k wl : Nat) (m0 : Nat) (ac : List Nat × List Nat) (t0 t1 t2 t3 t4 t5 t6 t7 t8 t9 t10 t11 t12 t13 t14 t15 t16 t17 t18 t19 t20 t21 t22 t23 t24 t25 t26 t27 t28 t29 t30 t31 t32 t33 t34 t35 t36 t37 t38 t39 t40 t41 t42 t43 t44 t45 t46 t47 t48 t49 t50 t51 t52 t53 t54 t55 t56 t57 : V) (h : Hp) : opsP (xX s 8 wl k false) xg8_0 10 m0 ac (runK (xX s 8 wl k false) (bodyK s.P Try.f8) xk8_0) ⟨[t0, t1, t2, t3, t4, t5, t6, t7, t8, t9, t10, t11, t12, t13, t14, t15, t16, t17, t18, t19, t20, t21, t22, t23, t24, t25, t26, t27, t28, t29, t30, t31, t32, t33, t34, t35, t36, t37, t38, t39, t40, t41, t42, t43, t44, t45, t46, t47, t48, t49, t50, t51, t52, t53, t54, t55, t56, t57], h⟩ =
  bm (vPick t26 (V.lit (Value.bool true)) t29) h fun v17 h18 =>
  cnd v17 (
  some (t9, h18)) (
  bm (vLoad s.P 25 t6 h18) h18 fun v19 h20 =>
  bp (callV (xX s 8 wl k false) false true (.fn (.func 25) [] []) [t0, t1, v19] h20) fun v21 h22 =>
  bm (vExtract v21 0) h22 fun v23 h24 =>
  bm (vExtract v21 1) h24 fun v25 h26 =>
  bm (vLoad s.P 25 t6 h26) h26 fun v27 h28 =>
  bp (opAlloc s.P 25 h28) fun v29 h30 =>
  bs (vStore s.P wl 25 v29 v27 h30) fun h31 =>
  bm (vFieldAddr s.P 25 v29 2) h31 fun v32 h33 =>
  bs (vStore s.P wl 3 v32 t3 h33) fun h34 =>
  bm (vLoad s.P 25 v29 h34) h34 fun v35 h36 =>
  bp (callV (xX s 8 wl k false) false true (.fn (.func 25) [] []) [t0, t1, v35] h36) fun v37 h38 =>
  bm (vExtract v37 0) h38 fun v39 h40 =>
  bm (vExtract v37 1) h40 fun v41 h42 =>
  bp (callV (xX s 8 wl k false) false true (.fn (.func 27) [] []) [v23, v39] h42) fun v43 h44 =>
  gd v43 (
  bm (vBin s.P .eql 4 v25 v41) h44 fun v45 h46 =>
  opsP (xX s 8 wl k false) xg8_1 5 h44.length ([], []) (runK (xX s 8 wl k false) (bodyK s.P Try.f8) xk8_1) ⟨[t0, t1, t2, t3, t4, t5, t6, t7, t8, t9, t10, v23, v25, v29, v39, v41, v43, t17, t18, t19, t20, t21, t22, t23, t24, t25, t26, t27, t28, t29, v17, t31, v21, t0, t1, v19, v21, v23, v25, v27, t3, v32, v37, t0, t1, v35, v37, v39, v41, v23, v39, v43, v43, (V.lit (Value.bool true)), v25, v41, v45, t57], h46⟩) (
  opsP (xX s 8 wl k false) xg8_1 5 h44.length ([], []) (runK (xX s 8 wl k false) (bodyK s.P Try.f8) xk8_1) ⟨[t0, t1, t2, t3, t4, t5, t6, t7, t8, t9, t10, v23, v25, v29, v39, v41, v43, t17, t18, t19, t20, t21, t22, t23, t24, t25, t26, t27, t28, t29, v17, t31, v21, t0, t1, v19, v21, v23, v25, v27, t3, v32, v37, t0, t1, v35, v37, v39, v41, v23, v39, v43, v43, (V.lit (Value.bool false)), uu, uu, uu, t57], h44⟩) (
  opsP (xX s 8 wl k false) xg8_1 3 h44.length ([], []) (runK (xX s 8 wl k false) (bodyK s.P Try.f8) xk8_1) ⟨[t0, t1, t2, t3, t4, t5, t6, t7, t8, t9, t10, v23, v25, v29, v39, v41, v43, t17, t18, t19, t20, t21, t22, t23, t24, t25, t26, t27, t28, t29, v17, t31, v21, t0, t1, v19, v21, v23, v25, v27, t3, v32, v37, t0, t1, v35, v37, v39, v41, v23, v39, v43, v43, v43, uu, t55, t56, t57], h44⟩)) :=
  (go_op0 rfl rfl (st_bm (by kernel_rfl) fun v17 h18 =>
  (go_end0 (by kernel_rfl)
  (go_cond (by kernel_rfl)
  (go_seq (go_reg0
  (go_op0 rfl rfl (st_id (v := t9) (H := h18) (by kernel_rfl)
  (go_op0 rfl rfl (st_id (v := t9) (H := h18) (by kernel_rfl)
  (go_end0 (by kernel_rfl)
  (go_ret (rt_seq_ret (by kernel_rfl))))))))))
  (go_skip (go_seq (go_reg0
  (go_op0 rfl rfl (st_id (v := t0) (H := h18) (by kernel_rfl)
  (go_op0 rfl rfl (st_id (v := t1) (H := h18) (by kernel_rfl)
  (go_op0 rfl rfl (st_bm (by kernel_rfl) fun v19 h20 =>
  (go_op0 rfl rfl (st_bp (by kernel_rfl) fun v21 h22 =>
  (go_op0 rfl rfl (st_id (v := v21) (H := h22) (by kernel_rfl)
  (go_op0 rfl rfl (st_bm (by kernel_rfl) fun v23 h24 =>
  (go_op0 rfl rfl (st_bm (by kernel_rfl) fun v25 h26 =>
  (go_op0 rfl rfl (st_id (v := v23) (H := h26) (by kernel_rfl)
  (go_op0 rfl rfl (st_id (v := v25) (H := h26) (by kernel_rfl)
  (go_end0 (by kernel_rfl)
  (go_seq (go_reg0
  (go_op0 rfl rfl (st_bm (by kernel_rfl) fun v27 h28 =>
  (go_op0 rfl rfl (st_bp (by kernel_rfl) fun v29 h30 =>
  (go_op0 rfl rfl (st_bs (by kernel_rfl) fun h31 =>
  (go_end0 (by kernel_rfl)
  (go_seq (go_reg0
  (go_op0 rfl rfl (st_id (v := t3) (H := h31) (by kernel_rfl)
  (go_op0 rfl rfl (st_bm (by kernel_rfl) fun v32 h33 =>
  (go_op0 rfl rfl (st_bs (by kernel_rfl) fun h34 =>
  (go_end0 (by kernel_rfl)
  (go_seq (go_reg0
  (go_op0 rfl rfl (st_id (v := t0) (H := h34) (by kernel_rfl)
  (go_op0 rfl rfl (st_id (v := t1) (H := h34) (by kernel_rfl)
  (go_op0 rfl rfl (st_bm (by kernel_rfl) fun v35 h36 =>
  (go_op0 rfl rfl (st_bp (by kernel_rfl) fun v37 h38 =>
  (go_op0 rfl rfl (st_id (v := v37) (H := h38) (by kernel_rfl)
  (go_op0 rfl rfl (st_bm (by kernel_rfl) fun v39 h40 =>
  (go_op0 rfl rfl (st_bm (by kernel_rfl) fun v41 h42 =>
  (go_op0 rfl rfl (st_id (v := v39) (H := h42) (by kernel_rfl)
  (go_op0 rfl rfl (st_id (v := v41) (H := h42) (by kernel_rfl)
  (go_end0 (by kernel_rfl)
  (go_seq (go_reg0
  (go_op0 rfl rfl (st_id (v := v23) (H := h42) (by kernel_rfl)
  (go_op0 rfl rfl (st_id (v := v39) (H := h42) (by kernel_rfl)
  (go_op0 rfl rfl (st_bp (by kernel_rfl) fun v43 h44 =>
  (go_op0 rfl rfl (st_id (v := v43) (H := h44) (by kernel_rfl)
  (go_end0 (by kernel_rfl)
  (go_seq (go_reg0
  (go_op0 rfl rfl (st_id (v := v43) (H := h44) (by kernel_rfl)
  (go_op0 rfl rfl (st_id (v := v43) (H := h44) (by kernel_rfl)
  (go_gdT0 rfl rfl rfl (by kernel_rfl)
  (st_id (v := v25) (H := h44) (by kernel_rfl)
  (go_run0 rfl rfl rfl (by kernel_rfl) (st_id (v := v41) (H := h44) (by kernel_rfl)
  (go_run0 rfl rfl rfl (by kernel_rfl) (st_bm (by kernel_rfl) fun v45 h46 =>
  (by kernel_rfl))))))
  (go_skip0 rfl rfl rfl (by kernel_rfl)
  (go_skip0 rfl rfl rfl (by kernel_rfl)
  (by kernel_rfl)))
  (by kernel_rfl))))))))))))))))))))))))))))))))))))))))))))))))))))))))))))))))))))))))))))))))))))
theorem xm8_2 (s : Sys) (k wl : Nat) (m0 : Nat) (ac : List Nat × List Nat) (t0 t1 t2 t3 t4 t5 t6 t7 t8 t9 t10 t11 t12 t13 t14 t15 t16 t17 t18 t19 t20 t21 t22 t23 t24 t25 t26 t27 t28 t29 t30 t31 t32 t33 t34 t35 t36 t37 t38 t39 t40 t41 t42 t43 t44 t45 t46 t47 t48 t49 t50 t51 t52 t53 t54 t55 t56 t57 : V) (h : Hp) : opsP (xX s 8 wl k false) xg8_1 5 m0 ac (runK (xX s 8 wl k false) (bodyK s.P Try.f8) xk8_1) ⟨[t0, t1, t2, t3, t4, t5, t6, t7, t8, t9, t10, t11, t12, t13, t14, t15, t16, t17, t18, t19, t20, t21, t22, t23, t24, t25, t26, t27, t28, t29, t30, t31, t32, t33, t34, t35, t36, t37, t38, t39, t40, t41, t42, t43, t44, t45, t46, t47, t48, t49, t50, t51, t52, t53, t54, t55, t56, t57], h⟩ =
  bm (vPick t53 t56 (V.lit (Value.bool false))) h fun v47 h48 =>
  some (v47, h48) :=
  (go_op0 rfl rfl (st_bm (by kernel_rfl) fun v47 h48 =>
  (go_op0 rfl rfl (st_id (v := v47) (H := h48) (by kernel_rfl)
  (go_end0 (by kernel_rfl)
  (go_ret (by kernel_rfl)))))))
theorem xk8_0_ret (cx : Cx) (K : Out → St → Option (V × Hp)) (s : St) : runK cx K xk8_0 .ret s = K .ret s := by kernel_rfl
theorem xk8_1_ret (cx : Cx) (K : Out → St → Option (V × Hp)) (s : St) : runK cx K xk8_1 .ret s = K .ret s := by kernel_rfl
-- names: xb8, xm8_0, xm8_1, xm8_2, xk8_0_ret, xk8_1_ret
end Go.Ab
