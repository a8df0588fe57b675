/- The program's code, point by point: printed by gen.py. -/
import Derived.Test.YtecgfaaaloameaaR1Seat
set_option maxRecDepth 100000
set_option linter.unusedVariables false
namespace Go.Ab
open Go.Proofs
/-! 26 poacher/poacherref21.Step: 0 t, 1 s, 2 e, 3 t, 4 s, 5 e, 8 fit, 9 calm, 10 n, 11 out -/
noncomputable def xg26_0 : Code := codeAt (bodyOf Try.f26) [1, 1, 1, 1, 1, 0, 0]
noncomputable def xk26_0 : List Fr := [.seq (codeAt (bodyOf Try.f26) [1, 1, 1, 1, 1, 0, 1]), .seq (codeAt (bodyOf Try.f26) [1, 1, 1, 1, 1, 1])]
theorem xb26 (s : Sys) (k wl : Nat) (t0 t1 t2 : V) (h : Hp) : bodyV (xX s 26 wl k false) Try.f26 [t0, t1, t2] h =
  bp (opBox t2 h) fun v1 h2 =>
  bp (some (.own h2.length 0 0, h2 ++ [.rows 0 [] 0 true])) fun v3 h4 =>
  bp (callV (xX s 26 wl k false) false true (.fn (.func 65) [] []) [t0, t1] h4) fun v5 h6 =>
  bp (callV (xX s 26 wl k false) false true (.fn (.func 33) [] []) [t1] h6) fun v7 h8 =>
  bm (vUn .not v5) h8 fun v9 h10 =>
  cnd v9 (
  some (.tup [t1, (V.lit (Value.bool false))], h10)) (
  bm (vFieldAddr s.P 25 v1 0) h10 fun v11 h12 =>
  bm (vLoad s.P 3 v11 h12) h12 fun v13 h14 =>
  bm (vBin s.P .eql 3 v13 (V.lit (Value.int .i64 5))) h14 fun v15 h16 =>
  cnd v15 (
  some (.tup [t1, v7], h16)) (
  bm (vFieldAddr s.P 25 v1 1) h16 fun v17 h18 =>
  bm (vLoad s.P 3 v17 h18) h18 fun v19 h20 =>
  bm (vBin s.P .lss 3 v19 (V.lit (Value.int .i64 0))) h20 fun v21 h22 =>
  gd v21 (
  opsP (xX s 26 wl k false) xg26_0 9 h16.length ([], []) (runK (xX s 26 wl k false) (bodyK s.P Try.f26) xk26_0) ⟨[t0, t1, t2, uu, uu, v1, v3, (V.lit (Value.bool false)), v5, v7, uu, uu, t0, t1, v5, t1, v7, v5, v9, uu, v11, v13, v15, uu, uu, v17, v19, v21, (V.lit (Value.bool true)), uu, uu, uu, uu, uu, uu, uu, uu, uu, uu, uu, uu, uu, uu, uu, uu, uu, uu, uu, uu, uu, uu], h22⟩) (
  bm (vFieldAddr s.P 25 v1 1) h22 fun v23 h24 =>
  bm (vLoad s.P 3 v23 h24) h24 fun v25 h26 =>
  bp (opLen s.P 22 t0 h26) fun v27 h28 =>
  bm (vBin s.P .geq 3 v25 v27) h28 fun v29 h30 =>
  opsP (xX s 26 wl k false) xg26_0 9 h16.length ([], []) (runK (xX s 26 wl k false) (bodyK s.P Try.f26) xk26_0) ⟨[t0, t1, t2, uu, uu, v1, v3, (V.lit (Value.bool false)), v5, v7, uu, uu, t0, t1, v5, t1, v7, v5, v9, uu, v11, v13, v15, uu, uu, v17, v19, v21, (V.lit (Value.bool false)), v23, v25, t0, v27, v29, uu, uu, uu, uu, uu, uu, uu, uu, uu, uu, uu, uu, uu, uu, uu, uu, uu], h30⟩) (
  opsP (xX s 26 wl k false) xg26_0 5 h16.length ([], []) (runK (xX s 26 wl k false) (bodyK s.P Try.f26) xk26_0) ⟨[t0, t1, t2, uu, uu, v1, v3, (V.lit (Value.bool false)), v5, v7, uu, uu, t0, t1, v5, t1, v7, v5, v9, uu, v11, v13, v15, uu, uu, v17, v19, v21, v21, uu, uu, uu, uu, uu, uu, uu, uu, uu, uu, uu, uu, uu, uu, uu, uu, uu, uu, uu, uu, uu, uu], h22⟩))) :=
  bodyV_run rfl (go_seq (go_reg0
  (go_op0 rfl rfl (st_bp (by kernel_rfl) fun v1 h2 =>
  (go_op0 rfl rfl (st_bp (by kernel_rfl) fun v3 h4 =>
  (go_op0 rfl rfl (st_id (v := (V.lit (Value.bool false))) (H := h4) (by kernel_rfl)
  (go_end0 (by kernel_rfl)
  (go_seq (go_reg0
  (go_op0 rfl rfl (st_id (v := t0) (H := h4) (by kernel_rfl)
  (go_op0 rfl rfl (st_id (v := t1) (H := h4) (by kernel_rfl)
  (go_op0 rfl rfl (st_bp (by kernel_rfl) fun v5 h6 =>
  (go_op0 rfl rfl (st_id (v := v5) (H := h6) (by kernel_rfl)
  (go_end0 (by kernel_rfl)
  (go_seq (go_reg0
  (go_op0 rfl rfl (st_id (v := t1) (H := h6) (by kernel_rfl)
  (go_op0 rfl rfl (st_bp (by kernel_rfl) fun v7 h8 =>
  (go_op0 rfl rfl (st_id (v := v7) (H := h8) (by kernel_rfl)
  (go_end0 (by kernel_rfl)
  (go_seq (go_seq (go_reg0
  (go_op0 rfl rfl (st_id (v := v5) (H := h8) (by kernel_rfl)
  (go_op0 rfl rfl (st_bm (by kernel_rfl) fun v9 h10 =>
  (go_end0 (by kernel_rfl)
  (go_cond (by kernel_rfl)
  (go_seq (go_reg0
  (go_op0 rfl rfl (st_id (v := t1) (H := h10) (by kernel_rfl)
  (go_op0 rfl rfl (st_id (v := t1) (H := h10) (by kernel_rfl)
  (go_op0 rfl rfl (st_id (v := (V.lit (Value.bool false))) (H := h10) (by kernel_rfl)
  (go_end0 (by kernel_rfl)
  (go_ret (rt_seq_ret (by kernel_rfl))))))))))))
  (go_skip (go_seq (go_seq (go_reg0
  (go_op0 rfl rfl (st_bm (by kernel_rfl) fun v11 h12 =>
  (go_op0 rfl rfl (st_bm (by kernel_rfl) fun v13 h14 =>
  (go_op0 rfl rfl (st_bm (by kernel_rfl) fun v15 h16 =>
  (go_end0 (by kernel_rfl)
  (go_cond (by kernel_rfl)
  (go_seq (go_reg0
  (go_op0 rfl rfl (st_id (v := t1) (H := h16) (by kernel_rfl)
  (go_op0 rfl rfl (st_id (v := v7) (H := h16) (by kernel_rfl)
  (go_op0 rfl rfl (st_id (v := t1) (H := h16) (by kernel_rfl)
  (go_op0 rfl rfl (st_id (v := v7) (H := h16) (by kernel_rfl)
  (go_end0 (by kernel_rfl)
  (go_ret (rt_seq_ret (by kernel_rfl))))))))))))))
  (go_skip (go_seq (go_seq (go_reg0
  (go_op0 rfl rfl (st_bm (by kernel_rfl) fun v17 h18 =>
  (go_op0 rfl rfl (st_bm (by kernel_rfl) fun v19 h20 =>
  (go_op0 rfl rfl (st_bm (by kernel_rfl) fun v21 h22 =>
  (go_op0 rfl rfl (st_id (v := v21) (H := h22) (by kernel_rfl)
  (go_gdF0 rfl rfl rfl (by kernel_rfl)
  (go_skip0 rfl rfl rfl (by kernel_rfl)
  (go_skip0 rfl rfl rfl (by kernel_rfl)
  (go_skip0 rfl rfl rfl (by kernel_rfl)
  (go_skip0 rfl rfl rfl (by kernel_rfl)
  (by kernel_rfl)))))
  (st_bm (by kernel_rfl) fun v23 h24 =>
  (go_run0 rfl rfl rfl (by kernel_rfl) (st_bm (by kernel_rfl) fun v25 h26 =>
  (go_run0 rfl rfl rfl (by kernel_rfl) (st_id (v := t0) (H := h26) (by kernel_rfl)
  (go_run0 rfl rfl rfl (by kernel_rfl) (st_bp (by kernel_rfl) fun v27 h28 =>
  (go_run0 rfl rfl rfl (by kernel_rfl) (st_bm (by kernel_rfl) fun v29 h30 =>
  (by kernel_rfl))))))))))
  (by kernel_rfl))))))))))))))))))))))))))))))))))))))))))))))))))))))))))))))))
theorem xe26 (k wl : Nat) (t0 t1 t2 : V) (h : Hp) : evF Try.prog xM (k + 1) wl 26 [t0, t1, t2] h = bodyV (xX (xS k) 26 wl k false) Try.f26 [t0, t1, t2] h := by kernel_rfl
theorem xm26_0 (s : Sys) (k wl : Nat) (m0 : Nat) (ac : List Nat × List Nat) (t0 t1 t2 t3 t4 t5 t6 t7 t8 t9 t10 t11 t12 t13 t14 t15 t16 t17 t18 t19 t20 t21 t22 t23 t24 t25 t26 t27 t28 t29 t30 t31 t32 t33 t34 t35 t36 t37 t38 t39 t40 t41 t42 t43 t44 t45 t46 t47 t48 t49 t50 : V) (h : Hp) : opsP (xX s 26 wl k false) xg26_0 9 m0 ac (runK (xX s 26 wl k false) (bodyK s.P Try.f26) xk26_0) ⟨[t0, t1, t2, t3, t4, t5, t6, t7, t8, t9, t10, t11, t12, t13, t14, t15, t16, t17, t18, t19, t20, t21, t22, t23, t24, t25, t26, t27, t28, t29, t30, t31, t32, t33, t34, t35, t36, t37, t38, t39, t40, t41, t42, t43, t44, t45, t46, t47, t48, t49, t50], h⟩ =
  bm (vPick t28 (V.lit (Value.bool true)) t33) h fun v31 h32 =>
  cnd v31 (
  some (.tup [t1, (V.lit (Value.bool false))], h32)) (
  bm (vLoad s.P 25 t5 h32) h32 fun v33 h34 =>
  bp (callV (xX s 26 wl k false) false true (.fn (.func 66) [] []) [t0, t1, v33] h34) fun v35 h36 =>
  bm (vBin s.P .lss 3 v35 (V.lit (Value.int .i64 0))) h36 fun v37 h38 =>
  cnd v37 (
  some (.tup [t1, (V.lit (Value.bool false))], h38)) (
  bp (opApp s.P wl 23 23 .nil t1 h38) fun v39 h40 =>
  bm (vFieldAddr s.P 25 t5 1) h40 fun v41 h42 =>
  bm (vLoad s.P 3 v41 h42) h42 fun v43 h44 =>
  bm (vIndexAddr s.P 23 v39 v43 h44) h44 fun v45 h46 =>
  bs (vStore s.P wl 3 v45 v35 h46) fun h47 =>
  some (.tup [v39, (V.lit (Value.bool true))], h47))) :=
  (go_op0 rfl rfl (st_bm (by kernel_rfl) fun v31 h32 =>
  (go_end0 (by kernel_rfl)
  (go_cond (by kernel_rfl)
  (go_seq (go_reg0
  (go_op0 rfl rfl (st_id (v := t1) (H := h32) (by kernel_rfl)
  (go_op0 rfl rfl (st_id (v := t1) (H := h32) (by kernel_rfl)
  (go_op0 rfl rfl (st_id (v := (V.lit (Value.bool false))) (H := h32) (by kernel_rfl)
  (go_end0 (by kernel_rfl)
  (go_ret (rt_seq_ret (by kernel_rfl))))))))))))
  (go_skip (go_seq (go_reg0
  (go_op0 rfl rfl (st_id (v := t0) (H := h32) (by kernel_rfl)
  (go_op0 rfl rfl (st_id (v := t1) (H := h32) (by kernel_rfl)
  (go_op0 rfl rfl (st_bm (by kernel_rfl) fun v33 h34 =>
  (go_op0 rfl rfl (st_bp (by kernel_rfl) fun v35 h36 =>
  (go_op0 rfl rfl (st_id (v := v35) (H := h36) (by kernel_rfl)
  (go_end0 (by kernel_rfl)
  (go_seq (go_seq (go_reg0
  (go_op0 rfl rfl (st_id (v := v35) (H := h36) (by kernel_rfl)
  (go_op0 rfl rfl (st_bm (by kernel_rfl) fun v37 h38 =>
  (go_end0 (by kernel_rfl)
  (go_cond (by kernel_rfl)
  (go_seq (go_reg0
  (go_op0 rfl rfl (st_id (v := t1) (H := h38) (by kernel_rfl)
  (go_op0 rfl rfl (st_id (v := t1) (H := h38) (by kernel_rfl)
  (go_op0 rfl rfl (st_id (v := (V.lit (Value.bool false))) (H := h38) (by kernel_rfl)
  (go_end0 (by kernel_rfl)
  (go_ret (rt_seq_ret (by kernel_rfl))))))))))))
  (go_skip (go_seq (go_reg0
  (go_op0 rfl rfl (st_id (v := t1) (H := h38) (by kernel_rfl)
  (go_op0 rfl rfl (st_bp (by kernel_rfl) fun v39 h40 =>
  (go_op0 rfl rfl (st_id (v := v39) (H := h40) (by kernel_rfl)
  (go_end0 (by kernel_rfl)
  (go_seq (go_reg0
  (go_op0 rfl rfl (st_id (v := v39) (H := h40) (by kernel_rfl)
  (go_op0 rfl rfl (st_bm (by kernel_rfl) fun v41 h42 =>
  (go_op0 rfl rfl (st_bm (by kernel_rfl) fun v43 h44 =>
  (go_op0 rfl rfl (st_id (v := v35) (H := h44) (by kernel_rfl)
  (go_op0 rfl rfl (st_bm (by kernel_rfl) fun v45 h46 =>
  (go_op0 rfl rfl (st_bs (by kernel_rfl) fun h47 =>
  (go_end0 (by kernel_rfl)
  (go_seq (go_reg0
  (go_op0 rfl rfl (st_id (v := v39) (H := h47) (by kernel_rfl)
  (go_op0 rfl rfl (st_id (v := v39) (H := h47) (by kernel_rfl)
  (go_op0 rfl rfl (st_id (v := (V.lit (Value.bool true))) (H := h47) (by kernel_rfl)
  (go_end0 (by kernel_rfl)
  (go_ret (by kernel_rfl)))))))))))))))))))))))))))))))))))))))))))))))))))))))))))))))
theorem xk26_0_ret (cx : Cx) (K : Out → St → Option (V × Hp)) (s : St) : runK cx K xk26_0 .ret s = K .ret s := by kernel_rfl
-- names: xb26, xm26_0, xk26_0_ret
/-! 29 poacher/poacherref21.New: 0 t, 1 t, 3 may -/

theorem xb29 (s : Sys) (k wl : Nat) (t0 : V) (h : Hp) : bodyV (xX s 29 wl k false) Try.f29 [t0] h =
  bp (some (.own h.length 0 0, h ++ [.rows 0 [] 0 true])) fun v1 h2 =>
  bp (callV (xX s 29 wl k false) false true (.fn (.func 54) [] []) [t0] h2) fun v3 h4 =>
  bm (vUn .not v3) h4 fun v5 h6 =>
  cnd v5 (
  bp (some (.own h6.length 0 0, h6 ++ [.rows 0 [] 0 true])) fun v7 h8 =>
  some (v7, h8)) (
  bp (opLen s.P 22 t0 h6) fun v9 h10 =>
  bp (vMakeSlice s.P 23 v9 v9 h10) fun v11 h12 =>
  some (v11, h12)) :=
  bodyV_run rfl (go_seq (go_reg0
  (go_op0 rfl rfl (st_bp (by kernel_rfl) fun v1 h2 =>
  (go_end0 (by kernel_rfl)
  (go_seq (go_reg0
  (go_op0 rfl rfl (st_id (v := t0) (H := h2) (by kernel_rfl)
  (go_op0 rfl rfl (st_bp (by kernel_rfl) fun v3 h4 =>
  (go_op0 rfl rfl (st_id (v := v3) (H := h4) (by kernel_rfl)
  (go_end0 (by kernel_rfl)
  (go_seq (go_seq (go_reg0
  (go_op0 rfl rfl (st_id (v := v3) (H := h4) (by kernel_rfl)
  (go_op0 rfl rfl (st_bm (by kernel_rfl) fun v5 h6 =>
  (go_end0 (by kernel_rfl)
  (go_cond (by kernel_rfl)
  (go_seq (go_reg0
  (go_op0 rfl rfl (st_bp (by kernel_rfl) fun v7 h8 =>
  (go_end0 (by kernel_rfl)
  (go_ret (rt_seq_ret (by kernel_rfl))))))))
  (go_skip (go_seq (go_reg0
  (go_op0 rfl rfl (st_id (v := t0) (H := h6) (by kernel_rfl)
  (go_op0 rfl rfl (st_bp (by kernel_rfl) fun v9 h10 =>
  (go_op0 rfl rfl (st_bp (by kernel_rfl) fun v11 h12 =>
  (go_op0 rfl rfl (st_id (v := v11) (H := h12) (by kernel_rfl)
  (go_end0 (by kernel_rfl)
  (go_ret (by kernel_rfl)))))))))))))))))))))))))))))))))))))
theorem xe29 (k wl : Nat) (t0 : V) (h : Hp) : evF Try.prog xM (k + 1) wl 29 [t0] h = bodyV (xX (xS k) 29 wl k false) Try.f29 [t0] h := by kernel_rfl
-- names: xb29, 
/-! 31 poacher/poacherref21.End: 0 t, 1 l, 2 t, 3 l, 5 s, 6 i, 7 r, 8 is -/
noncomputable def xl31_0 : Code := codeAt (bodyOf Try.f31) [1, 1, 0, 1, 0, 0]
noncomputable def xk31_0 : List Fr := [.block 0, .seq (codeAt (bodyOf Try.f31) [1, 1, 1])]
theorem xb31 (s : Sys) (k wl : Nat) (t0 t1 : V) (h : Hp) : bodyV (xX s 31 wl k false) Try.f31 [t0, t1] h =
  bp (some (.own h.length 0 0, h ++ [.rows 0 [] 0 true])) fun v1 h2 =>
  bp (callV (xX s 31 wl k false) false true (.fn (.func 29) [] []) [t0] h2) fun v3 h4 =>
  itX (xX s 31 wl k false) xl31_0 h4.length (runK (xX s 31 wl k false) (bodyK s.P Try.f31) xk31_0) k ⟨[(V.kill h4.length t0), (V.kill h4.length t1), (V.kill h4.length uu), (V.kill h4.length uu), (V.kill h4.length v1), (V.kill h4.length v3), (V.lit (Value.int .i64 0)), (V.kill h4.length uu), (V.kill h4.length uu), (V.kill h4.length t0), (V.kill h4.length v3), .junk, .junk, .junk, .junk, .junk, .junk, .junk, .junk, .junk, .junk, .junk, .junk, .junk, .junk, .junk, .junk, .junk, .junk, .junk, .junk, (V.kill h4.length uu)], cutH h4.length h4⟩ :=
  bodyV_run rfl (go_seq (go_reg0
  (go_op0 rfl rfl (st_bp (by kernel_rfl) fun v1 h2 =>
  (go_end0 (by kernel_rfl)
  (go_seq (go_reg0
  (go_op0 rfl rfl (st_id (v := t0) (H := h2) (by kernel_rfl)
  (go_op0 rfl rfl (st_bp (by kernel_rfl) fun v3 h4 =>
  (go_op0 rfl rfl (st_id (v := v3) (H := h4) (by kernel_rfl)
  (go_end0 (by kernel_rfl)
  (go_seq (go_seq (go_reg0
  (go_op0 rfl rfl (st_id (v := (V.lit (Value.int .i64 0))) (H := h4) (by kernel_rfl)
  (go_end0 (by kernel_rfl)
  (go_block (by kernel_rfl))))))))))))))))))))))
theorem xe31 (k wl : Nat) (t0 t1 : V) (h : Hp) : evF Try.prog xM (k + 1) wl 31 [t0, t1] h = bodyV (xX (xS k) 31 wl k false) Try.f31 [t0, t1] h := by kernel_rfl
theorem xz31 (P : Program) (t0 t1 t2 t3 t4 t5 t6 t7 t8 t9 t10 t11 t12 t13 t14 t15 t16 t17 t18 t19 t20 t21 t22 t23 t24 t25 t26 t27 t28 t29 t30 t31 : V) (h : Hp) : bodyK P Try.f31 .ret ⟨[t0, t1, t2, t3, t4, t5, t6, t7, t8, t9, t10, t11, t12, t13, t14, t15, t16, t17, t18, t19, t20, t21, t22, t23, t24, t25, t26, t27, t28, t29, t30, t31], h⟩ = some (t4, h) := by kernel_rfl
theorem xr31_0 (s : Sys) (K : Out → St → Option (V × Hp)) (k wl : Nat) (rd : Bool) (n n0 : Nat) (t0 t1 t2 t3 t4 t5 t6 t7 t8 t9 t10 t11 t12 t13 t14 t15 t16 t17 t18 t19 t20 t21 t22 t23 t24 t25 t26 t27 t28 t29 t30 t31 : V) (h : Hp) : itX (xX s 31 wl k rd) xl31_0 n0 K (n + 1) ⟨[t0, t1, t2, t3, t4, t5, t6, t7, t8, t9, t10, t11, t12, t13, t14, t15, t16, t17, t18, t19, t20, t21, t22, t23, t24, t25, t26, t27, t28, t29, t30, t31], h⟩ =
  bp (opLen s.P 26 t1 h) fun v5 h6 =>
  bm (vBin s.P .lss 3 t6 v5) h6 fun v7 h8 =>
  cnd v7 (
  bm (vIndexAddr s.P 26 t1 t6 h8) h8 fun v9 h10 =>
  bm (vLoad s.P 25 v9 h10) h10 fun v11 h12 =>
  bp (callV (xX s 31 wl k rd) false true (.fn (.func 26) [] []) [t0, t5, v11] h12) fun v13 h14 =>
  bm (vExtract v13 0) h14 fun v15 h16 =>
  bm (vExtract v13 1) h16 fun v17 h18 =>
  bm (vUn .not v17) h18 fun v19 h20 =>
  cnd v19 (
  K .ret ⟨[t0, t1, t2, t3, t5, t5, t6, v15, v17, t9, t10, t6, t1, v5, v7, t15, t16, v13, t0, t5, t1, t6, v9, v11, v13, v15, v17, v17, v19, t5, t30, t31], h20⟩) (
  bm (vBin s.P .add 3 t6 (V.lit (Value.int .i64 1))) h20 fun v21 h22 =>
  itX (xX s 31 wl k rd) xl31_0 n0 K n ⟨[(V.kill n0 t0), (V.kill n0 t1), (V.kill n0 t2), (V.kill n0 t3), (V.kill n0 t4), (V.kill n0 v15), (V.kill n0 v21), (V.kill n0 v15), (V.kill n0 v17), (V.kill n0 t9), (V.kill n0 t10), .junk, .junk, .junk, .junk, .junk, .junk, .junk, .junk, .junk, .junk, .junk, .junk, .junk, .junk, .junk, .junk, .junk, .junk, .junk, .junk, (V.kill n0 t31)], cutH n0 h22⟩)) (
  K (.exit 0) ⟨[(V.kill n0 t0), (V.kill n0 t1), (V.kill n0 t2), (V.kill n0 t3), (V.kill n0 t4), (V.kill n0 t5), (V.kill n0 t6), (V.kill n0 t7), (V.kill n0 t8), (V.kill n0 t9), (V.kill n0 t10), .junk, .junk, .junk, .junk, .junk, .junk, .junk, .junk, .junk, .junk, .junk, .junk, .junk, .junk, .junk, .junk, .junk, .junk, .junk, .junk, (V.kill n0 t31)], cutH n0 h8⟩) :=
  itX_step (go_seq (go_seq (go_reg0
  (go_op0 rfl rfl (st_id (v := t6) (H := h) (by kernel_rfl)
  (go_op0 rfl rfl (st_id (v := t1) (H := h) (by kernel_rfl)
  (go_op0 rfl rfl (st_bp (by kernel_rfl) fun v5 h6 =>
  (go_op0 rfl rfl (st_bm (by kernel_rfl) fun v7 h8 =>
  (go_end0 (by kernel_rfl)
  (go_cond (by kernel_rfl)
  (go_skip (go_seq (go_block (go_seq (go_reg0
  (go_op0 rfl rfl (st_id (v := t0) (H := h8) (by kernel_rfl)
  (go_op0 rfl rfl (st_id (v := t5) (H := h8) (by kernel_rfl)
  (go_op0 rfl rfl (st_id (v := t1) (H := h8) (by kernel_rfl)
  (go_op0 rfl rfl (st_id (v := t6) (H := h8) (by kernel_rfl)
  (go_op0 rfl rfl (st_bm (by kernel_rfl) fun v9 h10 =>
  (go_op0 rfl rfl (st_bm (by kernel_rfl) fun v11 h12 =>
  (go_op0 rfl rfl (st_bp (by kernel_rfl) fun v13 h14 =>
  (go_op0 rfl rfl (st_id (v := v13) (H := h14) (by kernel_rfl)
  (go_op0 rfl rfl (st_bm (by kernel_rfl) fun v15 h16 =>
  (go_op0 rfl rfl (st_bm (by kernel_rfl) fun v17 h18 =>
  (go_op0 rfl rfl (st_id (v := v15) (H := h18) (by kernel_rfl)
  (go_op0 rfl rfl (st_id (v := v17) (H := h18) (by kernel_rfl)
  (go_end0 (by kernel_rfl)
  (go_seq (go_seq (go_reg0
  (go_op0 rfl rfl (st_id (v := v17) (H := h18) (by kernel_rfl)
  (go_op0 rfl rfl (st_bm (by kernel_rfl) fun v19 h20 =>
  (go_end0 (by kernel_rfl)
  (go_cond (by kernel_rfl)
  (go_seq (go_reg0
  (go_op0 rfl rfl (st_id (v := t5) (H := h20) (by kernel_rfl)
  (go_op0 rfl rfl (st_id (v := t5) (H := h20) (by kernel_rfl)
  (go_end0 (by kernel_rfl)
  (go_ret (rt_seq_ret (rt_block_ret (rt_seq_ret (by kernel_rfl))))))))))))
  (go_skip (go_reg0
  (go_op0 rfl rfl (st_id (v := v15) (H := h20) (by kernel_rfl)
  (go_op0 rfl rfl (st_id (v := v15) (H := h20) (by kernel_rfl)
  (go_end0 (by kernel_rfl)
  (rt_block_norm (go_reg0
  (go_op0 rfl rfl (st_id (v := t6) (H := h20) (by kernel_rfl)
  (go_op0 rfl rfl (st_bm (by kernel_rfl) fun v21 h22 =>
  (go_op0 rfl rfl (st_id (v := v21) (H := h22) (by kernel_rfl)
  (go_end0 (by kernel_rfl)
  (by kernel_rfl))))))))))))))))))))))))))))))))))))))))))))))))))))))))
  (go_exit (rt_seq_exit (by kernel_rfl))))))))))))))))
theorem xj31_0 (s : Sys) (k wl : Nat) (t0 t1 t2 t3 t4 t5 t6 t7 t8 t9 t10 t11 t12 t13 t14 t15 t16 t17 t18 t19 t20 t21 t22 t23 t24 t25 t26 t27 t28 t29 t30 t31 : V) (h : Hp) : runK (xX s 31 wl k false) (bodyK s.P Try.f31) xk31_0 (.exit 0) ⟨[t0, t1, t2, t3, t4, t5, t6, t7, t8, t9, t10, t11, t12, t13, t14, t15, t16, t17, t18, t19, t20, t21, t22, t23, t24, t25, t26, t27, t28, t29, t30, t31], h⟩ =
  some (t5, h) :=
  (rt_block_eq (go_seq (go_reg0
  (go_op0 rfl rfl (st_id (v := t5) (H := h) (by kernel_rfl)
  (go_op0 rfl rfl (st_id (v := t5) (H := h) (by kernel_rfl)
  (go_end0 (by kernel_rfl)
  (go_ret (by kernel_rfl))))))))))
theorem xk31_0_ret (cx : Cx) (K : Out → St → Option (V × Hp)) (s : St) : runK cx K xk31_0 .ret s = K .ret s := by kernel_rfl
-- names: xb31, xz31, xr31_0, xj31_0, xk31_0_ret
/-! 32 poacher/poacherref21.Accepts: 0 t, 1 l, 2 t, 3 l, 5 s, 6 i, 7 r, 8 is, 9 may -/
noncomputable def xl32_0 : Code := codeAt (bodyOf Try.f32) [1, 1, 0, 1, 0, 0]
noncomputable def xk32_0 : List Fr := [.block 0, .seq (codeAt (bodyOf Try.f32) [1, 1, 1])]
theorem xb32 (s : Sys) (k wl : Nat) (t0 t1 : V) (h : Hp) : bodyV (xX s 32 wl k false) Try.f32 [t0, t1] h =
  bp (callV (xX s 32 wl k false) false true (.fn (.func 29) [] []) [t0] h) fun v1 h2 =>
  itX (xX s 32 wl k false) xl32_0 h2.length (runK (xX s 32 wl k false) (bodyK s.P Try.f32) xk32_0) k ⟨[(V.kill h2.length t0), (V.kill h2.length t1), (V.kill h2.length uu), (V.kill h2.length uu), (V.lit (Value.bool false)), (V.kill h2.length v1), (V.lit (Value.int .i64 0)), (V.kill h2.length uu), (V.kill h2.length uu), (V.kill h2.length uu), (V.kill h2.length t0), (V.kill h2.length v1), .junk, .junk, .junk, .junk, .junk, .junk, .junk, .junk, .junk, .junk, .junk, .junk, .junk, .junk, .junk, .junk, .junk, .junk, .junk, (V.kill h2.length uu), (V.kill h2.length uu), (V.kill h2.length uu)], cutH h2.length h2⟩ :=
  bodyV_run rfl (go_seq (go_reg0
  (go_op0 rfl rfl (st_id (v := (V.lit (Value.bool false))) (H := h) (by kernel_rfl)
  (go_end0 (by kernel_rfl)
  (go_seq (go_reg0
  (go_op0 rfl rfl (st_id (v := t0) (H := h) (by kernel_rfl)
  (go_op0 rfl rfl (st_bp (by kernel_rfl) fun v1 h2 =>
  (go_op0 rfl rfl (st_id (v := v1) (H := h2) (by kernel_rfl)
  (go_end0 (by kernel_rfl)
  (go_seq (go_seq (go_reg0
  (go_op0 rfl rfl (st_id (v := (V.lit (Value.int .i64 0))) (H := h2) (by kernel_rfl)
  (go_end0 (by kernel_rfl)
  (go_block (by kernel_rfl))))))))))))))))))))))
theorem xe32 (k wl : Nat) (t0 t1 : V) (h : Hp) : evF Try.prog xM (k + 1) wl 32 [t0, t1] h = bodyV (xX (xS k) 32 wl k false) Try.f32 [t0, t1] h := by kernel_rfl
theorem xz32 (P : Program) (t0 t1 t2 t3 t4 t5 t6 t7 t8 t9 t10 t11 t12 t13 t14 t15 t16 t17 t18 t19 t20 t21 t22 t23 t24 t25 t26 t27 t28 t29 t30 t31 t32 t33 : V) (h : Hp) : bodyK P Try.f32 .ret ⟨[t0, t1, t2, t3, t4, t5, t6, t7, t8, t9, t10, t11, t12, t13, t14, t15, t16, t17, t18, t19, t20, t21, t22, t23, t24, t25, t26, t27, t28, t29, t30, t31, t32, t33], h⟩ = some (t4, h) := by kernel_rfl
theorem xr32_0 (s : Sys) (K : Out → St → Option (V × Hp)) (k wl : Nat) (rd : Bool) (n n0 : Nat) (t0 t1 t2 t3 t4 t5 t6 t7 t8 t9 t10 t11 t12 t13 t14 t15 t16 t17 t18 t19 t20 t21 t22 t23 t24 t25 t26 t27 t28 t29 t30 t31 t32 t33 : V) (h : Hp) : itX (xX s 32 wl k rd) xl32_0 n0 K (n + 1) ⟨[t0, t1, t2, t3, t4, t5, t6, t7, t8, t9, t10, t11, t12, t13, t14, t15, t16, t17, t18, t19, t20, t21, t22, t23, t24, t25, t26, t27, t28, t29, t30, t31, t32, t33], h⟩ =
  bp (opLen s.P 26 t1 h) fun v3 h4 =>
  bm (vBin s.P .lss 3 t6 v3) h4 fun v5 h6 =>
  cnd v5 (
  bm (vIndexAddr s.P 26 t1 t6 h6) h6 fun v7 h8 =>
  bm (vLoad s.P 25 v7 h8) h8 fun v9 h10 =>
  bp (callV (xX s 32 wl k rd) false true (.fn (.func 26) [] []) [t0, t5, v9] h10) fun v11 h12 =>
  bm (vExtract v11 0) h12 fun v13 h14 =>
  bm (vExtract v11 1) h14 fun v15 h16 =>
  bm (vUn .not v15) h16 fun v17 h18 =>
  cnd v17 (
  K .ret ⟨[t0, t1, t2, t3, (V.lit (Value.bool false)), t5, t6, v13, v15, t9, t10, t11, t6, t1, v3, v5, t16, t17, v11, t0, t5, t1, t6, v7, v9, v11, v13, v15, v15, v17, t30, t31, t32, t33], h18⟩) (
  bm (vBin s.P .add 3 t6 (V.lit (Value.int .i64 1))) h18 fun v19 h20 =>
  itX (xX s 32 wl k rd) xl32_0 n0 K n ⟨[(V.kill n0 t0), (V.kill n0 t1), (V.kill n0 t2), (V.kill n0 t3), (V.kill n0 t4), (V.kill n0 v13), (V.kill n0 v19), (V.kill n0 v13), (V.kill n0 v15), (V.kill n0 t9), (V.kill n0 t10), (V.kill n0 t11), .junk, .junk, .junk, .junk, .junk, .junk, .junk, .junk, .junk, .junk, .junk, .junk, .junk, .junk, .junk, .junk, .junk, .junk, .junk, (V.kill n0 t31), (V.kill n0 t32), (V.kill n0 t33)], cutH n0 h20⟩)) (
  K (.exit 0) ⟨[(V.kill n0 t0), (V.kill n0 t1), (V.kill n0 t2), (V.kill n0 t3), (V.kill n0 t4), (V.kill n0 t5), (V.kill n0 t6), (V.kill n0 t7), (V.kill n0 t8), (V.kill n0 t9), (V.kill n0 t10), (V.kill n0 t11), .junk, .junk, .junk, .junk, .junk, .junk, .junk, .junk, .junk, .junk, .junk, .junk, .junk, .junk, .junk, .junk, .junk, .junk, .junk, (V.kill n0 t31), (V.kill n0 t32), (V.kill n0 t33)], cutH n0 h6⟩) :=
  itX_step (go_seq (go_seq (go_reg0
  (go_op0 rfl rfl (st_id (v := t6) (H := h) (by kernel_rfl)
  (go_op0 rfl rfl (st_id (v := t1) (H := h) (by kernel_rfl)
  (go_op0 rfl rfl (st_bp (by kernel_rfl) fun v3 h4 =>
  (go_op0 rfl rfl (st_bm (by kernel_rfl) fun v5 h6 =>
  (go_end0 (by kernel_rfl)
  (go_cond (by kernel_rfl)
  (go_skip (go_seq (go_block (go_seq (go_reg0
  (go_op0 rfl rfl (st_id (v := t0) (H := h6) (by kernel_rfl)
  (go_op0 rfl rfl (st_id (v := t5) (H := h6) (by kernel_rfl)
  (go_op0 rfl rfl (st_id (v := t1) (H := h6) (by kernel_rfl)
  (go_op0 rfl rfl (st_id (v := t6) (H := h6) (by kernel_rfl)
  (go_op0 rfl rfl (st_bm (by kernel_rfl) fun v7 h8 =>
  (go_op0 rfl rfl (st_bm (by kernel_rfl) fun v9 h10 =>
  (go_op0 rfl rfl (st_bp (by kernel_rfl) fun v11 h12 =>
  (go_op0 rfl rfl (st_id (v := v11) (H := h12) (by kernel_rfl)
  (go_op0 rfl rfl (st_bm (by kernel_rfl) fun v13 h14 =>
  (go_op0 rfl rfl (st_bm (by kernel_rfl) fun v15 h16 =>
  (go_op0 rfl rfl (st_id (v := v13) (H := h16) (by kernel_rfl)
  (go_op0 rfl rfl (st_id (v := v15) (H := h16) (by kernel_rfl)
  (go_end0 (by kernel_rfl)
  (go_seq (go_seq (go_reg0
  (go_op0 rfl rfl (st_id (v := v15) (H := h16) (by kernel_rfl)
  (go_op0 rfl rfl (st_bm (by kernel_rfl) fun v17 h18 =>
  (go_end0 (by kernel_rfl)
  (go_cond (by kernel_rfl)
  (go_seq (go_reg0
  (go_op0 rfl rfl (st_id (v := (V.lit (Value.bool false))) (H := h18) (by kernel_rfl)
  (go_end0 (by kernel_rfl)
  (go_ret (rt_seq_ret (rt_block_ret (rt_seq_ret (by kernel_rfl))))))))))
  (go_skip (go_reg0
  (go_op0 rfl rfl (st_id (v := v13) (H := h18) (by kernel_rfl)
  (go_op0 rfl rfl (st_id (v := v13) (H := h18) (by kernel_rfl)
  (go_end0 (by kernel_rfl)
  (rt_block_norm (go_reg0
  (go_op0 rfl rfl (st_id (v := t6) (H := h18) (by kernel_rfl)
  (go_op0 rfl rfl (st_bm (by kernel_rfl) fun v19 h20 =>
  (go_op0 rfl rfl (st_id (v := v19) (H := h20) (by kernel_rfl)
  (go_end0 (by kernel_rfl)
  (by kernel_rfl))))))))))))))))))))))))))))))))))))))))))))))))))))))))
  (go_exit (rt_seq_exit (by kernel_rfl))))))))))))))))
theorem xj32_0 (s : Sys) (k wl : Nat) (t0 t1 t2 t3 t4 t5 t6 t7 t8 t9 t10 t11 t12 t13 t14 t15 t16 t17 t18 t19 t20 t21 t22 t23 t24 t25 t26 t27 t28 t29 t30 t31 t32 t33 : V) (h : Hp) : runK (xX s 32 wl k false) (bodyK s.P Try.f32) xk32_0 (.exit 0) ⟨[t0, t1, t2, t3, t4, t5, t6, t7, t8, t9, t10, t11, t12, t13, t14, t15, t16, t17, t18, t19, t20, t21, t22, t23, t24, t25, t26, t27, t28, t29, t30, t31, t32, t33], h⟩ =
  bp (callV (xX s 32 wl k false) false true (.fn (.func 54) [] []) [t0] h) fun v21 h22 =>
  some (v21, h22) :=
  (rt_block_eq (go_seq (go_reg0
  (go_op0 rfl rfl (st_id (v := t0) (H := h) (by kernel_rfl)
  (go_op0 rfl rfl (st_bp (by kernel_rfl) fun v21 h22 =>
  (go_op0 rfl rfl (st_id (v := v21) (H := h22) (by kernel_rfl)
  (go_end0 (by kernel_rfl)
  (go_seq (go_reg0
  (go_op0 rfl rfl (st_id (v := v21) (H := h22) (by kernel_rfl)
  (go_op0 rfl rfl (st_id (v := v21) (H := h22) (by kernel_rfl)
  (go_end0 (by kernel_rfl)
  (go_ret (by kernel_rfl)))))))))))))))))))
theorem xk32_0_ret (cx : Cx) (K : Out → St → Option (V × Hp)) (s : St) : runK cx K xk32_0 .ret s = K .ret s := by kernel_rfl
-- names: xb32, xz32, xr32_0, xj32_0, xk32_0_ret
/-! 33 poacher/poacherref21.Calm: 0 s, 1 s, 3 i -/
noncomputable def xl33_0 : Code := codeAt (bodyOf Try.f33) [1, 0, 1, 0, 0]
noncomputable def xk33_0 : List Fr := [.block 0, .seq (codeAt (bodyOf Try.f33) [1, 1])]
noncomputable def xg33_0 : Code := codeAt (bodyOf Try.f33) [1, 0, 1, 0, 0, 1, 0, 0, 0]
noncomputable def xk33_1 : List Fr := [.seq (codeAt (bodyOf Try.f33) [1, 0, 1, 0, 0, 1, 0, 0, 1]), .block 1, .seq (codeAt (bodyOf Try.f33) [1, 0, 1, 0, 0, 1, 1])]
theorem xb33 (s : Sys) (k wl : Nat) (t0 : V) (h : Hp) : bodyV (xX s 33 wl k false) Try.f33 [t0] h =
  itX (xX s 33 wl k false) xl33_0 h.length (runK (xX s 33 wl k false) (bodyK s.P Try.f33) xk33_0) k ⟨[(V.kill h.length t0), (V.kill h.length uu), (V.lit (Value.bool false)), (V.lit (Value.int .i64 0)), .junk, .junk, .junk, .junk, .junk, .junk, .junk, .junk, .junk, .junk, .junk, .junk, .junk, .junk, .junk, .junk, .junk, .junk], cutH h.length h⟩ :=
  bodyV_run rfl (go_seq (go_reg0
  (go_op0 rfl rfl (st_id (v := (V.lit (Value.bool false))) (H := h) (by kernel_rfl)
  (go_end0 (by kernel_rfl)
  (go_seq (go_seq (go_reg0
  (go_op0 rfl rfl (st_id (v := (V.lit (Value.int .i64 0))) (H := h) (by kernel_rfl)
  (go_end0 (by kernel_rfl)
  (go_block (by kernel_rfl)))))))))))))
theorem xe33 (k wl : Nat) (t0 : V) (h : Hp) : evF Try.prog xM (k + 1) wl 33 [t0] h = bodyV (xX (xS k) 33 wl k false) Try.f33 [t0] h := by kernel_rfl
theorem xz33 (P : Program) (t0 t1 t2 t3 t4 t5 t6 t7 t8 t9 t10 t11 t12 t13 t14 t15 t16 t17 t18 t19 t20 t21 : V) (h : Hp) : bodyK P Try.f33 .ret ⟨[t0, t1, t2, t3, t4, t5, t6, t7, t8, t9, t10, t11, t12, t13, t14, t15, t16, t17, t18, t19, t20, t21], h⟩ = some (t2, h) := by kernel_rfl
theorem xr33_0 (s : Sys) (K : Out → St → Option (V × Hp)) (k wl : Nat) (rd : Bool) (n n0 : Nat) (t0 t1 t2 t3 t4 t5 t6 t7 t8 t9 t10 t11 t12 t13 t14 t15 t16 t17 t18 t19 t20 t21 : V) (h : Hp) : itX (xX s 33 wl k rd) xl33_0 n0 K (n + 1) ⟨[t0, t1, t2, t3, t4, t5, t6, t7, t8, t9, t10, t11, t12, t13, t14, t15, t16, t17, t18, t19, t20, t21], h⟩ =
  bp (opLen s.P 23 t0 h) fun v1 h2 =>
  bm (vBin s.P .lss 3 t3 v1) h2 fun v3 h4 =>
  cnd v3 (
  bm (vIndexAddr s.P 23 t0 t3 h4) h4 fun v5 h6 =>
  bm (vLoad s.P 3 v5 h6) h6 fun v7 h8 =>
  bm (vBin s.P .eql 3 v7 (V.lit (Value.int .i64 1))) h8 fun v9 h10 =>
  gd v9 (
  opsP (xX s 33 wl k rd) xg33_0 11 h4.length ([], []) (runK (xX s 33 wl k rd) (nextK (xX s 33 wl k rd) xl33_0 n0 K n) xk33_1) ⟨[t0, t1, t2, t3, t3, t0, v1, v3, t8, t9, t0, t3, v5, v7, v9, (V.lit (Value.bool true)), uu, uu, uu, uu, uu, t21], h10⟩) (
  bm (vIndexAddr s.P 23 t0 t3 h10) h10 fun v11 h12 =>
  bm (vLoad s.P 3 v11 h12) h12 fun v13 h14 =>
  bm (vBin s.P .eql 3 v13 (V.lit (Value.int .i64 2))) h14 fun v15 h16 =>
  opsP (xX s 33 wl k rd) xg33_0 11 h4.length ([], []) (runK (xX s 33 wl k rd) (nextK (xX s 33 wl k rd) xl33_0 n0 K n) xk33_1) ⟨[t0, t1, t2, t3, t3, t0, v1, v3, t8, t9, t0, t3, v5, v7, v9, (V.lit (Value.bool false)), t0, t3, v11, v13, v15, t21], h16⟩) (
  opsP (xX s 33 wl k rd) xg33_0 7 h4.length ([], []) (runK (xX s 33 wl k rd) (nextK (xX s 33 wl k rd) xl33_0 n0 K n) xk33_1) ⟨[t0, t1, t2, t3, t3, t0, v1, v3, t8, t9, t0, t3, v5, v7, v9, v9, uu, t17, t18, t19, t20, t21], h10⟩)) (
  K (.exit 0) ⟨[(V.kill n0 t0), (V.kill n0 t1), (V.kill n0 t2), (V.kill n0 t3), .junk, .junk, .junk, .junk, .junk, .junk, .junk, .junk, .junk, .junk, .junk, .junk, .junk, .junk, .junk, .junk, .junk, .junk], cutH n0 h4⟩) :=
  itX_step (go_seq (go_seq (go_reg0
  (go_op0 rfl rfl (st_id (v := t3) (H := h) (by kernel_rfl)
  (go_op0 rfl rfl (st_id (v := t0) (H := h) (by kernel_rfl)
  (go_op0 rfl rfl (st_bp (by kernel_rfl) fun v1 h2 =>
  (go_op0 rfl rfl (st_bm (by kernel_rfl) fun v3 h4 =>
  (go_end0 (by kernel_rfl)
  (go_cond (by kernel_rfl)
  (go_skip (go_seq (go_block (go_seq (go_reg0
  (go_op0 rfl rfl (st_id (v := t0) (H := h4) (by kernel_rfl)
  (go_op0 rfl rfl (st_id (v := t3) (H := h4) (by kernel_rfl)
  (go_op0 rfl rfl (st_bm (by kernel_rfl) fun v5 h6 =>
  (go_op0 rfl rfl (st_bm (by kernel_rfl) fun v7 h8 =>
  (go_op0 rfl rfl (st_bm (by kernel_rfl) fun v9 h10 =>
  (go_op0 rfl rfl (st_id (v := v9) (H := h10) (by kernel_rfl)
  (go_gdF0 rfl rfl rfl (by kernel_rfl)
  (go_skip0 rfl rfl rfl (by kernel_rfl)
  (go_skip0 rfl rfl rfl (by kernel_rfl)
  (go_skip0 rfl rfl rfl (by kernel_rfl)
  (go_skip0 rfl rfl rfl (by kernel_rfl)
  (by kernel_rfl)))))
  (st_id (v := t0) (H := h10) (by kernel_rfl)
  (go_run0 rfl rfl rfl (by kernel_rfl) (st_id (v := t3) (H := h10) (by kernel_rfl)
  (go_run0 rfl rfl rfl (by kernel_rfl) (st_bm (by kernel_rfl) fun v11 h12 =>
  (go_run0 rfl rfl rfl (by kernel_rfl) (st_bm (by kernel_rfl) fun v13 h14 =>
  (go_run0 rfl rfl rfl (by kernel_rfl) (st_bm (by kernel_rfl) fun v15 h16 =>
  (by kernel_rfl))))))))))
  (by kernel_rfl)))))))))))))))))))
  (go_exit (rt_seq_exit (by kernel_rfl))))))))))))))))
theorem xj33_0 (s : Sys) (k wl : Nat) (t0 t1 t2 t3 t4 t5 t6 t7 t8 t9 t10 t11 t12 t13 t14 t15 t16 t17 t18 t19 t20 t21 : V) (h : Hp) : runK (xX s 33 wl k false) (bodyK s.P Try.f33) xk33_0 (.exit 0) ⟨[t0, t1, t2, t3, t4, t5, t6, t7, t8, t9, t10, t11, t12, t13, t14, t15, t16, t17, t18, t19, t20, t21], h⟩ =
  some ((V.lit (Value.bool true)), h) :=
  (rt_block_eq (go_seq (go_reg0
  (go_op0 rfl rfl (st_id (v := (V.lit (Value.bool true))) (H := h) (by kernel_rfl)
  (go_end0 (by kernel_rfl)
  (go_ret (by kernel_rfl))))))))
theorem xm33_1 (s : Sys) (K : Out → St → Option (V × Hp)) (k wl : Nat) (rd : Bool) (n n0 : Nat) (m0 : Nat) (ac : List Nat × List Nat) (t0 t1 t2 t3 t4 t5 t6 t7 t8 t9 t10 t11 t12 t13 t14 t15 t16 t17 t18 t19 t20 t21 : V) (h : Hp) : opsP (xX s 33 wl k rd) xg33_0 11 m0 ac (runK (xX s 33 wl k rd) (nextK (xX s 33 wl k rd) xl33_0 n0 K n) xk33_1) ⟨[t0, t1, t2, t3, t4, t5, t6, t7, t8, t9, t10, t11, t12, t13, t14, t15, t16, t17, t18, t19, t20, t21], h⟩ =
  bm (vPick t15 (V.lit (Value.bool true)) t20) h fun v17 h18 =>
  cnd v17 (
  K .ret ⟨[t0, t1, (V.lit (Value.bool false)), t3, t4, t5, t6, t7, t8, t9, t10, t11, t12, t13, t14, t15, t16, t17, t18, t19, t20, v17], h18⟩) (
  bm (vBin s.P .add 3 t3 (V.lit (Value.int .i64 1))) h18 fun v19 h20 =>
  itX (xX s 33 wl k rd) xl33_0 n0 K n ⟨[(V.kill n0 t0), (V.kill n0 t1), (V.kill n0 t2), (V.kill n0 v19), .junk, .junk, .junk, .junk, .junk, .junk, .junk, .junk, .junk, .junk, .junk, .junk, .junk, .junk, .junk, .junk, .junk, .junk], cutH n0 h20⟩) :=
  (go_op0 rfl rfl (st_bm (by kernel_rfl) fun v17 h18 =>
  (go_end0 (by kernel_rfl)
  (go_cond (by kernel_rfl)
  (go_seq (go_reg0
  (go_op0 rfl rfl (st_id (v := (V.lit (Value.bool false))) (H := h18) (by kernel_rfl)
  (go_end0 (by kernel_rfl)
  (go_ret (rt_block_ret (rt_seq_ret (by kernel_rfl)))))))))
  (go_skip (rt_block_norm (go_reg0
  (go_op0 rfl rfl (st_id (v := t3) (H := h18) (by kernel_rfl)
  (go_op0 rfl rfl (st_bm (by kernel_rfl) fun v19 h20 =>
  (go_op0 rfl rfl (st_id (v := v19) (H := h20) (by kernel_rfl)
  (go_end0 (by kernel_rfl)
  (by kernel_rfl)))))))))))))))
theorem xk33_0_ret (cx : Cx) (K : Out → St → Option (V × Hp)) (s : St) : runK cx K xk33_0 .ret s = K .ret s := by kernel_rfl
theorem xk33_1_ret (cx : Cx) (K : Out → St → Option (V × Hp)) (s : St) : runK cx K xk33_1 .ret s = K .ret s := by kernel_rfl
-- names: xb33, xz33, xr33_0, xj33_0, xm33_1, xk33_0_ret, xk33_1_ret
/-! 65 poacher/poacherref21.fits: 0 t, 1 s, 2 t, 3 s, 5 may, 6 i -/
noncomputable def xg65_0 : Code := codeAt (bodyOf Try.f65) [1, 1, 0, 0]
noncomputable def xk65_0 : List Fr := [.seq (codeAt (bodyOf Try.f65) [1, 1, 0, 1]), .seq (codeAt (bodyOf Try.f65) [1, 1, 1])]
noncomputable def xl65_0 : Code := codeAt (bodyOf Try.f65) [1, 1, 1, 0, 1, 0, 0]
noncomputable def xk65_1 : List Fr := [.block 0, .seq (codeAt (bodyOf Try.f65) [1, 1, 1, 1])]
noncomputable def xg65_1 : Code := codeAt (bodyOf Try.f65) [1, 1, 1, 0, 1, 0, 0, 1, 0, 0, 0]
noncomputable def xk65_2 : List Fr := [.seq (codeAt (bodyOf Try.f65) [1, 1, 1, 0, 1, 0, 0, 1, 0, 0, 1]), .block 1, .seq (codeAt (bodyOf Try.f65) [1, 1, 1, 0, 1, 0, 0, 1, 1])]
theorem xb65 (s : Sys) (k wl : Nat) (t0 t1 : V) (h : Hp) : bodyV (xX s 65 wl k false) Try.f65 [t0, t1] h =
  bp (callV (xX s 65 wl k false) false true (.fn (.func 54) [] []) [t0] h) fun v1 h2 =>
  bm (vUn .not v1) h2 fun v3 h4 =>
  gd v3 (
  opsP (xX s 65 wl k false) xg65_0 8 h2.length ([], []) (runK (xX s 65 wl k false) (bodyK s.P Try.f65) xk65_0) ⟨[t0, t1, uu, uu, (V.lit (Value.bool false)), v1, uu, t0, v1, v1, v3, (V.lit (Value.bool true)), uu, uu, uu, uu, uu, uu, uu, uu, uu, uu, uu, uu, uu, uu, uu, uu, uu, uu, uu, uu, uu, uu, uu, uu], h4⟩) (
  bp (opLen s.P 23 t1 h4) fun v5 h6 =>
  bp (opLen s.P 22 t0 h6) fun v7 h8 =>
  bm (vBin s.P .neq 3 v5 v7) h8 fun v9 h10 =>
  opsP (xX s 65 wl k false) xg65_0 8 h2.length ([], []) (runK (xX s 65 wl k false) (bodyK s.P Try.f65) xk65_0) ⟨[t0, t1, uu, uu, (V.lit (Value.bool false)), v1, uu, t0, v1, v1, v3, (V.lit (Value.bool false)), t1, v5, t0, v7, v9, uu, uu, uu, uu, uu, uu, uu, uu, uu, uu, uu, uu, uu, uu, uu, uu, uu, uu, uu], h10⟩) (
  opsP (xX s 65 wl k false) xg65_0 4 h2.length ([], []) (runK (xX s 65 wl k false) (bodyK s.P Try.f65) xk65_0) ⟨[t0, t1, uu, uu, (V.lit (Value.bool false)), v1, uu, t0, v1, v1, v3, v3, uu, uu, uu, uu, uu, uu, uu, uu, uu, uu, uu, uu, uu, uu, uu, uu, uu, uu, uu, uu, uu, uu, uu, uu], h4⟩) :=
  bodyV_run rfl (go_seq (go_reg0
  (go_op0 rfl rfl (st_id (v := (V.lit (Value.bool false))) (H := h) (by kernel_rfl)
  (go_end0 (by kernel_rfl)
  (go_seq (go_reg0
  (go_op0 rfl rfl (st_id (v := t0) (H := h) (by kernel_rfl)
  (go_op0 rfl rfl (st_bp (by kernel_rfl) fun v1 h2 =>
  (go_op0 rfl rfl (st_id (v := v1) (H := h2) (by kernel_rfl)
  (go_end0 (by kernel_rfl)
  (go_seq (go_seq (go_reg0
  (go_op0 rfl rfl (st_id (v := v1) (H := h2) (by kernel_rfl)
  (go_op0 rfl rfl (st_bm (by kernel_rfl) fun v3 h4 =>
  (go_op0 rfl rfl (st_id (v := v3) (H := h4) (by kernel_rfl)
  (go_gdF0 rfl rfl rfl (by kernel_rfl)
  (go_skip0 rfl rfl rfl (by kernel_rfl)
  (go_skip0 rfl rfl rfl (by kernel_rfl)
  (go_skip0 rfl rfl rfl (by kernel_rfl)
  (go_skip0 rfl rfl rfl (by kernel_rfl)
  (by kernel_rfl)))))
  (st_id (v := t1) (H := h4) (by kernel_rfl)
  (go_run0 rfl rfl rfl (by kernel_rfl) (st_bp (by kernel_rfl) fun v5 h6 =>
  (go_run0 rfl rfl rfl (by kernel_rfl) (st_id (v := t0) (H := h6) (by kernel_rfl)
  (go_run0 rfl rfl rfl (by kernel_rfl) (st_bp (by kernel_rfl) fun v7 h8 =>
  (go_run0 rfl rfl rfl (by kernel_rfl) (st_bm (by kernel_rfl) fun v9 h10 =>
  (by kernel_rfl))))))))))
  (by kernel_rfl)))))))))))))))))))))))))
theorem xe65 (k wl : Nat) (t0 t1 : V) (h : Hp) : evF Try.prog xM (k + 1) wl 65 [t0, t1] h = bodyV (xX (xS k) 65 wl k false) Try.f65 [t0, t1] h := by kernel_rfl
theorem xz65 (P : Program) (t0 t1 t2 t3 t4 t5 t6 t7 t8 t9 t10 t11 t12 t13 t14 t15 t16 t17 t18 t19 t20 t21 t22 t23 t24 t25 t26 t27 t28 t29 t30 t31 t32 t33 t34 t35 : V) (h : Hp) : bodyK P Try.f65 .ret ⟨[t0, t1, t2, t3, t4, t5, t6, t7, t8, t9, t10, t11, t12, t13, t14, t15, t16, t17, t18, t19, t20, t21, t22, t23, t24, t25, t26, t27, t28, t29, t30, t31, t32, t33, t34, t35], h⟩ = some (t4, h) := by kernel_rfl
theorem xm65_0 (s : Sys) (k wl : Nat) (m0 : Nat) (ac : List Nat × List Nat) (t0 t1 t2 t3 t4 t5 t6 t7 t8 t9 t10 t11 t12 t13 t14 t15 t16 t17 t18 t19 t20 t21 t22 t23 t24 t25 t26 t27 t28 t29 t30 t31 t32 t33 t34 t35 : V) (h : Hp) : opsP (xX s 65 wl k false) xg65_0 8 m0 ac (runK (xX s 65 wl k false) (bodyK s.P Try.f65) xk65_0) ⟨[t0, t1, t2, t3, t4, t5, t6, t7, t8, t9, t10, t11, t12, t13, t14, t15, t16, t17, t18, t19, t20, t21, t22, t23, t24, t25, t26, t27, t28, t29, t30, t31, t32, t33, t34, t35], h⟩ =
  bm (vPick t11 (V.lit (Value.bool true)) t16) h fun v11 h12 =>
  cnd v11 (
  some ((V.lit (Value.bool false)), h12)) (
  itX (xX s 65 wl k false) xl65_0 h12.length (runK (xX s 65 wl k false) (bodyK s.P Try.f65) xk65_1) k ⟨[(V.kill h12.length t0), (V.kill h12.length t1), (V.kill h12.length t2), (V.kill h12.length t3), (V.kill h12.length t4), (V.kill h12.length t5), (V.lit (Value.int .i64 0)), (V.kill h12.length t7), (V.kill h12.length t8), (V.kill h12.length t9), (V.kill h12.length t10), (V.kill h12.length t11), (V.kill h12.length t12), (V.kill h12.length t13), (V.kill h12.length t14), (V.kill h12.length t15), (V.kill h12.length t16), (V.kill h12.length v11), .junk, .junk, .junk, .junk, .junk, .junk, .junk, .junk, .junk, .junk, .junk, .junk, .junk, .junk, .junk, .junk, .junk, .junk], cutH h12.length h12⟩) :=
  (go_op0 rfl rfl (st_bm (by kernel_rfl) fun v11 h12 =>
  (go_end0 (by kernel_rfl)
  (go_cond (by kernel_rfl)
  (go_seq (go_reg0
  (go_op0 rfl rfl (st_id (v := (V.lit (Value.bool false))) (H := h12) (by kernel_rfl)
  (go_end0 (by kernel_rfl)
  (go_ret (rt_seq_ret (by kernel_rfl))))))))
  (go_skip (go_seq (go_seq (go_reg0
  (go_op0 rfl rfl (st_id (v := (V.lit (Value.int .i64 0))) (H := h12) (by kernel_rfl)
  (go_end0 (by kernel_rfl)
  (go_block (by kernel_rfl)))))))))))))
theorem xr65_0 (s : Sys) (K : Out → St → Option (V × Hp)) (k wl : Nat) (rd : Bool) (n n0 : Nat) (t0 t1 t2 t3 t4 t5 t6 t7 t8 t9 t10 t11 t12 t13 t14 t15 t16 t17 t18 t19 t20 t21 t22 t23 t24 t25 t26 t27 t28 t29 t30 t31 t32 t33 t34 t35 : V) (h : Hp) : itX (xX s 65 wl k rd) xl65_0 n0 K (n + 1) ⟨[t0, t1, t2, t3, t4, t5, t6, t7, t8, t9, t10, t11, t12, t13, t14, t15, t16, t17, t18, t19, t20, t21, t22, t23, t24, t25, t26, t27, t28, t29, t30, t31, t32, t33, t34, t35], h⟩ =
  bp (opLen s.P 23 t1 h) fun v13 h14 =>
  bm (vBin s.P .lss 3 t6 v13) h14 fun v15 h16 =>
  cnd v15 (
  bm (vIndexAddr s.P 23 t1 t6 h16) h16 fun v17 h18 =>
  bm (vLoad s.P 3 v17 h18) h18 fun v19 h20 =>
  bm (vBin s.P .lss 3 v19 (V.lit (Value.int .i64 0))) h20 fun v21 h22 =>
  gd v21 (
  opsP (xX s 65 wl k rd) xg65_1 11 h16.length ([], []) (runK (xX s 65 wl k rd) (nextK (xX s 65 wl k rd) xl65_0 n0 K n) xk65_2) ⟨[t0, t1, t2, t3, t4, t5, t6, t7, t8, t9, t10, t11, t12, t13, t14, t15, t16, t17, t6, t1, v13, v15, t22, t23, t1, t6, v17, v19, v21, (V.lit (Value.bool true)), uu, uu, uu, uu, uu, t35], h22⟩) (
  bm (vIndexAddr s.P 23 t1 t6 h22) h22 fun v23 h24 =>
  bm (vLoad s.P 3 v23 h24) h24 fun v25 h26 =>
  bm (vBin s.P .gtr 3 v25 (V.lit (Value.int .i64 3))) h26 fun v27 h28 =>
  opsP (xX s 65 wl k rd) xg65_1 11 h16.length ([], []) (runK (xX s 65 wl k rd) (nextK (xX s 65 wl k rd) xl65_0 n0 K n) xk65_2) ⟨[t0, t1, t2, t3, t4, t5, t6, t7, t8, t9, t10, t11, t12, t13, t14, t15, t16, t17, t6, t1, v13, v15, t22, t23, t1, t6, v17, v19, v21, (V.lit (Value.bool false)), t1, t6, v23, v25, v27, t35], h28⟩) (
  opsP (xX s 65 wl k rd) xg65_1 7 h16.length ([], []) (runK (xX s 65 wl k rd) (nextK (xX s 65 wl k rd) xl65_0 n0 K n) xk65_2) ⟨[t0, t1, t2, t3, t4, t5, t6, t7, t8, t9, t10, t11, t12, t13, t14, t15, t16, t17, t6, t1, v13, v15, t22, t23, t1, t6, v17, v19, v21, v21, uu, t31, t32, t33, t34, t35], h22⟩)) (
  K (.exit 0) ⟨[(V.kill n0 t0), (V.kill n0 t1), (V.kill n0 t2), (V.kill n0 t3), (V.kill n0 t4), (V.kill n0 t5), (V.kill n0 t6), (V.kill n0 t7), (V.kill n0 t8), (V.kill n0 t9), (V.kill n0 t10), (V.kill n0 t11), (V.kill n0 t12), (V.kill n0 t13), (V.kill n0 t14), (V.kill n0 t15), (V.kill n0 t16), (V.kill n0 t17), .junk, .junk, .junk, .junk, .junk, .junk, .junk, .junk, .junk, .junk, .junk, .junk, .junk, .junk, .junk, .junk, .junk, .junk], cutH n0 h16⟩) :=
  itX_step (go_seq (go_seq (go_reg0
  (go_op0 rfl rfl (st_id (v := t6) (H := h) (by kernel_rfl)
  (go_op0 rfl rfl (st_id (v := t1) (H := h) (by kernel_rfl)
  (go_op0 rfl rfl (st_bp (by kernel_rfl) fun v13 h14 =>
  (go_op0 rfl rfl (st_bm (by kernel_rfl) fun v15 h16 =>
  (go_end0 (by kernel_rfl)
  (go_cond (by kernel_rfl)
  (go_skip (go_seq (go_block (go_seq (go_reg0
  (go_op0 rfl rfl (st_id (v := t1) (H := h16) (by kernel_rfl)
  (go_op0 rfl rfl (st_id (v := t6) (H := h16) (by kernel_rfl)
  (go_op0 rfl rfl (st_bm (by kernel_rfl) fun v17 h18 =>
  (go_op0 rfl rfl (st_bm (by kernel_rfl) fun v19 h20 =>
  (go_op0 rfl rfl (st_bm (by kernel_rfl) fun v21 h22 =>
  (go_op0 rfl rfl (st_id (v := v21) (H := h22) (by kernel_rfl)
  (go_gdF0 rfl rfl rfl (by kernel_rfl)
  (go_skip0 rfl rfl rfl (by kernel_rfl)
  (go_skip0 rfl rfl rfl (by kernel_rfl)
  (go_skip0 rfl rfl rfl (by kernel_rfl)
  (go_skip0 rfl rfl rfl (by kernel_rfl)
  (by kernel_rfl)))))
  (st_id (v := t1) (H := h22) (by kernel_rfl)
  (go_run0 rfl rfl rfl (by kernel_rfl) (st_id (v := t6) (H := h22) (by kernel_rfl)
  (go_run0 rfl rfl rfl (by kernel_rfl) (st_bm (by kernel_rfl) fun v23 h24 =>
  (go_run0 rfl rfl rfl (by kernel_rfl) (st_bm (by kernel_rfl) fun v25 h26 =>
  (go_run0 rfl rfl rfl (by kernel_rfl) (st_bm (by kernel_rfl) fun v27 h28 =>
  (by kernel_rfl))))))))))
  (by kernel_rfl)))))))))))))))))))
  (go_exit (rt_seq_exit (by kernel_rfl))))))))))))))))
theorem xj65_1 (s : Sys) (k wl : Nat) (t0 t1 t2 t3 t4 t5 t6 t7 t8 t9 t10 t11 t12 t13 t14 t15 t16 t17 t18 t19 t20 t21 t22 t23 t24 t25 t26 t27 t28 t29 t30 t31 t32 t33 t34 t35 : V) (h : Hp) : runK (xX s 65 wl k false) (bodyK s.P Try.f65) xk65_1 (.exit 0) ⟨[t0, t1, t2, t3, t4, t5, t6, t7, t8, t9, t10, t11, t12, t13, t14, t15, t16, t17, t18, t19, t20, t21, t22, t23, t24, t25, t26, t27, t28, t29, t30, t31, t32, t33, t34, t35], h⟩ =
  some ((V.lit (Value.bool true)), h) :=
  (rt_block_eq (go_seq (go_reg0
  (go_op0 rfl rfl (st_id (v := (V.lit (Value.bool true))) (H := h) (by kernel_rfl)
  (go_end0 (by kernel_rfl)
  (go_ret (by kernel_rfl))))))))
theorem xm65_2 (s : Sys) (K : Out → St → Option (V × Hp)) (k wl : Nat) (rd : Bool) (n n0 : Nat) (m0 : Nat) (ac : List Nat × List Nat) (t0 t1 t2 t3 t4 t5 t6 t7 t8 t9 t10 t11 t12 t13 t14 t15 t16 t17 t18 t19 t20 t21 t22 t23 t24 t25 t26 t27 t28 t29 t30 t31 t32 t33 t34 t35 : V) (h : Hp) : opsP (xX s 65 wl k rd) xg65_1 11 m0 ac (runK (xX s 65 wl k rd) (nextK (xX s 65 wl k rd) xl65_0 n0 K n) xk65_2) ⟨[t0, t1, t2, t3, t4, t5, t6, t7, t8, t9, t10, t11, t12, t13, t14, t15, t16, t17, t18, t19, t20, t21, t22, t23, t24, t25, t26, t27, t28, t29, t30, t31, t32, t33, t34, t35], h⟩ =
  bm (vPick t29 (V.lit (Value.bool true)) t34) h fun v29 h30 =>
  cnd v29 (
  K .ret ⟨[t0, t1, t2, t3, (V.lit (Value.bool false)), t5, t6, t7, t8, t9, t10, t11, t12, t13, t14, t15, t16, t17, t18, t19, t20, t21, t22, t23, t24, t25, t26, t27, t28, t29, t30, t31, t32, t33, t34, v29], h30⟩) (
  bm (vBin s.P .add 3 t6 (V.lit (Value.int .i64 1))) h30 fun v31 h32 =>
  itX (xX s 65 wl k rd) xl65_0 n0 K n ⟨[(V.kill n0 t0), (V.kill n0 t1), (V.kill n0 t2), (V.kill n0 t3), (V.kill n0 t4), (V.kill n0 t5), (V.kill n0 v31), (V.kill n0 t7), (V.kill n0 t8), (V.kill n0 t9), (V.kill n0 t10), (V.kill n0 t11), (V.kill n0 t12), (V.kill n0 t13), (V.kill n0 t14), (V.kill n0 t15), (V.kill n0 t16), (V.kill n0 t17), .junk, .junk, .junk, .junk, .junk, .junk, .junk, .junk, .junk, .junk, .junk, .junk, .junk, .junk, .junk, .junk, .junk, .junk], cutH n0 h32⟩) :=
  (go_op0 rfl rfl (st_bm (by kernel_rfl) fun v29 h30 =>
  (go_end0 (by kernel_rfl)
  (go_cond (by kernel_rfl)
  (go_seq (go_reg0
  (go_op0 rfl rfl (st_id (v := (V.lit (Value.bool false))) (H := h30) (by kernel_rfl)
  (go_end0 (by kernel_rfl)
  (go_ret (rt_block_ret (rt_seq_ret (by kernel_rfl)))))))))
  (go_skip (rt_block_norm (go_reg0
  (go_op0 rfl rfl (st_id (v := t6) (H := h30) (by kernel_rfl)
  (go_op0 rfl rfl (st_bm (by kernel_rfl) fun v31 h32 =>
  (go_op0 rfl rfl (st_id (v := v31) (H := h32) (by kernel_rfl)
  (go_end0 (by kernel_rfl)
  (by kernel_rfl)))))))))))))))
theorem xk65_0_ret (cx : Cx) (K : Out → St → Option (V × Hp)) (s : St) : runK cx K xk65_0 .ret s = K .ret s := by kernel_rfl
theorem xk65_1_ret (cx : Cx) (K : Out → St → Option (V × Hp)) (s : St) : runK cx K xk65_1 .ret s = K .ret s := by kernel_rfl
theorem xk65_2_ret (cx : Cx) (K : Out → St → Option (V × Hp)) (s : St) : runK cx K xk65_2 .ret s = K .ret s := by kernel_rfl
-- names: xb65, xz65, xm65_0, xr65_0, xj65_1, xm65_2, xk65_0_ret, xk65_1_ret, xk65_2_ret
/-! 66 poacher/poacherref21.after: 0 t, 1 s, 2 e, 3 t, 4 s, 5 e, 7 k, 8 up, 9 i -/
noncomputable def xg66_0 : Code := codeAt (bodyOf Try.f66) [1, 1, 1, 0, 1, 0, 1, 0, 0]
noncomputable def xk66_0 : List Fr := [.seq (codeAt (bodyOf Try.f66) [1, 1, 1, 0, 1, 0, 1, 0, 1]), .block 0, .seq (codeAt (bodyOf Try.f66) [1, 1, 1, 1])]
noncomputable def xg66_1 : Code := codeAt (bodyOf Try.f66) [1, 1, 1, 0, 1, 0, 1, 1, 1, 0, 0]
noncomputable def xk66_1 : List Fr := [.seq (codeAt (bodyOf Try.f66) [1, 1, 1, 0, 1, 0, 1, 1, 1, 0, 1]), .block 0, .seq (codeAt (bodyOf Try.f66) [1, 1, 1, 1])]
noncomputable def xg66_2 : Code := codeAt (bodyOf Try.f66) [1, 1, 1, 0, 1, 0, 1, 1, 1, 1, 1, 0, 0]
noncomputable def xk66_2 : List Fr := [.seq (codeAt (bodyOf Try.f66) [1, 1, 1, 0, 1, 0, 1, 1, 1, 1, 1, 0, 1]), .block 0, .seq (codeAt (bodyOf Try.f66) [1, 1, 1, 1])]
noncomputable def xl66_0 : Code := codeAt (bodyOf Try.f66) [1, 1, 1, 0, 1, 0, 1, 1, 1, 1, 1, 1, 1, 1, 1, 0, 0, 1, 0, 0]
noncomputable def xk66_3 : List Fr := [.block 1, .seq (codeAt (bodyOf Try.f66) [1, 1, 1, 0, 1, 0, 1, 1, 1, 1, 1, 1, 1, 1, 1, 0, 1]), .block 0, .seq (codeAt (bodyOf Try.f66) [1, 1, 1, 1])]
theorem xb66 (s : Sys) (k wl : Nat) (t0 t1 t2 : V) (h : Hp) : bodyV (xX s 66 wl k false) Try.f66 [t0, t1, t2] h =
  bp (opBox t2 h) fun v1 h2 =>
  bm (vFieldAddr s.P 25 v1 1) h2 fun v3 h4 =>
  bm (vLoad s.P 3 v3 h4) h4 fun v5 h6 =>
  bp (callV (xX s 66 wl k false) false true (.fn (.func 61) [] []) [t0, v5] h6) fun v7 h8 =>
  bm (vFieldAddr s.P 25 v1 0) h8 fun v9 h10 =>
  bm (vLoad s.P 3 v9 h10) h10 fun v11 h12 =>
  bm (vBin s.P .eql 3 v11 (V.lit (Value.int .i64 0))) h12 fun v13 h14 =>
  cnd v13 (
  bm (vBin s.P .eql 3 v7 (V.lit (Value.int .i64 (-1)))) h14 fun v15 h16 =>
  gd v15 (
  bm (vIndexAddr s.P 23 t1 v5 h16) h16 fun v17 h18 =>
  bm (vLoad s.P 3 v17 h18) h18 fun v19 h20 =>
  bm (vBin s.P .eql 3 v19 (V.lit (Value.int .i64 0))) h20 fun v21 h22 =>
  opsP (xX s 66 wl k false) xg66_0 8 h14.length ([], []) (runK (xX s 66 wl k false) (bodyK s.P Try.f66) xk66_0) ⟨(t0 :: t1 :: t2 :: uu :: uu :: v1 :: (V.lit (Value.int .i64 0)) :: v5 :: v7 :: uu :: v3 :: v5 :: t0 :: v5 :: v7 :: v9 :: v11 :: v13 :: v13 :: v7 :: v15 :: (V.lit (Value.bool true)) :: t1 :: v5 :: v17 :: v19 :: v21 :: uu :: uu :: uu :: uu :: uu :: uu :: uu :: uu :: uu :: uu :: uu :: uu :: uu :: uu :: uu :: uu :: uu :: uu :: uu :: uu :: uu :: uu :: uu :: uu :: uu :: uu :: uu :: uu :: uu :: uu :: uu :: uu :: uu :: uu :: uu :: uu :: uu :: uu :: uu :: uu :: uu :: uu :: uu :: uu :: uu :: uu :: uu :: uu :: uu :: uu :: uu :: uu :: uu :: uu :: uu :: uu :: uu :: uu :: uu :: uu :: uu :: uu :: uu :: uu :: uu :: uu :: []), h22⟩) (
  opsP (xX s 66 wl k false) xg66_0 8 h14.length ([], []) (runK (xX s 66 wl k false) (bodyK s.P Try.f66) xk66_0) ⟨(t0 :: t1 :: t2 :: uu :: uu :: v1 :: (V.lit (Value.int .i64 0)) :: v5 :: v7 :: uu :: v3 :: v5 :: t0 :: v5 :: v7 :: v9 :: v11 :: v13 :: v13 :: v7 :: v15 :: (V.lit (Value.bool false)) :: uu :: uu :: uu :: uu :: uu :: uu :: uu :: uu :: uu :: uu :: uu :: uu :: uu :: uu :: uu :: uu :: uu :: uu :: uu :: uu :: uu :: uu :: uu :: uu :: uu :: uu :: uu :: uu :: uu :: uu :: uu :: uu :: uu :: uu :: uu :: uu :: uu :: uu :: uu :: uu :: uu :: uu :: uu :: uu :: uu :: uu :: uu :: uu :: uu :: uu :: uu :: uu :: uu :: uu :: uu :: uu :: uu :: uu :: uu :: uu :: uu :: uu :: uu :: uu :: uu :: uu :: uu :: uu :: uu :: uu :: uu :: []), h16⟩) (
  opsP (xX s 66 wl k false) xg66_0 4 h14.length ([], []) (runK (xX s 66 wl k false) (bodyK s.P Try.f66) xk66_0) ⟨(t0 :: t1 :: t2 :: uu :: uu :: v1 :: (V.lit (Value.int .i64 0)) :: v5 :: v7 :: uu :: v3 :: v5 :: t0 :: v5 :: v7 :: v9 :: v11 :: v13 :: v13 :: v7 :: v15 :: v15 :: uu :: uu :: uu :: uu :: uu :: uu :: uu :: uu :: uu :: uu :: uu :: uu :: uu :: uu :: uu :: uu :: uu :: uu :: uu :: uu :: uu :: uu :: uu :: uu :: uu :: uu :: uu :: uu :: uu :: uu :: uu :: uu :: uu :: uu :: uu :: uu :: uu :: uu :: uu :: uu :: uu :: uu :: uu :: uu :: uu :: uu :: uu :: uu :: uu :: uu :: uu :: uu :: uu :: uu :: uu :: uu :: uu :: uu :: uu :: uu :: uu :: uu :: uu :: uu :: uu :: uu :: uu :: uu :: uu :: uu :: uu :: []), h16⟩)) (
  bm (vBin s.P .eql 3 v11 (V.lit (Value.int .i64 1))) h14 fun v23 h24 =>
  cnd v23 (
  bm (vBin s.P .eql 3 v7 (V.lit (Value.int .i64 (-1)))) h24 fun v25 h26 =>
  gd v25 (
  bm (vIndexAddr s.P 23 t1 v5 h26) h26 fun v27 h28 =>
  bm (vLoad s.P 3 v27 h28) h28 fun v29 h30 =>
  bm (vBin s.P .eql 3 v29 (V.lit (Value.int .i64 0))) h30 fun v31 h32 =>
  opsP (xX s 66 wl k false) xg66_1 8 h24.length ([], []) (runK (xX s 66 wl k false) (bodyK s.P Try.f66) xk66_1) ⟨(t0 :: t1 :: t2 :: uu :: uu :: v1 :: (V.lit (Value.int .i64 0)) :: v5 :: v7 :: uu :: v3 :: v5 :: t0 :: v5 :: v7 :: v9 :: v11 :: v13 :: v13 :: uu :: uu :: uu :: uu :: uu :: uu :: uu :: uu :: uu :: v23 :: v23 :: v7 :: v25 :: (V.lit (Value.bool true)) :: t1 :: v5 :: v27 :: v29 :: v31 :: uu :: uu :: uu :: uu :: uu :: uu :: uu :: uu :: uu :: uu :: uu :: uu :: uu :: uu :: uu :: uu :: uu :: uu :: uu :: uu :: uu :: uu :: uu :: uu :: uu :: uu :: uu :: uu :: uu :: uu :: uu :: uu :: uu :: uu :: uu :: uu :: uu :: uu :: uu :: uu :: uu :: uu :: uu :: uu :: uu :: uu :: uu :: uu :: uu :: uu :: uu :: uu :: uu :: uu :: uu :: []), h32⟩) (
  opsP (xX s 66 wl k false) xg66_1 8 h24.length ([], []) (runK (xX s 66 wl k false) (bodyK s.P Try.f66) xk66_1) ⟨(t0 :: t1 :: t2 :: uu :: uu :: v1 :: (V.lit (Value.int .i64 0)) :: v5 :: v7 :: uu :: v3 :: v5 :: t0 :: v5 :: v7 :: v9 :: v11 :: v13 :: v13 :: uu :: uu :: uu :: uu :: uu :: uu :: uu :: uu :: uu :: v23 :: v23 :: v7 :: v25 :: (V.lit (Value.bool false)) :: uu :: uu :: uu :: uu :: uu :: uu :: uu :: uu :: uu :: uu :: uu :: uu :: uu :: uu :: uu :: uu :: uu :: uu :: uu :: uu :: uu :: uu :: uu :: uu :: uu :: uu :: uu :: uu :: uu :: uu :: uu :: uu :: uu :: uu :: uu :: uu :: uu :: uu :: uu :: uu :: uu :: uu :: uu :: uu :: uu :: uu :: uu :: uu :: uu :: uu :: uu :: uu :: uu :: uu :: uu :: uu :: uu :: uu :: uu :: uu :: []), h26⟩) (
  opsP (xX s 66 wl k false) xg66_1 4 h24.length ([], []) (runK (xX s 66 wl k false) (bodyK s.P Try.f66) xk66_1) ⟨(t0 :: t1 :: t2 :: uu :: uu :: v1 :: (V.lit (Value.int .i64 0)) :: v5 :: v7 :: uu :: v3 :: v5 :: t0 :: v5 :: v7 :: v9 :: v11 :: v13 :: v13 :: uu :: uu :: uu :: uu :: uu :: uu :: uu :: uu :: uu :: v23 :: v23 :: v7 :: v25 :: v25 :: uu :: uu :: uu :: uu :: uu :: uu :: uu :: uu :: uu :: uu :: uu :: uu :: uu :: uu :: uu :: uu :: uu :: uu :: uu :: uu :: uu :: uu :: uu :: uu :: uu :: uu :: uu :: uu :: uu :: uu :: uu :: uu :: uu :: uu :: uu :: uu :: uu :: uu :: uu :: uu :: uu :: uu :: uu :: uu :: uu :: uu :: uu :: uu :: uu :: uu :: uu :: uu :: uu :: uu :: uu :: uu :: uu :: uu :: uu :: uu :: []), h26⟩)) (
  bm (vBin s.P .eql 3 v11 (V.lit (Value.int .i64 3))) h24 fun v33 h34 =>
  cnd v33 (
  bm (vBin s.P .geq 3 v7 (V.lit (Value.int .i64 0))) h34 fun v35 h36 =>
  gd v35 (
  bm (vIndexAddr s.P 23 t1 v7 h36) h36 fun v37 h38 =>
  bm (vLoad s.P 3 v37 h38) h38 fun v39 h40 =>
  bm (vBin s.P .eql 3 v39 (V.lit (Value.int .i64 2))) h40 fun v41 h42 =>
  opsP (xX s 66 wl k false) xg66_2 8 h34.length ([], []) (runK (xX s 66 wl k false) (bodyK s.P Try.f66) xk66_2) ⟨(t0 :: t1 :: t2 :: uu :: uu :: v1 :: (V.lit (Value.int .i64 0)) :: v5 :: v7 :: uu :: v3 :: v5 :: t0 :: v5 :: v7 :: v9 :: v11 :: v13 :: v13 :: uu :: uu :: uu :: uu :: uu :: uu :: uu :: uu :: uu :: v23 :: v23 :: uu :: uu :: uu :: uu :: uu :: uu :: uu :: uu :: uu :: v33 :: v33 :: v7 :: v35 :: (V.lit (Value.bool true)) :: t1 :: v7 :: v37 :: v39 :: v41 :: uu :: uu :: uu :: uu :: uu :: uu :: uu :: uu :: uu :: uu :: uu :: uu :: uu :: uu :: uu :: uu :: uu :: uu :: uu :: uu :: uu :: uu :: uu :: uu :: uu :: uu :: uu :: uu :: uu :: uu :: uu :: uu :: uu :: uu :: uu :: uu :: uu :: uu :: uu :: uu :: uu :: uu :: uu :: uu :: []), h42⟩) (
  opsP (xX s 66 wl k false) xg66_2 8 h34.length ([], []) (runK (xX s 66 wl k false) (bodyK s.P Try.f66) xk66_2) ⟨(t0 :: t1 :: t2 :: uu :: uu :: v1 :: (V.lit (Value.int .i64 0)) :: v5 :: v7 :: uu :: v3 :: v5 :: t0 :: v5 :: v7 :: v9 :: v11 :: v13 :: v13 :: uu :: uu :: uu :: uu :: uu :: uu :: uu :: uu :: uu :: v23 :: v23 :: uu :: uu :: uu :: uu :: uu :: uu :: uu :: uu :: uu :: v33 :: v33 :: v7 :: v35 :: (V.lit (Value.bool false)) :: uu :: uu :: uu :: uu :: uu :: uu :: uu :: uu :: uu :: uu :: uu :: uu :: uu :: uu :: uu :: uu :: uu :: uu :: uu :: uu :: uu :: uu :: uu :: uu :: uu :: uu :: uu :: uu :: uu :: uu :: uu :: uu :: uu :: uu :: uu :: uu :: uu :: uu :: uu :: uu :: uu :: uu :: uu :: uu :: uu :: uu :: uu :: uu :: uu :: []), h36⟩) (
  opsP (xX s 66 wl k false) xg66_2 4 h34.length ([], []) (runK (xX s 66 wl k false) (bodyK s.P Try.f66) xk66_2) ⟨(t0 :: t1 :: t2 :: uu :: uu :: v1 :: (V.lit (Value.int .i64 0)) :: v5 :: v7 :: uu :: v3 :: v5 :: t0 :: v5 :: v7 :: v9 :: v11 :: v13 :: v13 :: uu :: uu :: uu :: uu :: uu :: uu :: uu :: uu :: uu :: v23 :: v23 :: uu :: uu :: uu :: uu :: uu :: uu :: uu :: uu :: uu :: v33 :: v33 :: v7 :: v35 :: v35 :: uu :: uu :: uu :: uu :: uu :: uu :: uu :: uu :: uu :: uu :: uu :: uu :: uu :: uu :: uu :: uu :: uu :: uu :: uu :: uu :: uu :: uu :: uu :: uu :: uu :: uu :: uu :: uu :: uu :: uu :: uu :: uu :: uu :: uu :: uu :: uu :: uu :: uu :: uu :: uu :: uu :: uu :: uu :: uu :: uu :: uu :: uu :: uu :: uu :: []), h36⟩)) (
  bm (vBin s.P .eql 3 v11 (V.lit (Value.int .i64 2))) h34 fun v43 h44 =>
  cnd v43 (
  bm (vIndexAddr s.P 23 t1 v5 h44) h44 fun v45 h46 =>
  bm (vLoad s.P 3 v45 h46) h46 fun v47 h48 =>
  bm (vBin s.P .eql 3 v47 (V.lit (Value.int .i64 1))) h48 fun v49 h50 =>
  cnd v49 (
  some ((V.lit (Value.int .i64 2)), h50)) (
  some ((V.lit (Value.int .i64 (-1))), h50))) (
  bm (vBin s.P .eql 3 v11 (V.lit (Value.int .i64 4))) h44 fun v51 h52 =>
  cnd v51 (
  itX (xX s 66 wl k false) xl66_0 h52.length (runK (xX s 66 wl k false) (bodyK s.P Try.f66) xk66_3) k ⟨((V.kill h52.length t0) :: (V.kill h52.length t1) :: (V.kill h52.length t2) :: (V.kill h52.length uu) :: (V.kill h52.length uu) :: (V.kill h52.length v1) :: (V.lit (Value.int .i64 0)) :: (V.kill h52.length v5) :: (V.kill h52.length v7) :: (V.lit (Value.int .i64 0)) :: (V.kill h52.length v3) :: (V.kill h52.length v5) :: (V.kill h52.length t0) :: (V.kill h52.length v5) :: (V.kill h52.length v7) :: (V.kill h52.length v9) :: (V.kill h52.length v11) :: (V.kill h52.length v13) :: (V.kill h52.length v13) :: (V.kill h52.length uu) :: (V.kill h52.length uu) :: (V.kill h52.length uu) :: (V.kill h52.length uu) :: (V.kill h52.length uu) :: (V.kill h52.length uu) :: (V.kill h52.length uu) :: (V.kill h52.length uu) :: (V.kill h52.length uu) :: (V.kill h52.length v23) :: (V.kill h52.length v23) :: (V.kill h52.length uu) :: (V.kill h52.length uu) :: (V.kill h52.length uu) :: (V.kill h52.length uu) :: (V.kill h52.length uu) :: (V.kill h52.length uu) :: (V.kill h52.length uu) :: (V.kill h52.length uu) :: (V.kill h52.length uu) :: (V.kill h52.length v33) :: (V.kill h52.length v33) :: (V.kill h52.length uu) :: (V.kill h52.length uu) :: (V.kill h52.length uu) :: (V.kill h52.length uu) :: (V.kill h52.length uu) :: (V.kill h52.length uu) :: (V.kill h52.length uu) :: (V.kill h52.length uu) :: (V.kill h52.length uu) :: (V.kill h52.length uu) :: (V.kill h52.length uu) :: (V.kill h52.length uu) :: (V.kill h52.length uu) :: (V.kill h52.length uu) :: (V.kill h52.length uu) :: (V.kill h52.length uu) :: (V.kill h52.length v43) :: (V.kill h52.length v43) :: (V.kill h52.length uu) :: (V.kill h52.length uu) :: (V.kill h52.length uu) :: (V.kill h52.length uu) :: (V.kill h52.length uu) :: (V.kill h52.length v51) :: (V.kill h52.length v51) :: .junk :: .junk :: .junk :: .junk :: .junk :: .junk :: .junk :: .junk :: .junk :: .junk :: .junk :: .junk :: .junk :: .junk :: .junk :: .junk :: .junk :: .junk :: .junk :: .junk :: .junk :: .junk :: (V.kill h52.length uu) :: (V.kill h52.length uu) :: (V.kill h52.length uu) :: (V.kill h52.length uu) :: (V.kill h52.length uu) :: []), cutH h52.length h52⟩) (
  some ((V.lit (Value.int .i64 (-1))), h52)))))) :=
  bodyV_run rfl (go_seq (go_reg0
  (go_op0 rfl rfl (st_bp (by kernel_rfl) fun v1 h2 =>
  (go_op0 rfl rfl (st_id (v := (V.lit (Value.int .i64 0))) (H := h2) (by kernel_rfl)
  (go_end0 (by kernel_rfl)
  (go_seq (go_reg0
  (go_op0 rfl rfl (st_bm (by kernel_rfl) fun v3 h4 =>
  (go_op0 rfl rfl (st_bm (by kernel_rfl) fun v5 h6 =>
  (go_op0 rfl rfl (st_id (v := v5) (H := h6) (by kernel_rfl)
  (go_end0 (by kernel_rfl)
  (go_seq (go_reg0
  (go_op0 rfl rfl (st_id (v := t0) (H := h6) (by kernel_rfl)
  (go_op0 rfl rfl (st_id (v := v5) (H := h6) (by kernel_rfl)
  (go_op0 rfl rfl (st_bp (by kernel_rfl) fun v7 h8 =>
  (go_op0 rfl rfl (st_id (v := v7) (H := h8) (by kernel_rfl)
  (go_end0 (by kernel_rfl)
  (go_seq (go_seq (go_reg0
  (go_op0 rfl rfl (st_bm (by kernel_rfl) fun v9 h10 =>
  (go_op0 rfl rfl (st_bm (by kernel_rfl) fun v11 h12 =>
  (go_end0 (by kernel_rfl)
  (go_block (go_seq (go_reg0
  (go_op0 rfl rfl (st_bm (by kernel_rfl) fun v13 h14 =>
  (go_op0 rfl rfl (st_id (v := v13) (H := h14) (by kernel_rfl)
  (go_end0 (by kernel_rfl)
  (go_cond (by kernel_rfl)
  (go_seq (go_reg0
  (go_op0 rfl rfl (st_id (v := v7) (H := h14) (by kernel_rfl)
  (go_op0 rfl rfl (st_bm (by kernel_rfl) fun v15 h16 =>
  (go_op0 rfl rfl (st_id (v := v15) (H := h16) (by kernel_rfl)
  (go_gdT0 rfl rfl rfl (by kernel_rfl)
  (st_id (v := t1) (H := h16) (by kernel_rfl)
  (go_run0 rfl rfl rfl (by kernel_rfl) (st_id (v := v5) (H := h16) (by kernel_rfl)
  (go_run0 rfl rfl rfl (by kernel_rfl) (st_bm (by kernel_rfl) fun v17 h18 =>
  (go_run0 rfl rfl rfl (by kernel_rfl) (st_bm (by kernel_rfl) fun v19 h20 =>
  (go_run0 rfl rfl rfl (by kernel_rfl) (st_bm (by kernel_rfl) fun v21 h22 =>
  (by kernel_rfl))))))))))
  (go_skip0 rfl rfl rfl (by kernel_rfl)
  (go_skip0 rfl rfl rfl (by kernel_rfl)
  (go_skip0 rfl rfl rfl (by kernel_rfl)
  (go_skip0 rfl rfl rfl (by kernel_rfl)
  (by kernel_rfl)))))
  (by kernel_rfl))))))))))
  (go_seq (go_reg0
  (go_op0 rfl rfl (st_bm (by kernel_rfl) fun v23 h24 =>
  (go_op0 rfl rfl (st_id (v := v23) (H := h24) (by kernel_rfl)
  (go_end0 (by kernel_rfl)
  (go_cond (by kernel_rfl)
  (go_seq (go_reg0
  (go_op0 rfl rfl (st_id (v := v7) (H := h24) (by kernel_rfl)
  (go_op0 rfl rfl (st_bm (by kernel_rfl) fun v25 h26 =>
  (go_op0 rfl rfl (st_id (v := v25) (H := h26) (by kernel_rfl)
  (go_gdT0 rfl rfl rfl (by kernel_rfl)
  (st_id (v := t1) (H := h26) (by kernel_rfl)
  (go_run0 rfl rfl rfl (by kernel_rfl) (st_id (v := v5) (H := h26) (by kernel_rfl)
  (go_run0 rfl rfl rfl (by kernel_rfl) (st_bm (by kernel_rfl) fun v27 h28 =>
  (go_run0 rfl rfl rfl (by kernel_rfl) (st_bm (by kernel_rfl) fun v29 h30 =>
  (go_run0 rfl rfl rfl (by kernel_rfl) (st_bm (by kernel_rfl) fun v31 h32 =>
  (by kernel_rfl))))))))))
  (go_skip0 rfl rfl rfl (by kernel_rfl)
  (go_skip0 rfl rfl rfl (by kernel_rfl)
  (go_skip0 rfl rfl rfl (by kernel_rfl)
  (go_skip0 rfl rfl rfl (by kernel_rfl)
  (by kernel_rfl)))))
  (by kernel_rfl))))))))))
  (go_seq (go_reg0
  (go_op0 rfl rfl (st_bm (by kernel_rfl) fun v33 h34 =>
  (go_op0 rfl rfl (st_id (v := v33) (H := h34) (by kernel_rfl)
  (go_end0 (by kernel_rfl)
  (go_cond (by kernel_rfl)
  (go_seq (go_reg0
  (go_op0 rfl rfl (st_id (v := v7) (H := h34) (by kernel_rfl)
  (go_op0 rfl rfl (st_bm (by kernel_rfl) fun v35 h36 =>
  (go_op0 rfl rfl (st_id (v := v35) (H := h36) (by kernel_rfl)
  (go_gdT0 rfl rfl rfl (by kernel_rfl)
  (st_id (v := t1) (H := h36) (by kernel_rfl)
  (go_run0 rfl rfl rfl (by kernel_rfl) (st_id (v := v7) (H := h36) (by kernel_rfl)
  (go_run0 rfl rfl rfl (by kernel_rfl) (st_bm (by kernel_rfl) fun v37 h38 =>
  (go_run0 rfl rfl rfl (by kernel_rfl) (st_bm (by kernel_rfl) fun v39 h40 =>
  (go_run0 rfl rfl rfl (by kernel_rfl) (st_bm (by kernel_rfl) fun v41 h42 =>
  (by kernel_rfl))))))))))
  (go_skip0 rfl rfl rfl (by kernel_rfl)
  (go_skip0 rfl rfl rfl (by kernel_rfl)
  (go_skip0 rfl rfl rfl (by kernel_rfl)
  (go_skip0 rfl rfl rfl (by kernel_rfl)
  (by kernel_rfl)))))
  (by kernel_rfl))))))))))
  (go_seq (go_reg0
  (go_op0 rfl rfl (st_bm (by kernel_rfl) fun v43 h44 =>
  (go_op0 rfl rfl (st_id (v := v43) (H := h44) (by kernel_rfl)
  (go_end0 (by kernel_rfl)
  (go_cond (by kernel_rfl)
  (go_seq (go_reg0
  (go_op0 rfl rfl (st_id (v := t1) (H := h44) (by kernel_rfl)
  (go_op0 rfl rfl (st_id (v := v5) (H := h44) (by kernel_rfl)
  (go_op0 rfl rfl (st_bm (by kernel_rfl) fun v45 h46 =>
  (go_op0 rfl rfl (st_bm (by kernel_rfl) fun v47 h48 =>
  (go_op0 rfl rfl (st_bm (by kernel_rfl) fun v49 h50 =>
  (go_end0 (by kernel_rfl)
  (go_cond (by kernel_rfl)
  (go_seq (go_reg0
  (go_op0 rfl rfl (st_id (v := (V.lit (Value.int .i64 2))) (H := h50) (by kernel_rfl)
  (go_end0 (by kernel_rfl)
  (go_ret (rt_block_ret (rt_seq_ret (by kernel_rfl)))))))))
  (go_skip (rt_block_norm (go_seq (go_reg0
  (go_op0 rfl rfl (st_id (v := (V.lit (Value.int .i64 (-1)))) (H := h50) (by kernel_rfl)
  (go_end0 (by kernel_rfl)
  (go_ret (by kernel_rfl)))))))))))))))))))))))
  (go_seq (go_reg0
  (go_op0 rfl rfl (st_bm (by kernel_rfl) fun v51 h52 =>
  (go_op0 rfl rfl (st_id (v := v51) (H := h52) (by kernel_rfl)
  (go_end0 (by kernel_rfl)
  (go_cond (by kernel_rfl)
  (go_seq (go_seq (go_reg0
  (go_op0 rfl rfl (st_id (v := (V.lit (Value.int .i64 0))) (H := h52) (by kernel_rfl)
  (go_end0 (by kernel_rfl)
  (go_block (by kernel_rfl))))))))
  (go_skip (rt_block_norm (go_seq (go_reg0
  (go_op0 rfl rfl (st_id (v := (V.lit (Value.int .i64 (-1)))) (H := h52) (by kernel_rfl)
  (go_end0 (by kernel_rfl)
  (go_ret (by kernel_rfl)))))))))))))))))))))))))))))))))))))))))))))))))))))))))))))))))))))))))))))))))))))
theorem xe66 (k wl : Nat) (t0 t1 t2 : V) (h : Hp) : evF Try.prog xM (k + 1) wl 66 [t0, t1, t2] h = bodyV (xX (xS k) 66 wl k false) Try.f66 [t0, t1, t2] h := by kernel_rfl
theorem xz66 (P : Program) (t0 t1 t2 t3 t4 t5 t6 t7 t8 t9 t10 t11 t12 t13 t14 t15 t16 t17 t18 t19 t20 t21 t22 t23 t24 t25 t26 t27 t28 t29 t30 t31 t32 t33 t34 t35 t36 t37 t38 t39 t40 t41 t42 t43 t44 t45 t46 t47 t48 t49 t50 t51 t52 t53 t54 t55 t56 t57 t58 t59 t60 t61 t62 t63 t64 t65 t66 t67 t68 t69 t70 t71 t72 t73 t74 t75 t76 t77 t78 t79 t80 t81 t82 t83 t84 t85 t86 t87 t88 t89 t90 t91 t92 : V) (h : Hp) : bodyK P Try.f66 .ret ⟨(t0 :: t1 :: t2 :: t3 :: t4 :: t5 :: t6 :: t7 :: t8 :: t9 :: t10 :: t11 :: t12 :: t13 :: t14 :: t15 :: t16 :: t17 :: t18 :: t19 :: t20 :: t21 :: t22 :: t23 :: t24 :: t25 :: t26 :: t27 :: t28 :: t29 :: t30 :: t31 :: t32 :: t33 :: t34 :: t35 :: t36 :: t37 :: t38 :: t39 :: t40 :: t41 :: t42 :: t43 :: t44 :: t45 :: t46 :: t47 :: t48 :: t49 :: t50 :: t51 :: t52 :: t53 :: t54 :: t55 :: t56 :: t57 :: t58 :: t59 :: t60 :: t61 :: t62 :: t63 :: t64 :: t65 :: t66 :: t67 :: t68 :: t69 :: t70 :: t71 :: t72 :: t73 :: t74 :: t75 :: t76 :: t77 :: t78 :: t79 :: t80 :: t81 :: t82 :: t83 :: t84 :: t85 :: t86 :: t87 :: t88 :: t89 :: t90 :: t91 :: t92 :: []), h⟩ = some (t6, h) := by kernel_rfl
theorem xm66_0 (s : Sys) (k wl : Nat) (m0 : Nat) (ac : List Nat × List Nat) (t0 t1 t2 t3 t4 t5 t6 t7 t8 t9 t10 t11 t12 t13 t14 t15 t16 t17 t18 t19 t20 t21 t22 t23 t24 t25 t26 t27 t28 t29 t30 t31 t32 t33 t34 t35 t36 t37 t38 t39 t40 t41 t42 t43 t44 t45 t46 t47 t48 t49 t50 t51 t52 t53 t54 t55 t56 t57 t58 t59 t60 t61 t62 t63 t64 t65 t66 t67 t68 t69 t70 t71 t72 t73 t74 t75 t76 t77 t78 t79 t80 t81 t82 t83 t84 t85 t86 t87 t88 t89 t90 t91 t92 : V) (h : Hp) : opsP (xX s 66 wl k false) xg66_0 8 m0 ac (runK (xX s 66 wl k false) (bodyK s.P Try.f66) xk66_0) ⟨(t0 :: t1 :: t2 :: t3 :: t4 :: t5 :: t6 :: t7 :: t8 :: t9 :: t10 :: t11 :: t12 :: t13 :: t14 :: t15 :: t16 :: t17 :: t18 :: t19 :: t20 :: t21 :: t22 :: t23 :: t24 :: t25 :: t26 :: t27 :: t28 :: t29 :: t30 :: t31 :: t32 :: t33 :: t34 :: t35 :: t36 :: t37 :: t38 :: t39 :: t40 :: t41 :: t42 :: t43 :: t44 :: t45 :: t46 :: t47 :: t48 :: t49 :: t50 :: t51 :: t52 :: t53 :: t54 :: t55 :: t56 :: t57 :: t58 :: t59 :: t60 :: t61 :: t62 :: t63 :: t64 :: t65 :: t66 :: t67 :: t68 :: t69 :: t70 :: t71 :: t72 :: t73 :: t74 :: t75 :: t76 :: t77 :: t78 :: t79 :: t80 :: t81 :: t82 :: t83 :: t84 :: t85 :: t86 :: t87 :: t88 :: t89 :: t90 :: t91 :: t92 :: []), h⟩ =
  bm (vPick t21 t26 (V.lit (Value.bool false))) h fun v53 h54 =>
  cnd v53 (
  some ((V.lit (Value.int .i64 1)), h54)) (
  some ((V.lit (Value.int .i64 (-1))), h54)) :=
  (go_op0 rfl rfl (st_bm (by kernel_rfl) fun v53 h54 =>
  (go_end0 (by kernel_rfl)
  (go_cond (by kernel_rfl)
  (go_seq (go_reg0
  (go_op0 rfl rfl (st_id (v := (V.lit (Value.int .i64 1))) (H := h54) (by kernel_rfl)
  (go_end0 (by kernel_rfl)
  (go_ret (rt_block_ret (rt_seq_ret (by kernel_rfl)))))))))
  (go_skip (rt_block_norm (go_seq (go_reg0
  (go_op0 rfl rfl (st_id (v := (V.lit (Value.int .i64 (-1)))) (H := h54) (by kernel_rfl)
  (go_end0 (by kernel_rfl)
  (go_ret (by kernel_rfl)))))))))))))
theorem xm66_1 (s : Sys) (k wl : Nat) (m0 : Nat) (ac : List Nat × List Nat) (t0 t1 t2 t3 t4 t5 t6 t7 t8 t9 t10 t11 t12 t13 t14 t15 t16 t17 t18 t19 t20 t21 t22 t23 t24 t25 t26 t27 t28 t29 t30 t31 t32 t33 t34 t35 t36 t37 t38 t39 t40 t41 t42 t43 t44 t45 t46 t47 t48 t49 t50 t51 t52 t53 t54 t55 t56 t57 t58 t59 t60 t61 t62 t63 t64 t65 t66 t67 t68 t69 t70 t71 t72 t73 t74 t75 t76 t77 t78 t79 t80 t81 t82 t83 t84 t85 t86 t87 t88 t89 t90 t91 t92 : V) (h : Hp) : opsP (xX s 66 wl k false) xg66_1 8 m0 ac (runK (xX s 66 wl k false) (bodyK s.P Try.f66) xk66_1) ⟨(t0 :: t1 :: t2 :: t3 :: t4 :: t5 :: t6 :: t7 :: t8 :: t9 :: t10 :: t11 :: t12 :: t13 :: t14 :: t15 :: t16 :: t17 :: t18 :: t19 :: t20 :: t21 :: t22 :: t23 :: t24 :: t25 :: t26 :: t27 :: t28 :: t29 :: t30 :: t31 :: t32 :: t33 :: t34 :: t35 :: t36 :: t37 :: t38 :: t39 :: t40 :: t41 :: t42 :: t43 :: t44 :: t45 :: t46 :: t47 :: t48 :: t49 :: t50 :: t51 :: t52 :: t53 :: t54 :: t55 :: t56 :: t57 :: t58 :: t59 :: t60 :: t61 :: t62 :: t63 :: t64 :: t65 :: t66 :: t67 :: t68 :: t69 :: t70 :: t71 :: t72 :: t73 :: t74 :: t75 :: t76 :: t77 :: t78 :: t79 :: t80 :: t81 :: t82 :: t83 :: t84 :: t85 :: t86 :: t87 :: t88 :: t89 :: t90 :: t91 :: t92 :: []), h⟩ =
  bm (vPick t32 t37 (V.lit (Value.bool false))) h fun v55 h56 =>
  cnd v55 (
  some ((V.lit (Value.int .i64 0)), h56)) (
  some ((V.lit (Value.int .i64 (-1))), h56)) :=
  (go_op0 rfl rfl (st_bm (by kernel_rfl) fun v55 h56 =>
  (go_end0 (by kernel_rfl)
  (go_cond (by kernel_rfl)
  (go_seq (go_reg0
  (go_op0 rfl rfl (st_id (v := (V.lit (Value.int .i64 0))) (H := h56) (by kernel_rfl)
  (go_end0 (by kernel_rfl)
  (go_ret (rt_block_ret (rt_seq_ret (by kernel_rfl)))))))))
  (go_skip (rt_block_norm (go_seq (go_reg0
  (go_op0 rfl rfl (st_id (v := (V.lit (Value.int .i64 (-1)))) (H := h56) (by kernel_rfl)
  (go_end0 (by kernel_rfl)
  (go_ret (by kernel_rfl)))))))))))))
theorem xm66_2 (s : Sys) (k wl : Nat) (m0 : Nat) (ac : List Nat × List Nat) (t0 t1 t2 t3 t4 t5 t6 t7 t8 t9 t10 t11 t12 t13 t14 t15 t16 t17 t18 t19 t20 t21 t22 t23 t24 t25 t26 t27 t28 t29 t30 t31 t32 t33 t34 t35 t36 t37 t38 t39 t40 t41 t42 t43 t44 t45 t46 t47 t48 t49 t50 t51 t52 t53 t54 t55 t56 t57 t58 t59 t60 t61 t62 t63 t64 t65 t66 t67 t68 t69 t70 t71 t72 t73 t74 t75 t76 t77 t78 t79 t80 t81 t82 t83 t84 t85 t86 t87 t88 t89 t90 t91 t92 : V) (h : Hp) : opsP (xX s 66 wl k false) xg66_2 8 m0 ac (runK (xX s 66 wl k false) (bodyK s.P Try.f66) xk66_2) ⟨(t0 :: t1 :: t2 :: t3 :: t4 :: t5 :: t6 :: t7 :: t8 :: t9 :: t10 :: t11 :: t12 :: t13 :: t14 :: t15 :: t16 :: t17 :: t18 :: t19 :: t20 :: t21 :: t22 :: t23 :: t24 :: t25 :: t26 :: t27 :: t28 :: t29 :: t30 :: t31 :: t32 :: t33 :: t34 :: t35 :: t36 :: t37 :: t38 :: t39 :: t40 :: t41 :: t42 :: t43 :: t44 :: t45 :: t46 :: t47 :: t48 :: t49 :: t50 :: t51 :: t52 :: t53 :: t54 :: t55 :: t56 :: t57 :: t58 :: t59 :: t60 :: t61 :: t62 :: t63 :: t64 :: t65 :: t66 :: t67 :: t68 :: t69 :: t70 :: t71 :: t72 :: t73 :: t74 :: t75 :: t76 :: t77 :: t78 :: t79 :: t80 :: t81 :: t82 :: t83 :: t84 :: t85 :: t86 :: t87 :: t88 :: t89 :: t90 :: t91 :: t92 :: []), h⟩ =
  bm (vPick t43 t48 (V.lit (Value.bool false))) h fun v57 h58 =>
  gd v57 (
  bm (vIndexAddr s.P 23 t1 t7 h58) h58 fun v59 h60 =>
  bm (vLoad s.P 3 v59 h60) h60 fun v61 h62 =>
  bm (vBin s.P .eql 3 v61 (V.lit (Value.int .i64 0))) h62 fun v63 h64 =>
  opsP (xX s 66 wl k false) xg66_2 15 m0 ac (runK (xX s 66 wl k false) (bodyK s.P Try.f66) xk66_2) ⟨(t0 :: t1 :: t2 :: t3 :: t4 :: t5 :: t6 :: t7 :: t8 :: t9 :: t10 :: t11 :: t12 :: t13 :: t14 :: t15 :: t16 :: t17 :: t18 :: t19 :: t20 :: t21 :: t22 :: t23 :: t24 :: t25 :: t26 :: t27 :: t28 :: t29 :: t30 :: t31 :: t32 :: t33 :: t34 :: t35 :: t36 :: t37 :: t38 :: t39 :: t40 :: t41 :: t42 :: t43 :: t44 :: t45 :: t46 :: t47 :: t48 :: v57 :: (V.lit (Value.bool true)) :: t1 :: t7 :: v59 :: v61 :: v63 :: t56 :: t57 :: t58 :: t59 :: t60 :: t61 :: t62 :: t63 :: t64 :: t65 :: t66 :: t67 :: t68 :: t69 :: t70 :: t71 :: t72 :: t73 :: t74 :: t75 :: t76 :: t77 :: t78 :: t79 :: t80 :: t81 :: t82 :: t83 :: t84 :: t85 :: t86 :: t87 :: t88 :: t89 :: t90 :: t91 :: t92 :: []), h64⟩) (
  opsP (xX s 66 wl k false) xg66_2 15 m0 ac (runK (xX s 66 wl k false) (bodyK s.P Try.f66) xk66_2) ⟨(t0 :: t1 :: t2 :: t3 :: t4 :: t5 :: t6 :: t7 :: t8 :: t9 :: t10 :: t11 :: t12 :: t13 :: t14 :: t15 :: t16 :: t17 :: t18 :: t19 :: t20 :: t21 :: t22 :: t23 :: t24 :: t25 :: t26 :: t27 :: t28 :: t29 :: t30 :: t31 :: t32 :: t33 :: t34 :: t35 :: t36 :: t37 :: t38 :: t39 :: t40 :: t41 :: t42 :: t43 :: t44 :: t45 :: t46 :: t47 :: t48 :: v57 :: (V.lit (Value.bool false)) :: uu :: uu :: uu :: uu :: uu :: t56 :: t57 :: t58 :: t59 :: t60 :: t61 :: t62 :: t63 :: t64 :: t65 :: t66 :: t67 :: t68 :: t69 :: t70 :: t71 :: t72 :: t73 :: t74 :: t75 :: t76 :: t77 :: t78 :: t79 :: t80 :: t81 :: t82 :: t83 :: t84 :: t85 :: t86 :: t87 :: t88 :: t89 :: t90 :: t91 :: t92 :: []), h58⟩) (
  opsP (xX s 66 wl k false) xg66_2 11 m0 ac (runK (xX s 66 wl k false) (bodyK s.P Try.f66) xk66_2) ⟨(t0 :: t1 :: t2 :: t3 :: t4 :: t5 :: t6 :: t7 :: t8 :: t9 :: t10 :: t11 :: t12 :: t13 :: t14 :: t15 :: t16 :: t17 :: t18 :: t19 :: t20 :: t21 :: t22 :: t23 :: t24 :: t25 :: t26 :: t27 :: t28 :: t29 :: t30 :: t31 :: t32 :: t33 :: t34 :: t35 :: t36 :: t37 :: t38 :: t39 :: t40 :: t41 :: t42 :: t43 :: t44 :: t45 :: t46 :: t47 :: t48 :: v57 :: v57 :: uu :: t52 :: t53 :: t54 :: t55 :: t56 :: t57 :: t58 :: t59 :: t60 :: t61 :: t62 :: t63 :: t64 :: t65 :: t66 :: t67 :: t68 :: t69 :: t70 :: t71 :: t72 :: t73 :: t74 :: t75 :: t76 :: t77 :: t78 :: t79 :: t80 :: t81 :: t82 :: t83 :: t84 :: t85 :: t86 :: t87 :: t88 :: t89 :: t90 :: t91 :: t92 :: []), h58⟩) :=
  (go_op0 rfl rfl (st_bm (by kernel_rfl) fun v57 h58 =>
  (go_op0 rfl rfl (st_id (v := v57) (H := h58) (by kernel_rfl)
  (go_gdT0 rfl rfl rfl (by kernel_rfl)
  (st_id (v := t1) (H := h58) (by kernel_rfl)
  (go_run0 rfl rfl rfl (by kernel_rfl) (st_id (v := t7) (H := h58) (by kernel_rfl)
  (go_run0 rfl rfl rfl (by kernel_rfl) (st_bm (by kernel_rfl) fun v59 h60 =>
  (go_run0 rfl rfl rfl (by kernel_rfl) (st_bm (by kernel_rfl) fun v61 h62 =>
  (go_run0 rfl rfl rfl (by kernel_rfl) (st_bm (by kernel_rfl) fun v63 h64 =>
  (by kernel_rfl))))))))))
  (go_skip0 rfl rfl rfl (by kernel_rfl)
  (go_skip0 rfl rfl rfl (by kernel_rfl)
  (go_skip0 rfl rfl rfl (by kernel_rfl)
  (go_skip0 rfl rfl rfl (by kernel_rfl)
  (by kernel_rfl)))))
  (by kernel_rfl))))))
theorem xr66_0 (s : Sys) (K : Out → St → Option (V × Hp)) (k wl : Nat) (rd : Bool) (n n0 : Nat) (t0 t1 t2 t3 t4 t5 t6 t7 t8 t9 t10 t11 t12 t13 t14 t15 t16 t17 t18 t19 t20 t21 t22 t23 t24 t25 t26 t27 t28 t29 t30 t31 t32 t33 t34 t35 t36 t37 t38 t39 t40 t41 t42 t43 t44 t45 t46 t47 t48 t49 t50 t51 t52 t53 t54 t55 t56 t57 t58 t59 t60 t61 t62 t63 t64 t65 t66 t67 t68 t69 t70 t71 t72 t73 t74 t75 t76 t77 t78 t79 t80 t81 t82 t83 t84 t85 t86 t87 t88 t89 t90 t91 t92 : V) (h : Hp) : itX (xX s 66 wl k rd) xl66_0 n0 K (n + 1) ⟨(t0 :: t1 :: t2 :: t3 :: t4 :: t5 :: t6 :: t7 :: t8 :: t9 :: t10 :: t11 :: t12 :: t13 :: t14 :: t15 :: t16 :: t17 :: t18 :: t19 :: t20 :: t21 :: t22 :: t23 :: t24 :: t25 :: t26 :: t27 :: t28 :: t29 :: t30 :: t31 :: t32 :: t33 :: t34 :: t35 :: t36 :: t37 :: t38 :: t39 :: t40 :: t41 :: t42 :: t43 :: t44 :: t45 :: t46 :: t47 :: t48 :: t49 :: t50 :: t51 :: t52 :: t53 :: t54 :: t55 :: t56 :: t57 :: t58 :: t59 :: t60 :: t61 :: t62 :: t63 :: t64 :: t65 :: t66 :: t67 :: t68 :: t69 :: t70 :: t71 :: t72 :: t73 :: t74 :: t75 :: t76 :: t77 :: t78 :: t79 :: t80 :: t81 :: t82 :: t83 :: t84 :: t85 :: t86 :: t87 :: t88 :: t89 :: t90 :: t91 :: t92 :: []), h⟩ =
  bm (vIndexAddr s.P 22 t0 t7 h) h fun v65 h66 =>
  bm (vFieldAddr s.P 40 v65 1) h66 fun v67 h68 =>
  bm (vLoad s.P 23 v67 h68) h68 fun v69 h70 =>
  bp (opLen s.P 23 v69 h70) fun v71 h72 =>
  bm (vBin s.P .lss 3 t9 v71) h72 fun v73 h74 =>
  cnd v73 (
  bm (vIndexAddr s.P 22 t0 t7 h74) h74 fun v75 h76 =>
  bm (vFieldAddr s.P 40 v75 1) h76 fun v77 h78 =>
  bm (vLoad s.P 23 v77 h78) h78 fun v79 h80 =>
  bm (vIndexAddr s.P 23 v79 t9 h80) h80 fun v81 h82 =>
  bm (vLoad s.P 3 v81 h82) h82 fun v83 h84 =>
  bm (vIndexAddr s.P 23 t1 v83 h84) h84 fun v85 h86 =>
  bm (vLoad s.P 3 v85 h86) h86 fun v87 h88 =>
  bm (vBin s.P .eql 3 v87 (V.lit (Value.int .i64 0))) h88 fun v89 h90 =>
  cnd v89 (
  K .ret ⟨(t0 :: t1 :: t2 :: t3 :: t4 :: t5 :: (V.lit (Value.int .i64 (-1))) :: t7 :: t8 :: t9 :: t10 :: t11 :: t12 :: t13 :: t14 :: t15 :: t16 :: t17 :: t18 :: t19 :: t20 :: t21 :: t22 :: t23 :: t24 :: t25 :: t26 :: t27 :: t28 :: t29 :: t30 :: t31 :: t32 :: t33 :: t34 :: t35 :: t36 :: t37 :: t38 :: t39 :: t40 :: t41 :: t42 :: t43 :: t44 :: t45 :: t46 :: t47 :: t48 :: t49 :: t50 :: t51 :: t52 :: t53 :: t54 :: t55 :: t56 :: t57 :: t58 :: t59 :: t60 :: t61 :: t62 :: t63 :: t64 :: t65 :: t9 :: t0 :: t7 :: v65 :: v67 :: v69 :: v71 :: v73 :: t74 :: t75 :: t1 :: t0 :: t7 :: v75 :: v77 :: v79 :: t9 :: v81 :: v83 :: v85 :: v87 :: v89 :: t88 :: t89 :: t90 :: t91 :: t92 :: []), h90⟩) (
  bm (vBin s.P .add 3 t9 (V.lit (Value.int .i64 1))) h90 fun v91 h92 =>
  itX (xX s 66 wl k rd) xl66_0 n0 K n ⟨((V.kill n0 t0) :: (V.kill n0 t1) :: (V.kill n0 t2) :: (V.kill n0 t3) :: (V.kill n0 t4) :: (V.kill n0 t5) :: (V.kill n0 t6) :: (V.kill n0 t7) :: (V.kill n0 t8) :: (V.kill n0 v91) :: (V.kill n0 t10) :: (V.kill n0 t11) :: (V.kill n0 t12) :: (V.kill n0 t13) :: (V.kill n0 t14) :: (V.kill n0 t15) :: (V.kill n0 t16) :: (V.kill n0 t17) :: (V.kill n0 t18) :: (V.kill n0 t19) :: (V.kill n0 t20) :: (V.kill n0 t21) :: (V.kill n0 t22) :: (V.kill n0 t23) :: (V.kill n0 t24) :: (V.kill n0 t25) :: (V.kill n0 t26) :: (V.kill n0 t27) :: (V.kill n0 t28) :: (V.kill n0 t29) :: (V.kill n0 t30) :: (V.kill n0 t31) :: (V.kill n0 t32) :: (V.kill n0 t33) :: (V.kill n0 t34) :: (V.kill n0 t35) :: (V.kill n0 t36) :: (V.kill n0 t37) :: (V.kill n0 t38) :: (V.kill n0 t39) :: (V.kill n0 t40) :: (V.kill n0 t41) :: (V.kill n0 t42) :: (V.kill n0 t43) :: (V.kill n0 t44) :: (V.kill n0 t45) :: (V.kill n0 t46) :: (V.kill n0 t47) :: (V.kill n0 t48) :: (V.kill n0 t49) :: (V.kill n0 t50) :: (V.kill n0 t51) :: (V.kill n0 t52) :: (V.kill n0 t53) :: (V.kill n0 t54) :: (V.kill n0 t55) :: (V.kill n0 t56) :: (V.kill n0 t57) :: (V.kill n0 t58) :: (V.kill n0 t59) :: (V.kill n0 t60) :: (V.kill n0 t61) :: (V.kill n0 t62) :: (V.kill n0 t63) :: (V.kill n0 t64) :: (V.kill n0 t65) :: .junk :: .junk :: .junk :: .junk :: .junk :: .junk :: .junk :: .junk :: .junk :: .junk :: .junk :: .junk :: .junk :: .junk :: .junk :: .junk :: .junk :: .junk :: .junk :: .junk :: .junk :: .junk :: (V.kill n0 t88) :: (V.kill n0 t89) :: (V.kill n0 t90) :: (V.kill n0 t91) :: (V.kill n0 t92) :: []), cutH n0 h92⟩)) (
  K (.exit 1) ⟨((V.kill n0 t0) :: (V.kill n0 t1) :: (V.kill n0 t2) :: (V.kill n0 t3) :: (V.kill n0 t4) :: (V.kill n0 t5) :: (V.kill n0 t6) :: (V.kill n0 t7) :: (V.kill n0 t8) :: (V.kill n0 t9) :: (V.kill n0 t10) :: (V.kill n0 t11) :: (V.kill n0 t12) :: (V.kill n0 t13) :: (V.kill n0 t14) :: (V.kill n0 t15) :: (V.kill n0 t16) :: (V.kill n0 t17) :: (V.kill n0 t18) :: (V.kill n0 t19) :: (V.kill n0 t20) :: (V.kill n0 t21) :: (V.kill n0 t22) :: (V.kill n0 t23) :: (V.kill n0 t24) :: (V.kill n0 t25) :: (V.kill n0 t26) :: (V.kill n0 t27) :: (V.kill n0 t28) :: (V.kill n0 t29) :: (V.kill n0 t30) :: (V.kill n0 t31) :: (V.kill n0 t32) :: (V.kill n0 t33) :: (V.kill n0 t34) :: (V.kill n0 t35) :: (V.kill n0 t36) :: (V.kill n0 t37) :: (V.kill n0 t38) :: (V.kill n0 t39) :: (V.kill n0 t40) :: (V.kill n0 t41) :: (V.kill n0 t42) :: (V.kill n0 t43) :: (V.kill n0 t44) :: (V.kill n0 t45) :: (V.kill n0 t46) :: (V.kill n0 t47) :: (V.kill n0 t48) :: (V.kill n0 t49) :: (V.kill n0 t50) :: (V.kill n0 t51) :: (V.kill n0 t52) :: (V.kill n0 t53) :: (V.kill n0 t54) :: (V.kill n0 t55) :: (V.kill n0 t56) :: (V.kill n0 t57) :: (V.kill n0 t58) :: (V.kill n0 t59) :: (V.kill n0 t60) :: (V.kill n0 t61) :: (V.kill n0 t62) :: (V.kill n0 t63) :: (V.kill n0 t64) :: (V.kill n0 t65) :: .junk :: .junk :: .junk :: .junk :: .junk :: .junk :: .junk :: .junk :: .junk :: .junk :: .junk :: .junk :: .junk :: .junk :: .junk :: .junk :: .junk :: .junk :: .junk :: .junk :: .junk :: .junk :: (V.kill n0 t88) :: (V.kill n0 t89) :: (V.kill n0 t90) :: (V.kill n0 t91) :: (V.kill n0 t92) :: []), cutH n0 h74⟩) :=
  itX_step (go_seq (go_seq (go_reg0
  (go_op0 rfl rfl (st_id (v := t9) (H := h) (by kernel_rfl)
  (go_op0 rfl rfl (st_id (v := t0) (H := h) (by kernel_rfl)
  (go_op0 rfl rfl (st_id (v := t7) (H := h) (by kernel_rfl)
  (go_op0 rfl rfl (st_bm (by kernel_rfl) fun v65 h66 =>
  (go_op0 rfl rfl (st_bm (by kernel_rfl) fun v67 h68 =>
  (go_op0 rfl rfl (st_bm (by kernel_rfl) fun v69 h70 =>
  (go_op0 rfl rfl (st_bp (by kernel_rfl) fun v71 h72 =>
  (go_op0 rfl rfl (st_bm (by kernel_rfl) fun v73 h74 =>
  (go_end0 (by kernel_rfl)
  (go_cond (by kernel_rfl)
  (go_skip (go_seq (go_block (go_seq (go_reg0
  (go_op0 rfl rfl (st_id (v := t1) (H := h74) (by kernel_rfl)
  (go_op0 rfl rfl (st_id (v := t0) (H := h74) (by kernel_rfl)
  (go_op0 rfl rfl (st_id (v := t7) (H := h74) (by kernel_rfl)
  (go_op0 rfl rfl (st_bm (by kernel_rfl) fun v75 h76 =>
  (go_op0 rfl rfl (st_bm (by kernel_rfl) fun v77 h78 =>
  (go_op0 rfl rfl (st_bm (by kernel_rfl) fun v79 h80 =>
  (go_op0 rfl rfl (st_id (v := t9) (H := h80) (by kernel_rfl)
  (go_op0 rfl rfl (st_bm (by kernel_rfl) fun v81 h82 =>
  (go_op0 rfl rfl (st_bm (by kernel_rfl) fun v83 h84 =>
  (go_op0 rfl rfl (st_bm (by kernel_rfl) fun v85 h86 =>
  (go_op0 rfl rfl (st_bm (by kernel_rfl) fun v87 h88 =>
  (go_op0 rfl rfl (st_bm (by kernel_rfl) fun v89 h90 =>
  (go_end0 (by kernel_rfl)
  (go_cond (by kernel_rfl)
  (go_seq (go_reg0
  (go_op0 rfl rfl (st_id (v := (V.lit (Value.int .i64 (-1)))) (H := h90) (by kernel_rfl)
  (go_end0 (by kernel_rfl)
  (go_ret (rt_block_ret (rt_seq_ret (by kernel_rfl)))))))))
  (go_skip (rt_block_norm (go_reg0
  (go_op0 rfl rfl (st_id (v := t9) (H := h90) (by kernel_rfl)
  (go_op0 rfl rfl (st_bm (by kernel_rfl) fun v91 h92 =>
  (go_op0 rfl rfl (st_id (v := v91) (H := h92) (by kernel_rfl)
  (go_end0 (by kernel_rfl)
  (by kernel_rfl))))))))))))))))))))))))))))))))))))))))))
  (go_exit (rt_seq_exit (by kernel_rfl))))))))))))))))))))))))
theorem xj66_3 (s : Sys) (k wl : Nat) (t0 t1 t2 t3 t4 t5 t6 t7 t8 t9 t10 t11 t12 t13 t14 t15 t16 t17 t18 t19 t20 t21 t22 t23 t24 t25 t26 t27 t28 t29 t30 t31 t32 t33 t34 t35 t36 t37 t38 t39 t40 t41 t42 t43 t44 t45 t46 t47 t48 t49 t50 t51 t52 t53 t54 t55 t56 t57 t58 t59 t60 t61 t62 t63 t64 t65 t66 t67 t68 t69 t70 t71 t72 t73 t74 t75 t76 t77 t78 t79 t80 t81 t82 t83 t84 t85 t86 t87 t88 t89 t90 t91 t92 : V) (h : Hp) : runK (xX s 66 wl k false) (bodyK s.P Try.f66) xk66_3 (.exit 1) ⟨(t0 :: t1 :: t2 :: t3 :: t4 :: t5 :: t6 :: t7 :: t8 :: t9 :: t10 :: t11 :: t12 :: t13 :: t14 :: t15 :: t16 :: t17 :: t18 :: t19 :: t20 :: t21 :: t22 :: t23 :: t24 :: t25 :: t26 :: t27 :: t28 :: t29 :: t30 :: t31 :: t32 :: t33 :: t34 :: t35 :: t36 :: t37 :: t38 :: t39 :: t40 :: t41 :: t42 :: t43 :: t44 :: t45 :: t46 :: t47 :: t48 :: t49 :: t50 :: t51 :: t52 :: t53 :: t54 :: t55 :: t56 :: t57 :: t58 :: t59 :: t60 :: t61 :: t62 :: t63 :: t64 :: t65 :: t66 :: t67 :: t68 :: t69 :: t70 :: t71 :: t72 :: t73 :: t74 :: t75 :: t76 :: t77 :: t78 :: t79 :: t80 :: t81 :: t82 :: t83 :: t84 :: t85 :: t86 :: t87 :: t88 :: t89 :: t90 :: t91 :: t92 :: []), h⟩ =
  bm (vIndexAddr s.P 23 t1 t7 h) h fun v93 h94 =>
  bm (vLoad s.P 3 v93 h94) h94 fun v95 h96 =>
  bm (vBin s.P .eql 3 v95 (V.lit (Value.int .i64 2))) h96 fun v97 h98 =>
  cnd v97 (
  some ((V.lit (Value.int .i64 3)), h98)) (
  some ((V.lit (Value.int .i64 (-1))), h98)) :=
  (rt_block_eq (go_seq (go_reg0
  (go_op0 rfl rfl (st_id (v := t1) (H := h) (by kernel_rfl)
  (go_op0 rfl rfl (st_id (v := t7) (H := h) (by kernel_rfl)
  (go_op0 rfl rfl (st_bm (by kernel_rfl) fun v93 h94 =>
  (go_op0 rfl rfl (st_bm (by kernel_rfl) fun v95 h96 =>
  (go_op0 rfl rfl (st_bm (by kernel_rfl) fun v97 h98 =>
  (go_end0 (by kernel_rfl)
  (go_cond (by kernel_rfl)
  (go_seq (go_reg0
  (go_op0 rfl rfl (st_id (v := (V.lit (Value.int .i64 3))) (H := h98) (by kernel_rfl)
  (go_end0 (by kernel_rfl)
  (go_ret (rt_block_ret (rt_seq_ret (by kernel_rfl)))))))))
  (go_skip (rt_block_norm (go_seq (go_reg0
  (go_op0 rfl rfl (st_id (v := (V.lit (Value.int .i64 (-1)))) (H := h98) (by kernel_rfl)
  (go_end0 (by kernel_rfl)
  (go_ret (by kernel_rfl))))))))))))))))))))))))
theorem xm66_4 (s : Sys) (k wl : Nat) (m0 : Nat) (ac : List Nat × List Nat) (t0 t1 t2 t3 t4 t5 t6 t7 t8 t9 t10 t11 t12 t13 t14 t15 t16 t17 t18 t19 t20 t21 t22 t23 t24 t25 t26 t27 t28 t29 t30 t31 t32 t33 t34 t35 t36 t37 t38 t39 t40 t41 t42 t43 t44 t45 t46 t47 t48 t49 t50 t51 t52 t53 t54 t55 t56 t57 t58 t59 t60 t61 t62 t63 t64 t65 t66 t67 t68 t69 t70 t71 t72 t73 t74 t75 t76 t77 t78 t79 t80 t81 t82 t83 t84 t85 t86 t87 t88 t89 t90 t91 t92 : V) (h : Hp) : opsP (xX s 66 wl k false) xg66_2 15 m0 ac (runK (xX s 66 wl k false) (bodyK s.P Try.f66) xk66_2) ⟨(t0 :: t1 :: t2 :: t3 :: t4 :: t5 :: t6 :: t7 :: t8 :: t9 :: t10 :: t11 :: t12 :: t13 :: t14 :: t15 :: t16 :: t17 :: t18 :: t19 :: t20 :: t21 :: t22 :: t23 :: t24 :: t25 :: t26 :: t27 :: t28 :: t29 :: t30 :: t31 :: t32 :: t33 :: t34 :: t35 :: t36 :: t37 :: t38 :: t39 :: t40 :: t41 :: t42 :: t43 :: t44 :: t45 :: t46 :: t47 :: t48 :: t49 :: t50 :: t51 :: t52 :: t53 :: t54 :: t55 :: t56 :: t57 :: t58 :: t59 :: t60 :: t61 :: t62 :: t63 :: t64 :: t65 :: t66 :: t67 :: t68 :: t69 :: t70 :: t71 :: t72 :: t73 :: t74 :: t75 :: t76 :: t77 :: t78 :: t79 :: t80 :: t81 :: t82 :: t83 :: t84 :: t85 :: t86 :: t87 :: t88 :: t89 :: t90 :: t91 :: t92 :: []), h⟩ =
  bm (vPick t50 t55 (V.lit (Value.bool false))) h fun v99 h100 =>
  cnd v99 (
  some ((V.lit (Value.int .i64 1)), h100)) (
  some ((V.lit (Value.int .i64 (-1))), h100)) :=
  (go_op0 rfl rfl (st_bm (by kernel_rfl) fun v99 h100 =>
  (go_end0 (by kernel_rfl)
  (go_cond (by kernel_rfl)
  (go_seq (go_reg0
  (go_op0 rfl rfl (st_id (v := (V.lit (Value.int .i64 1))) (H := h100) (by kernel_rfl)
  (go_end0 (by kernel_rfl)
  (go_ret (rt_block_ret (rt_seq_ret (by kernel_rfl)))))))))
  (go_skip (rt_block_norm (go_seq (go_reg0
  (go_op0 rfl rfl (st_id (v := (V.lit (Value.int .i64 (-1)))) (H := h100) (by kernel_rfl)
  (go_end0 (by kernel_rfl)
  (go_ret (by kernel_rfl)))))))))))))
theorem xk66_0_ret (cx : Cx) (K : Out → St → Option (V × Hp)) (s : St) : runK cx K xk66_0 .ret s = K .ret s := by kernel_rfl
theorem xk66_1_ret (cx : Cx) (K : Out → St → Option (V × Hp)) (s : St) : runK cx K xk66_1 .ret s = K .ret s := by kernel_rfl
theorem xk66_2_ret (cx : Cx) (K : Out → St → Option (V × Hp)) (s : St) : runK cx K xk66_2 .ret s = K .ret s := by kernel_rfl
theorem xk66_3_ret (cx : Cx) (K : Out → St → Option (V × Hp)) (s : St) : runK cx K xk66_3 .ret s = K .ret s := by kernel_rfl
-- names: xb66, xz66, xm66_0, xm66_1, xm66_2, xr66_0, xj66_3, xm66_4, xk66_0_ret, xk66_1_ret, xk66_2_ret, xk66_3_ret
end Go.Ab
