/- The program's code, point by point: printed by gen.py. -/
import Derived.Test.YtecgfaaaloameaaR1Seat
set_option maxRecDepth 100000
set_option linter.unusedVariables false
namespace Go.Ab
open Go.Proofs
/-! 24 poacher/poacherlaw04.Few: 0 t, 1 t, 3 i -/
noncomputable def xl24_0 : Code := codeAt (bodyOf Try.f24) [1, 0, 1, 0, 0]
noncomputable def xk24_0 : List Fr := [.block 0, .seq (codeAt (bodyOf Try.f24) [1, 1])]
noncomputable def xg24_0 : Code := codeAt (bodyOf Try.f24) [1, 0, 1, 0, 0, 0, 0]
noncomputable def xk24_1 : List Fr := [.seq (codeAt (bodyOf Try.f24) [1, 0, 1, 0, 0, 0, 1]), .seq (codeAt (bodyOf Try.f24) [1, 0, 1, 0, 0, 1])]
theorem xb24 (s : Sys) (k wl : Nat) (t0 : V) (h : Hp) : bodyV (xX s 24 wl k false) Try.f24 [t0] h =
  itX (xX s 24 wl k false) xl24_0 h.length (runK (xX s 24 wl k false) (bodyK s.P Try.f24) xk24_0) k ⟨[(V.kill h.length t0), (V.kill h.length uu), (V.lit (Value.bool false)), (V.lit (Value.int .i64 0)), .junk, .junk, .junk, .junk, .junk, .junk, .junk, .junk, .junk, .junk, .junk, .junk, .junk, .junk, .junk, .junk, .junk, (V.kill h.length uu), (V.kill h.length uu), (V.kill h.length uu)], cutH h.length h⟩ :=
  bodyV_run rfl (go_seq (go_reg0
  (go_op0 rfl rfl (st_id (v := (V.lit (Value.bool false))) (H := h) (by kernel_rfl)
  (go_end0 (by kernel_rfl)
  (go_seq (go_seq (go_reg0
  (go_op0 rfl rfl (st_id (v := (V.lit (Value.int .i64 0))) (H := h) (by kernel_rfl)
  (go_end0 (by kernel_rfl)
  (go_block (by kernel_rfl)))))))))))))
theorem xe24 (k wl : Nat) (t0 : V) (h : Hp) : evF Try.prog xM (k + 1) wl 24 [t0] h = bodyV (xX (xS k) 24 wl k false) Try.f24 [t0] h := by kernel_rfl
theorem xz24 (P : Program) (t0 t1 t2 t3 t4 t5 t6 t7 t8 t9 t10 t11 t12 t13 t14 t15 t16 t17 t18 t19 t20 t21 t22 t23 : V) (h : Hp) : bodyK P Try.f24 .ret ⟨[t0, t1, t2, t3, t4, t5, t6, t7, t8, t9, t10, t11, t12, t13, t14, t15, t16, t17, t18, t19, t20, t21, t22, t23], h⟩ = some (t2, h) := by kernel_rfl
theorem xr24_0 (s : Sys) (K : Out → St → Option (V × Hp)) (k wl : Nat) (rd : Bool) (n n0 : Nat) (t0 t1 t2 t3 t4 t5 t6 t7 t8 t9 t10 t11 t12 t13 t14 t15 t16 t17 t18 t19 t20 t21 t22 t23 : V) (h : Hp) : itX (xX s 24 wl k rd) xl24_0 n0 K (n + 1) ⟨[t0, t1, t2, t3, t4, t5, t6, t7, t8, t9, t10, t11, t12, t13, t14, t15, t16, t17, t18, t19, t20, t21, t22, t23], h⟩ =
  bp (opLen s.P 22 t0 h) fun v1 h2 =>
  bm (vBin s.P .lss 3 t3 v1) h2 fun v3 h4 =>
  gd v3 (
  bm (vBin s.P .leq 3 t3 (V.lit (Value.int .i64 40))) h4 fun v5 h6 =>
  opsP (xX s 24 wl k rd) xg24_0 7 h.length ([], []) (runK (xX s 24 wl k rd) (nextK (xX s 24 wl k rd) xl24_0 n0 K n) xk24_1) ⟨[t0, t1, t2, t3, t3, t0, v1, v3, (V.lit (Value.bool true)), t3, v5, t11, t12, t13, t14, t15, t16, t17, t18, t19, t20, t21, t22, t23], h6⟩) (
  opsP (xX s 24 wl k rd) xg24_0 7 h.length ([], []) (runK (xX s 24 wl k rd) (nextK (xX s 24 wl k rd) xl24_0 n0 K n) xk24_1) ⟨[t0, t1, t2, t3, t3, t0, v1, v3, (V.lit (Value.bool false)), uu, uu, t11, t12, t13, t14, t15, t16, t17, t18, t19, t20, t21, t22, t23], h4⟩) (
  opsP (xX s 24 wl k rd) xg24_0 6 h.length ([], []) (runK (xX s 24 wl k rd) (nextK (xX s 24 wl k rd) xl24_0 n0 K n) xk24_1) ⟨[t0, t1, t2, t3, t3, t0, v1, v3, v3, uu, t10, t11, t12, t13, t14, t15, t16, t17, t18, t19, t20, t21, t22, t23], h4⟩) :=
  itX_step (go_seq (go_seq (go_reg0
  (go_op0 rfl rfl (st_id (v := t3) (H := h) (by kernel_rfl)
  (go_op0 rfl rfl (st_id (v := t0) (H := h) (by kernel_rfl)
  (go_op0 rfl rfl (st_bp (by kernel_rfl) fun v1 h2 =>
  (go_op0 rfl rfl (st_bm (by kernel_rfl) fun v3 h4 =>
  (go_op0 rfl rfl (st_id (v := v3) (H := h4) (by kernel_rfl)
  (go_gdT0 rfl rfl rfl (by kernel_rfl)
  (st_id (v := t3) (H := h4) (by kernel_rfl)
  (go_run0 rfl rfl rfl (by kernel_rfl) (st_bm (by kernel_rfl) fun v5 h6 =>
  (by kernel_rfl))))
  (go_skip0 rfl rfl rfl (by kernel_rfl)
  (by kernel_rfl))
  (by kernel_rfl)))))))))))))))
theorem xj24_0 (s : Sys) (k wl : Nat) (t0 t1 t2 t3 t4 t5 t6 t7 t8 t9 t10 t11 t12 t13 t14 t15 t16 t17 t18 t19 t20 t21 t22 t23 : V) (h : Hp) : runK (xX s 24 wl k false) (bodyK s.P Try.f24) xk24_0 (.exit 0) ⟨[t0, t1, t2, t3, t4, t5, t6, t7, t8, t9, t10, t11, t12, t13, t14, t15, t16, t17, t18, t19, t20, t21, t22, t23], h⟩ =
  bp (opLen s.P 22 t0 h) fun v7 h8 =>
  bm (vBin s.P .leq 3 v7 (V.lit (Value.int .i64 40))) h8 fun v9 h10 =>
  some (v9, h10) :=
  (rt_block_eq (go_seq (go_reg0
  (go_op0 rfl rfl (st_id (v := t0) (H := h) (by kernel_rfl)
  (go_op0 rfl rfl (st_bp (by kernel_rfl) fun v7 h8 =>
  (go_op0 rfl rfl (st_bm (by kernel_rfl) fun v9 h10 =>
  (go_op0 rfl rfl (st_id (v := v9) (H := h10) (by kernel_rfl)
  (go_end0 (by kernel_rfl)
  (go_ret (by kernel_rfl))))))))))))))
theorem xm24_1 (s : Sys) (K : Out → St → Option (V × Hp)) (k wl : Nat) (rd : Bool) (n n0 : Nat) (m0 : Nat) (ac : List Nat × List Nat) (t0 t1 t2 t3 t4 t5 t6 t7 t8 t9 t10 t11 t12 t13 t14 t15 t16 t17 t18 t19 t20 t21 t22 t23 : V) (h : Hp) : opsP (xX s 24 wl k rd) xg24_0 7 m0 ac (runK (xX s 24 wl k rd) (nextK (xX s 24 wl k rd) xl24_0 n0 K n) xk24_1) ⟨[t0, t1, t2, t3, t4, t5, t6, t7, t8, t9, t10, t11, t12, t13, t14, t15, t16, t17, t18, t19, t20, t21, t22, t23], h⟩ =
  bm (vPick t8 t10 (V.lit (Value.bool false))) h fun v11 h12 =>
  cnd v11 (
  bm (vIndexAddr s.P 22 t0 t3 h12) h12 fun v13 h14 =>
  bm (vFieldAddr s.P 40 v13 1) h14 fun v15 h16 =>
  bm (vLoad s.P 23 v15 h16) h16 fun v17 h18 =>
  bp (opLen s.P 23 v17 h18) fun v19 h20 =>
  bm (vBin s.P .gtr 3 v19 (V.lit (Value.int .i64 40))) h20 fun v21 h22 =>
  cnd v21 (
  K .ret ⟨[t0, t1, (V.lit (Value.bool false)), t3, t4, t5, t6, t7, t8, t9, t10, v11, t12, t13, t0, t3, v13, v15, v17, v19, v21, t21, t22, t23], h22⟩) (
  bm (vBin s.P .add 3 t3 (V.lit (Value.int .i64 1))) h22 fun v23 h24 =>
  itX (xX s 24 wl k rd) xl24_0 n0 K n ⟨[(V.kill n0 t0), (V.kill n0 t1), (V.kill n0 t2), (V.kill n0 v23), .junk, .junk, .junk, .junk, .junk, .junk, .junk, .junk, .junk, .junk, .junk, .junk, .junk, .junk, .junk, .junk, .junk, (V.kill n0 t21), (V.kill n0 t22), (V.kill n0 t23)], cutH n0 h24⟩)) (
  K (.exit 0) ⟨[(V.kill n0 t0), (V.kill n0 t1), (V.kill n0 t2), (V.kill n0 t3), .junk, .junk, .junk, .junk, .junk, .junk, .junk, .junk, .junk, .junk, .junk, .junk, .junk, .junk, .junk, .junk, .junk, (V.kill n0 t21), (V.kill n0 t22), (V.kill n0 t23)], cutH n0 h12⟩) :=
  (go_op0 rfl rfl (st_bm (by kernel_rfl) fun v11 h12 =>
  (go_end0 (by kernel_rfl)
  (go_cond (by kernel_rfl)
  (go_skip (go_seq (go_block (go_seq (go_reg0
  (go_op0 rfl rfl (st_id (v := t0) (H := h12) (by kernel_rfl)
  (go_op0 rfl rfl (st_id (v := t3) (H := h12) (by kernel_rfl)
  (go_op0 rfl rfl (st_bm (by kernel_rfl) fun v13 h14 =>
  (go_op0 rfl rfl (st_bm (by kernel_rfl) fun v15 h16 =>
  (go_op0 rfl rfl (st_bm (by kernel_rfl) fun v17 h18 =>
  (go_op0 rfl rfl (st_bp (by kernel_rfl) fun v19 h20 =>
  (go_op0 rfl rfl (st_bm (by kernel_rfl) fun v21 h22 =>
  (go_end0 (by kernel_rfl)
  (go_cond (by kernel_rfl)
  (go_seq (go_reg0
  (go_op0 rfl rfl (st_id (v := (V.lit (Value.bool false))) (H := h22) (by kernel_rfl)
  (go_end0 (by kernel_rfl)
  (go_ret (rt_block_ret (rt_seq_ret (by kernel_rfl)))))))))
  (go_skip (rt_block_norm (go_reg0
  (go_op0 rfl rfl (st_id (v := t3) (H := h22) (by kernel_rfl)
  (go_op0 rfl rfl (st_bm (by kernel_rfl) fun v23 h24 =>
  (go_op0 rfl rfl (st_id (v := v23) (H := h24) (by kernel_rfl)
  (go_end0 (by kernel_rfl)
  (by kernel_rfl))))))))))))))))))))))))))))))))
  (go_exit (rt_seq_exit (by kernel_rfl)))))))
theorem xk24_0_ret (cx : Cx) (K : Out → St → Option (V × Hp)) (s : St) : runK cx K xk24_0 .ret s = K .ret s := by kernel_rfl
theorem xk24_1_ret (cx : Cx) (K : Out → St → Option (V × Hp)) (s : St) : runK cx K xk24_1 .ret s = K .ret s := by kernel_rfl
-- names: xb24, xz24, xr24_0, xj24_0, xm24_1, xk24_0_ret, xk24_1_ret
/-! 27 poacher/poacherref04.Ints: 0 a, 1 b, 2 a, 3 b, 5 i -/
noncomputable def xl27_0 : Code := codeAt (bodyOf Try.f27) [1, 1, 0, 1, 0, 0]
noncomputable def xk27_0 : List Fr := [.block 0, .seq (codeAt (bodyOf Try.f27) [1, 1, 1])]
noncomputable def xg27_0 : Code := codeAt (bodyOf Try.f27) [1, 1, 0, 1, 0, 0, 1, 0, 0, 0]
theorem xo27_6 : orderIx (opsOf xg27_0) = [0, 1, 2, 3, 4, 5, 6, 7, 8] := by kernel_rfl
theorem xo27_6a : (rgOf (opsOf xg27_0)).any = false := by kernel_rfl
theorem xo27_6r : regOk (opsOf xg27_0) = true := by kernel_rfl
theorem xb27 (s : Sys) (k wl : Nat) (t0 t1 : V) (h : Hp) : bodyV (xX s 27 wl k false) Try.f27 [t0, t1] h =
  bp (opLen s.P 23 t0 h) fun v1 h2 =>
  bp (opLen s.P 23 t1 h2) fun v3 h4 =>
  bm (vBin s.P .neq 3 v1 v3) h4 fun v5 h6 =>
  cnd v5 (
  some ((V.lit (Value.bool false)), h6)) (
  itX (xX s 27 wl k false) xl27_0 h6.length (runK (xX s 27 wl k false) (bodyK s.P Try.f27) xk27_0) k ⟨[(V.kill h6.length t0), (V.kill h6.length t1), (V.kill h6.length uu), (V.kill h6.length uu), (V.lit (Value.bool false)), (V.lit (Value.int .i64 0)), (V.kill h6.length t0), (V.kill h6.length v1), (V.kill h6.length t1), (V.kill h6.length v3), (V.kill h6.length v5), .junk, .junk, .junk, .junk, .junk, .junk, .junk, .junk, .junk, .junk, .junk, .junk, .junk, .junk, .junk], cutH h6.length h6⟩) :=
  bodyV_run rfl (go_seq (go_reg0
  (go_op0 rfl rfl (st_id (v := (V.lit (Value.bool false))) (H := h) (by kernel_rfl)
  (go_end0 (by kernel_rfl)
  (go_seq (go_seq (go_reg0
  (go_op0 rfl rfl (st_id (v := t0) (H := h) (by kernel_rfl)
  (go_op0 rfl rfl (st_bp (by kernel_rfl) fun v1 h2 =>
  (go_op0 rfl rfl (st_id (v := t1) (H := h2) (by kernel_rfl)
  (go_op0 rfl rfl (st_bp (by kernel_rfl) fun v3 h4 =>
  (go_op0 rfl rfl (st_bm (by kernel_rfl) fun v5 h6 =>
  (go_end0 (by kernel_rfl)
  (go_cond (by kernel_rfl)
  (go_seq (go_reg0
  (go_op0 rfl rfl (st_id (v := (V.lit (Value.bool false))) (H := h6) (by kernel_rfl)
  (go_end0 (by kernel_rfl)
  (go_ret (rt_seq_ret (by kernel_rfl))))))))
  (go_skip (go_seq (go_seq (go_reg0
  (go_op0 rfl rfl (st_id (v := (V.lit (Value.int .i64 0))) (H := h6) (by kernel_rfl)
  (go_end0 (by kernel_rfl)
  (go_block (by kernel_rfl)))))))))))))))))))))))))))))
theorem xe27 (k wl : Nat) (t0 t1 : V) (h : Hp) : evF Try.prog xM (k + 1) wl 27 [t0, t1] h = bodyV (xX (xS k) 27 wl k false) Try.f27 [t0, t1] h := by kernel_rfl
theorem xz27 (P : Program) (t0 t1 t2 t3 t4 t5 t6 t7 t8 t9 t10 t11 t12 t13 t14 t15 t16 t17 t18 t19 t20 t21 t22 t23 t24 t25 : V) (h : Hp) : bodyK P Try.f27 .ret ⟨[t0, t1, t2, t3, t4, t5, t6, t7, t8, t9, t10, t11, t12, t13, t14, t15, t16, t17, t18, t19, t20, t21, t22, t23, t24, t25], h⟩ = some (t4, h) := by kernel_rfl
theorem xr27_0 (s : Sys) (K : Out → St → Option (V × Hp)) (k wl : Nat) (rd : Bool) (n n0 : Nat) (t0 t1 t2 t3 t4 t5 t6 t7 t8 t9 t10 t11 t12 t13 t14 t15 t16 t17 t18 t19 t20 t21 t22 t23 t24 t25 : V) (h : Hp) : itX (xX s 27 wl k rd) xl27_0 n0 K (n + 1) ⟨[t0, t1, t2, t3, t4, t5, t6, t7, t8, t9, t10, t11, t12, t13, t14, t15, t16, t17, t18, t19, t20, t21, t22, t23, t24, t25], h⟩ =
  bp (opLen s.P 23 t0 h) fun v7 h8 =>
  bm (vBin s.P .lss 3 t5 v7) h8 fun v9 h10 =>
  cnd v9 (
  bm (vIndexAddr s.P 23 t0 t5 h10) h10 fun v11 h12 =>
  bm (vLoad s.P 3 v11 h12) h12 fun v13 h14 =>
  bm (vIndexAddr s.P 23 t1 t5 h14) h14 fun v15 h16 =>
  bm (vLoad s.P 3 v15 h16) h16 fun v17 h18 =>
  bm (vBin s.P .neq 3 v13 v17) h18 fun v19 h20 =>
  cnd v19 (
  K .ret ⟨[t0, t1, t2, t3, (V.lit (Value.bool false)), t5, t6, t7, t8, t9, t10, t5, t0, v7, v9, t15, t16, t0, t5, v11, v13, t1, t5, v15, v17, v19], h20⟩) (
  bm (vBin s.P .add 3 t5 (V.lit (Value.int .i64 1))) h20 fun v21 h22 =>
  itX (xX s 27 wl k rd) xl27_0 n0 K n ⟨[(V.kill n0 t0), (V.kill n0 t1), (V.kill n0 t2), (V.kill n0 t3), (V.kill n0 t4), (V.kill n0 v21), (V.kill n0 t6), (V.kill n0 t7), (V.kill n0 t8), (V.kill n0 t9), (V.kill n0 t10), .junk, .junk, .junk, .junk, .junk, .junk, .junk, .junk, .junk, .junk, .junk, .junk, .junk, .junk, .junk], cutH n0 h22⟩)) (
  K (.exit 0) ⟨[(V.kill n0 t0), (V.kill n0 t1), (V.kill n0 t2), (V.kill n0 t3), (V.kill n0 t4), (V.kill n0 t5), (V.kill n0 t6), (V.kill n0 t7), (V.kill n0 t8), (V.kill n0 t9), (V.kill n0 t10), .junk, .junk, .junk, .junk, .junk, .junk, .junk, .junk, .junk, .junk, .junk, .junk, .junk, .junk, .junk], cutH n0 h10⟩) :=
  itX_step (go_seq (go_seq (go_reg0
  (go_op0 rfl rfl (st_id (v := t5) (H := h) (by kernel_rfl)
  (go_op0 rfl rfl (st_id (v := t0) (H := h) (by kernel_rfl)
  (go_op0 rfl rfl (st_bp (by kernel_rfl) fun v7 h8 =>
  (go_op0 rfl rfl (st_bm (by kernel_rfl) fun v9 h10 =>
  (go_end0 (by kernel_rfl)
  (go_cond (by kernel_rfl)
  (go_skip (go_seq (go_block (go_seq (go_reg1 xo27_6r
  (go_op1 xo27_6 xo27_6a rfl rfl rfl (st_no (by kernel_rfl) (st_id (v := t0) (H := h10) (by kernel_rfl)
  (go_op1 xo27_6 xo27_6a rfl rfl rfl (st_no (by kernel_rfl) (st_id (v := t5) (H := h10) (by kernel_rfl)
  (go_op1 xo27_6 xo27_6a rfl rfl rfl (st_no (by kernel_rfl) (st_bm (by kernel_rfl) fun v11 h12 =>
  (go_op1 xo27_6 xo27_6a rfl rfl rfl (st_no (by kernel_rfl) (st_bm (by kernel_rfl) fun v13 h14 =>
  (go_op1 xo27_6 xo27_6a rfl rfl rfl (st_no (by kernel_rfl) (st_id (v := t1) (H := h14) (by kernel_rfl)
  (go_op1 xo27_6 xo27_6a rfl rfl rfl (st_no (by kernel_rfl) (st_id (v := t5) (H := h14) (by kernel_rfl)
  (go_op1 xo27_6 xo27_6a rfl rfl rfl (st_no (by kernel_rfl) (st_bm (by kernel_rfl) fun v15 h16 =>
  (go_op1 xo27_6 xo27_6a rfl rfl rfl (st_no (by kernel_rfl) (st_bm (by kernel_rfl) fun v17 h18 =>
  (go_op1 xo27_6 xo27_6a rfl rfl rfl (st_no (by kernel_rfl) (st_bm (by kernel_rfl) fun v19 h20 =>
  (go_end1 xo27_6 (by kernel_rfl) xo27_6a
  (go_cond (by kernel_rfl)
  (go_seq (go_reg0
  (go_op0 rfl rfl (st_id (v := (V.lit (Value.bool false))) (H := h20) (by kernel_rfl)
  (go_end0 (by kernel_rfl)
  (go_ret (rt_block_ret (rt_seq_ret (by kernel_rfl)))))))))
  (go_skip (rt_block_norm (go_reg0
  (go_op0 rfl rfl (st_id (v := t5) (H := h20) (by kernel_rfl)
  (go_op0 rfl rfl (st_bm (by kernel_rfl) fun v21 h22 =>
  (go_op0 rfl rfl (st_id (v := v21) (H := h22) (by kernel_rfl)
  (go_end0 (by kernel_rfl)
  (by kernel_rfl)))))))))))))))))))))))))))))))))))))))))))))
  (go_exit (rt_seq_exit (by kernel_rfl))))))))))))))))
theorem xj27_0 (s : Sys) (k wl : Nat) (t0 t1 t2 t3 t4 t5 t6 t7 t8 t9 t10 t11 t12 t13 t14 t15 t16 t17 t18 t19 t20 t21 t22 t23 t24 t25 : V) (h : Hp) : runK (xX s 27 wl k false) (bodyK s.P Try.f27) xk27_0 (.exit 0) ⟨[t0, t1, t2, t3, t4, t5, t6, t7, t8, t9, t10, t11, t12, t13, t14, t15, t16, t17, t18, t19, t20, t21, t22, t23, t24, t25], h⟩ =
  some ((V.lit (Value.bool true)), h) :=
  (rt_block_eq (go_seq (go_reg0
  (go_op0 rfl rfl (st_id (v := (V.lit (Value.bool true))) (H := h) (by kernel_rfl)
  (go_end0 (by kernel_rfl)
  (go_ret (by kernel_rfl))))))))
theorem xk27_0_ret (cx : Cx) (K : Out → St → Option (V × Hp)) (s : St) : runK cx K xk27_0 .ret s = K .ret s := by kernel_rfl
-- names: xb27, xz27, xr27_0, xj27_0, xk27_0_ret
/-! 36 poacher/forest.Parent: 0 t, 1 k, 2 t, 3 k, 5 x, 6 of -/
noncomputable def xq36_0 : Code := codeAt (bodyOf Try.f36) [1, 0, 1, 0, 1, 0]
noncomputable def xl36_0 : Code := codeAt (bodyOf Try.f36) [1, 0, 1, 0, 1, 0, 0]
noncomputable def xl36_1 : Code := codeAt (bodyOf Try.f36) [1, 0, 1, 0, 1, 0, 1]
noncomputable def xk36_0 : List Fr := [.block 0, .seq (codeAt (bodyOf Try.f36) [1, 1])]
theorem xq36_0_eq : xq36_0 = .rangeFunc (.tmp 10) #[11, 12] xl36_0 xl36_1 := by kernel_rfl
theorem xb36 (s : Sys) (k wl : Nat) (t0 t1 : V) (h : Hp) : bodyV (xX s 36 wl k false) Try.f36 [t0, t1] h =
  bp (opBox t1 h) fun v1 h2 =>
  bp (opAlloc s.P 3 h2) fun v3 h4 =>
  bp (callV (xX s 36 wl k false) false true (.fn (.func 50) [] []) [t0] h4) fun v5 h6 =>
  cnd v5 (
  bp (callV (xX s 36 wl k false) false true (.fn (.func 70) [] []) [t0] h6) fun v7 h8 =>
  execK (xX s 36 wl k false) xq36_0 none (runK (xX s 36 wl k false) (bodyK s.P Try.f36) xk36_0) ⟨[t0, t1, uu, v1, v3, uu, uu, t0, v5, t0, v7, uu, uu, uu, uu, uu, uu], h8⟩) (
  bs (vStore s.P wl 3 v3 (V.lit (Value.int .i64 (-1))) h6) fun h9 =>
  resO [vLoad s.P 3 v3 h9] h9) :=
  bodyV_run rfl (go_seq (go_reg0
  (go_op0 rfl rfl (st_bp (by kernel_rfl) fun v1 h2 =>
  (go_op0 rfl rfl (st_bp (by kernel_rfl) fun v3 h4 =>
  (go_end0 (by kernel_rfl)
  (go_seq (go_seq (go_reg0
  (go_op0 rfl rfl (st_id (v := t0) (H := h4) (by kernel_rfl)
  (go_op0 rfl rfl (st_bp (by kernel_rfl) fun v5 h6 =>
  (go_end0 (by kernel_rfl)
  (go_cond (by kernel_rfl)
  (go_seq (go_reg0
  (go_op0 rfl rfl (st_id (v := t0) (H := h6) (by kernel_rfl)
  (go_op0 rfl rfl (st_bp (by kernel_rfl) fun v7 h8 =>
  (go_end0 (by kernel_rfl)
  (go_block (by kernel_rfl)))))))))
  (go_skip (go_seq (go_reg0
  (go_op0 rfl rfl (st_bs (by kernel_rfl) fun h9 =>
  (go_end0 (by kernel_rfl)
  (go_ret (by kernel_rfl))))))))))))))))))))))))
theorem xe36 (k wl : Nat) (t0 t1 : V) (h : Hp) : evF Try.prog xM (k + 1) wl 36 [t0, t1] h = bodyV (xX (xS k) 36 wl k false) Try.f36 [t0, t1] h := by kernel_rfl
theorem xz36 (P : Program) (t0 t1 t2 t3 t4 t5 t6 t7 t8 t9 t10 t11 t12 t13 t14 t15 t16 : V) (h : Hp) : bodyK P Try.f36 .ret ⟨[t0, t1, t2, t3, t4, t5, t6, t7, t8, t9, t10, t11, t12, t13, t14, t15, t16], h⟩ = resO [vLoad P 3 t4 h] h := by kernel_rfl
theorem xj36_0 (s : Sys) (k wl : Nat) (t0 t1 t2 t3 t4 t5 t6 t7 t8 t9 t10 t11 t12 t13 t14 t15 t16 : V) (h : Hp) : runK (xX s 36 wl k false) (bodyK s.P Try.f36) xk36_0 .norm ⟨[t0, t1, t2, t3, t4, t5, t6, t7, t8, t9, t10, t11, t12, t13, t14, t15, t16], h⟩ =
  bs (vStore s.P wl 3 t4 (V.lit (Value.int .i64 (-1))) h) fun h10 =>
  resO [vLoad s.P 3 t4 h10] h10 :=
  (rt_block_norm (go_seq (go_reg0
  (go_op0 rfl rfl (st_bs (by kernel_rfl) fun h10 =>
  (go_end0 (by kernel_rfl)
  (go_ret (by kernel_rfl))))))))
theorem xq36_1_0_1_0_1_0_1 (s : Sys) (K : Out → St → Option (V × Hp)) (k wl : Nat) (rd : Bool) (t0 t1 t2 t3 t4 t5 t6 t7 t8 t9 t10 t11 t12 t13 t14 t15 t16 : V) (h : Hp) : runK (xX s 36 wl k rd) K [.seq xl36_1] .norm ⟨[t0, t1, t2, t3, t4, t5, t6, t7, t8, t9, t10, t11, t12, t13, t14, t15, t16], h⟩ =
  bm (vLoad s.P 3 t3 h) h fun v11 h12 =>
  bm (vBin s.P .eql 3 t5 v11) h12 fun v13 h14 =>
  cnd v13 (
  bs (vStore s.P wl 3 t4 t6 h14) fun h15 =>
  K .ret ⟨[t0, t1, t2, t3, t4, t5, t6, t7, t8, t9, t10, t11, t12, t5, v11, v13, t6], h15⟩) (
  K .norm ⟨[t0, t1, t2, t3, t4, t5, t6, t7, t8, t9, t10, t11, t12, t5, v11, v13, t16], h14⟩) :=
  (go_block (go_seq (go_reg0
  (go_op0 rfl rfl (st_id (v := t5) (H := h) (by kernel_rfl)
  (go_op0 rfl rfl (st_bm (by kernel_rfl) fun v11 h12 =>
  (go_op0 rfl rfl (st_bm (by kernel_rfl) fun v13 h14 =>
  (go_end0 (by kernel_rfl)
  (go_cond (by kernel_rfl)
  (go_seq (go_reg0
  (go_op0 rfl rfl (st_id (v := t6) (H := h14) (by kernel_rfl)
  (go_op0 rfl rfl (st_bs (by kernel_rfl) fun h15 =>
  (go_end0 (by kernel_rfl)
  (go_ret (rt_block_ret (by kernel_rfl))))))))))
  (go_skip (rt_block_norm (by kernel_rfl))))))))))))))
theorem xq36_1_0_1_0_1_0_0 (s : Sys) (K : Out → St → Option (V × Hp)) (k wl : Nat) (rd : Bool) (t0 t1 t2 t3 t4 t5 t6 t7 t8 t9 t10 t11 t12 t13 t14 t15 t16 : V) (h : Hp) : runK (xX s 36 wl k rd) K [.seq xl36_0] .norm ⟨[t0, t1, t2, t3, t4, t5, t6, t7, t8, t9, t10, t11, t12, t13, t14, t15, t16], h⟩ =
  K .norm ⟨[t0, t1, t2, t3, t4, t11, t12, t7, t8, t9, t10, t11, t12, t13, t14, t15, t16], h⟩ :=
  (go_seq (go_reg0
  (go_op0 rfl rfl (st_id (v := t11) (H := h) (by kernel_rfl)
  (go_end0 (by kernel_rfl)
  (go_reg0
  (go_op0 rfl rfl (st_id (v := t12) (H := h) (by kernel_rfl)
  (go_end0 (by kernel_rfl)
  (by kernel_rfl))))))))))
theorem xk36_0_ret (cx : Cx) (K : Out → St → Option (V × Hp)) (s : St) : runK cx K xk36_0 .ret s = K .ret s := by kernel_rfl
-- names: xb36, xz36, xj36_0, xq36_1_0_1_0_1_0_1, xq36_1_0_1_0_1_0_0, xk36_0_ret
-- range over a function at [1, 0, 1, 0, 1, 0]
/-! 50 poacher/forest.May: 0 t, 1 t, 3 had, 4 k, 5 of -/
noncomputable def xg50_0 : Code := codeAt (bodyOf Try.f50) [1, 0, 0]
noncomputable def xk50_0 : List Fr := [.seq (codeAt (bodyOf Try.f50) [1, 0, 1]), .seq (codeAt (bodyOf Try.f50) [1, 1])]
noncomputable def xq50_0 : Code := codeAt (bodyOf Try.f50) [1, 1, 1, 0, 1, 0]
noncomputable def xl50_0 : Code := codeAt (bodyOf Try.f50) [1, 1, 1, 0, 1, 0, 0]
noncomputable def xl50_1 : Code := codeAt (bodyOf Try.f50) [1, 1, 1, 0, 1, 0, 1]
noncomputable def xk50_1 : List Fr := [.block 0, .seq (codeAt (bodyOf Try.f50) [1, 1, 1, 1])]
noncomputable def xg50_1 : Code := codeAt (bodyOf Try.f50) [1, 1, 1, 0, 1, 0, 1, 0, 0, 0]
noncomputable def xk50_2 : List Fr := [.seq (codeAt (bodyOf Try.f50) [1, 1, 1, 0, 1, 0, 1, 0, 0, 1]), .seq (codeAt (bodyOf Try.f50) [1, 1, 1, 0, 1, 0, 1, 0, 1]), .block 1]
theorem xq50_0_eq : xq50_0 = .rangeFunc (.tmp 17) #[18, 19] xl50_0 xl50_1 := by kernel_rfl
theorem xb50 (s : Sys) (k wl : Nat) (t0 : V) (h : Hp) : bodyV (xX s 50 wl k false) Try.f50 [t0] h =
  bp (opBox t0 h) fun v1 h2 =>
  bp (opAlloc s.P 4 h2) fun v3 h4 =>
  bm (vLoad s.P 22 v1 h4) h4 fun v5 h6 =>
  bp (opLen s.P 22 v5 h6) fun v7 h8 =>
  bm (vBin s.P .gtr 3 v7 (V.lit (Value.int .i64 30))) h8 fun v9 h10 =>
  gd v9 (
  opsP (xX s 50 wl k false) xg50_0 6 h4.length ([], []) (runK (xX s 50 wl k false) (bodyK s.P Try.f50) xk50_0) ⟨[t0, v1, v3, uu, uu, uu, v5, v7, v9, (V.lit (Value.bool true)), uu, uu, uu, uu, uu, uu, uu, uu, uu, uu, uu, uu, uu, uu, uu, uu, uu, uu, uu, uu, uu, uu, uu, uu, uu, uu, uu, uu], h10⟩) (
  bm (vLoad s.P 22 v1 h10) h10 fun v11 h12 =>
  bp (callV (xX s 50 wl k false) false true (.fn (.func 77) [] []) [v11, (.fn (.func 78) [] [])] h12) fun v13 h14 =>
  opsP (xX s 50 wl k false) xg50_0 6 h4.length ([], []) (runK (xX s 50 wl k false) (bodyK s.P Try.f50) xk50_0) ⟨[t0, v1, v3, uu, uu, uu, v5, v7, v9, (V.lit (Value.bool false)), v11, v13, uu, uu, uu, uu, uu, uu, uu, uu, uu, uu, uu, uu, uu, uu, uu, uu, uu, uu, uu, uu, uu, uu, uu, uu, uu, uu], h14⟩) (
  opsP (xX s 50 wl k false) xg50_0 5 h4.length ([], []) (runK (xX s 50 wl k false) (bodyK s.P Try.f50) xk50_0) ⟨[t0, v1, v3, uu, uu, uu, v5, v7, v9, v9, uu, uu, uu, uu, uu, uu, uu, uu, uu, uu, uu, uu, uu, uu, uu, uu, uu, uu, uu, uu, uu, uu, uu, uu, uu, uu, uu, uu], h10⟩) :=
  bodyV_run rfl (go_seq (go_reg0
  (go_op0 rfl rfl (st_bp (by kernel_rfl) fun v1 h2 =>
  (go_op0 rfl rfl (st_bp (by kernel_rfl) fun v3 h4 =>
  (go_end0 (by kernel_rfl)
  (go_seq (go_seq (go_reg0
  (go_op0 rfl rfl (st_bm (by kernel_rfl) fun v5 h6 =>
  (go_op0 rfl rfl (st_bp (by kernel_rfl) fun v7 h8 =>
  (go_op0 rfl rfl (st_bm (by kernel_rfl) fun v9 h10 =>
  (go_op0 rfl rfl (st_id (v := v9) (H := h10) (by kernel_rfl)
  (go_gdF0 rfl rfl rfl (by kernel_rfl)
  (go_skip0 rfl rfl rfl (by kernel_rfl)
  (by kernel_rfl))
  (st_bm (by kernel_rfl) fun v11 h12 =>
  (go_run0 rfl rfl rfl (by kernel_rfl) (st_bp (by kernel_rfl) fun v13 h14 =>
  (by kernel_rfl))))
  (by kernel_rfl))))))))))))))))))))
theorem xe50 (k wl : Nat) (t0 : V) (h : Hp) : evF Try.prog xM (k + 1) wl 50 [t0] h = bodyV (xX (xS k) 50 wl k false) Try.f50 [t0] h := by kernel_rfl
theorem xz50 (P : Program) (t0 t1 t2 t3 t4 t5 t6 t7 t8 t9 t10 t11 t12 t13 t14 t15 t16 t17 t18 t19 t20 t21 t22 t23 t24 t25 t26 t27 t28 t29 t30 t31 t32 t33 t34 t35 t36 t37 : V) (h : Hp) : bodyK P Try.f50 .ret ⟨[t0, t1, t2, t3, t4, t5, t6, t7, t8, t9, t10, t11, t12, t13, t14, t15, t16, t17, t18, t19, t20, t21, t22, t23, t24, t25, t26, t27, t28, t29, t30, t31, t32, t33, t34, t35, t36, t37], h⟩ = resO [vLoad P 4 t2 h] h := by kernel_rfl
theorem xm50_0 (s : Sys) (k wl : Nat) (m0 : Nat) (ac : List Nat × List Nat) (t0 t1 t2 t3 t4 t5 t6 t7 t8 t9 t10 t11 t12 t13 t14 t15 t16 t17 t18 t19 t20 t21 t22 t23 t24 t25 t26 t27 t28 t29 t30 t31 t32 t33 t34 t35 t36 t37 : V) (h : Hp) : opsP (xX s 50 wl k false) xg50_0 6 m0 ac (runK (xX s 50 wl k false) (bodyK s.P Try.f50) xk50_0) ⟨[t0, t1, t2, t3, t4, t5, t6, t7, t8, t9, t10, t11, t12, t13, t14, t15, t16, t17, t18, t19, t20, t21, t22, t23, t24, t25, t26, t27, t28, t29, t30, t31, t32, t33, t34, t35, t36, t37], h⟩ =
  bm (vPick t9 (V.lit (Value.bool true)) t11) h fun v15 h16 =>
  cnd v15 (
  bs (vStore s.P wl 4 t2 (V.lit (Value.bool false)) h16) fun h17 =>
  resO [vLoad s.P 4 t2 h17] h17) (
  bm (vLoad s.P 22 t1 h16) h16 fun v18 h19 =>
  bp (opLen s.P 22 v18 h19) fun v20 h21 =>
  bp (vMakeSlice s.P 87 v20 v20 h21) fun v22 h23 =>
  bp (opAlloc s.P 87 h23) fun v24 h25 =>
  bs (vStore s.P wl 87 v24 v22 h25) fun h26 =>
  bm (vLoad s.P 22 t1 h26) h26 fun v27 h28 =>
  bp (callV (xX s 50 wl k false) false true (.fn (.func 70) [] []) [v27] h28) fun v29 h30 =>
  execK (xX s 50 wl k false) xq50_0 none (runK (xX s 50 wl k false) (bodyK s.P Try.f50) xk50_1) ⟨[t0, t1, t2, v24, t4, t5, t6, t7, t8, t9, t10, t11, v15, v18, v20, v22, v27, v29, t18, t19, t20, t21, t22, t23, t24, t25, t26, t27, t28, t29, t30, t31, t32, t33, t34, t35, t36, t37], h30⟩) :=
  (go_op0 rfl rfl (st_bm (by kernel_rfl) fun v15 h16 =>
  (go_end0 (by kernel_rfl)
  (go_cond (by kernel_rfl)
  (go_seq (go_reg0
  (go_op0 rfl rfl (st_bs (by kernel_rfl) fun h17 =>
  (go_end0 (by kernel_rfl)
  (go_ret (rt_seq_ret (by kernel_rfl))))))))
  (go_skip (go_seq (go_reg0
  (go_op0 rfl rfl (st_bm (by kernel_rfl) fun v18 h19 =>
  (go_op0 rfl rfl (st_bp (by kernel_rfl) fun v20 h21 =>
  (go_op0 rfl rfl (st_bp (by kernel_rfl) fun v22 h23 =>
  (go_op0 rfl rfl (st_bp (by kernel_rfl) fun v24 h25 =>
  (go_op0 rfl rfl (st_bs (by kernel_rfl) fun h26 =>
  (go_end0 (by kernel_rfl)
  (go_seq (go_seq (go_reg0
  (go_op0 rfl rfl (st_bm (by kernel_rfl) fun v27 h28 =>
  (go_op0 rfl rfl (st_bp (by kernel_rfl) fun v29 h30 =>
  (go_end0 (by kernel_rfl)
  (go_block (by kernel_rfl))))))))))))))))))))))))))))
theorem xj50_1 (s : Sys) (k wl : Nat) (t0 t1 t2 t3 t4 t5 t6 t7 t8 t9 t10 t11 t12 t13 t14 t15 t16 t17 t18 t19 t20 t21 t22 t23 t24 t25 t26 t27 t28 t29 t30 t31 t32 t33 t34 t35 t36 t37 : V) (h : Hp) : runK (xX s 50 wl k false) (bodyK s.P Try.f50) xk50_1 .norm ⟨[t0, t1, t2, t3, t4, t5, t6, t7, t8, t9, t10, t11, t12, t13, t14, t15, t16, t17, t18, t19, t20, t21, t22, t23, t24, t25, t26, t27, t28, t29, t30, t31, t32, t33, t34, t35, t36, t37], h⟩ =
  bs (vStore s.P wl 4 t2 (V.lit (Value.bool true)) h) fun h31 =>
  resO [vLoad s.P 4 t2 h31] h31 :=
  (rt_block_norm (go_seq (go_reg0
  (go_op0 rfl rfl (st_bs (by kernel_rfl) fun h31 =>
  (go_end0 (by kernel_rfl)
  (go_ret (by kernel_rfl))))))))
theorem xq50_1_1_1_0_1_0_1 (s : Sys) (K : Out → St → Option (V × Hp)) (k wl : Nat) (rd : Bool) (t0 t1 t2 t3 t4 t5 t6 t7 t8 t9 t10 t11 t12 t13 t14 t15 t16 t17 t18 t19 t20 t21 t22 t23 t24 t25 t26 t27 t28 t29 t30 t31 t32 t33 t34 t35 t36 t37 : V) (h : Hp) : runK (xX s 50 wl k rd) K [.seq xl50_1] .norm ⟨[t0, t1, t2, t3, t4, t5, t6, t7, t8, t9, t10, t11, t12, t13, t14, t15, t16, t17, t18, t19, t20, t21, t22, t23, t24, t25, t26, t27, t28, t29, t30, t31, t32, t33, t34, t35, t36, t37], h⟩ =
  bm (vBin s.P .leq 3 t4 t5) h fun v32 h33 =>
  gd v32 (
  opsP (xX s 50 wl k rd) xg50_1 8 h.length ([], []) (runK (xX s 50 wl k rd) K xk50_2) ⟨[t0, t1, t2, t3, t4, t5, t6, t7, t8, t9, t10, t11, t12, t13, t14, t15, t16, t17, t18, t19, t4, t5, v32, (V.lit (Value.bool true)), uu, uu, uu, uu, t28, t29, t30, t31, t32, t33, t34, t35, t36, t37], h33⟩) (
  bm (vLoad s.P 22 t1 h33) h33 fun v34 h35 =>
  bp (opLen s.P 22 v34 h35) fun v36 h37 =>
  bm (vBin s.P .geq 3 t4 v36) h37 fun v38 h39 =>
  opsP (xX s 50 wl k rd) xg50_1 8 h.length ([], []) (runK (xX s 50 wl k rd) K xk50_2) ⟨[t0, t1, t2, t3, t4, t5, t6, t7, t8, t9, t10, t11, t12, t13, t14, t15, t16, t17, t18, t19, t4, t5, v32, (V.lit (Value.bool false)), t4, v34, v36, v38, t28, t29, t30, t31, t32, t33, t34, t35, t36, t37], h39⟩) (
  opsP (xX s 50 wl k rd) xg50_1 5 h.length ([], []) (runK (xX s 50 wl k rd) K xk50_2) ⟨[t0, t1, t2, t3, t4, t5, t6, t7, t8, t9, t10, t11, t12, t13, t14, t15, t16, t17, t18, t19, t4, t5, v32, v32, uu, t25, t26, t27, t28, t29, t30, t31, t32, t33, t34, t35, t36, t37], h33⟩) :=
  (go_block (go_seq (go_seq (go_reg0
  (go_op0 rfl rfl (st_id (v := t4) (H := h) (by kernel_rfl)
  (go_op0 rfl rfl (st_id (v := t5) (H := h) (by kernel_rfl)
  (go_op0 rfl rfl (st_bm (by kernel_rfl) fun v32 h33 =>
  (go_op0 rfl rfl (st_id (v := v32) (H := h33) (by kernel_rfl)
  (go_gdF0 rfl rfl rfl (by kernel_rfl)
  (go_skip0 rfl rfl rfl (by kernel_rfl)
  (go_skip0 rfl rfl rfl (by kernel_rfl)
  (go_skip0 rfl rfl rfl (by kernel_rfl)
  (by kernel_rfl))))
  (st_id (v := t4) (H := h33) (by kernel_rfl)
  (go_run0 rfl rfl rfl (by kernel_rfl) (st_bm (by kernel_rfl) fun v34 h35 =>
  (go_run0 rfl rfl rfl (by kernel_rfl) (st_bp (by kernel_rfl) fun v36 h37 =>
  (go_run0 rfl rfl rfl (by kernel_rfl) (st_bm (by kernel_rfl) fun v38 h39 =>
  (by kernel_rfl))))))))
  (by kernel_rfl))))))))))))))
theorem xq50_1_1_1_0_1_0_0 (s : Sys) (K : Out → St → Option (V × Hp)) (k wl : Nat) (rd : Bool) (t0 t1 t2 t3 t4 t5 t6 t7 t8 t9 t10 t11 t12 t13 t14 t15 t16 t17 t18 t19 t20 t21 t22 t23 t24 t25 t26 t27 t28 t29 t30 t31 t32 t33 t34 t35 t36 t37 : V) (h : Hp) : runK (xX s 50 wl k rd) K [.seq xl50_0] .norm ⟨[t0, t1, t2, t3, t4, t5, t6, t7, t8, t9, t10, t11, t12, t13, t14, t15, t16, t17, t18, t19, t20, t21, t22, t23, t24, t25, t26, t27, t28, t29, t30, t31, t32, t33, t34, t35, t36, t37], h⟩ =
  K .norm ⟨[t0, t1, t2, t3, t18, t19, t6, t7, t8, t9, t10, t11, t12, t13, t14, t15, t16, t17, t18, t19, t20, t21, t22, t23, t24, t25, t26, t27, t28, t29, t30, t31, t32, t33, t34, t35, t36, t37], h⟩ :=
  (go_seq (go_reg0
  (go_op0 rfl rfl (st_id (v := t18) (H := h) (by kernel_rfl)
  (go_end0 (by kernel_rfl)
  (go_reg0
  (go_op0 rfl rfl (st_id (v := t19) (H := h) (by kernel_rfl)
  (go_end0 (by kernel_rfl)
  (by kernel_rfl))))))))))
theorem xm50_2 (s : Sys) (K : Out → St → Option (V × Hp)) (k wl : Nat) (rd : Bool) (m0 : Nat) (ac : List Nat × List Nat) (t0 t1 t2 t3 t4 t5 t6 t7 t8 t9 t10 t11 t12 t13 t14 t15 t16 t17 t18 t19 t20 t21 t22 t23 t24 t25 t26 t27 t28 t29 t30 t31 t32 t33 t34 t35 t36 t37 : V) (h : Hp) : opsP (xX s 50 wl k rd) xg50_1 8 m0 ac (runK (xX s 50 wl k rd) K xk50_2) ⟨[t0, t1, t2, t3, t4, t5, t6, t7, t8, t9, t10, t11, t12, t13, t14, t15, t16, t17, t18, t19, t20, t21, t22, t23, t24, t25, t26, t27, t28, t29, t30, t31, t32, t33, t34, t35, t36, t37], h⟩ =
  bm (vPick t23 (V.lit (Value.bool true)) t27) h fun v40 h41 =>
  gd v40 (
  opsP (xX s 50 wl k rd) xg50_1 14 m0 ac (runK (xX s 50 wl k rd) K xk50_2) ⟨[t0, t1, t2, t3, t4, t5, t6, t7, t8, t9, t10, t11, t12, t13, t14, t15, t16, t17, t18, t19, t20, t21, t22, t23, t24, t25, t26, t27, v40, (V.lit (Value.bool true)), uu, uu, uu, uu, t34, t35, t36, t37], h41⟩) (
  bm (vLoad s.P 87 t3 h41) h41 fun v42 h43 =>
  bm (vIndexAddr s.P 87 v42 t4 h43) h43 fun v44 h45 =>
  bm (vLoad s.P 4 v44 h45) h45 fun v46 h47 =>
  opsP (xX s 50 wl k rd) xg50_1 14 m0 ac (runK (xX s 50 wl k rd) K xk50_2) ⟨[t0, t1, t2, t3, t4, t5, t6, t7, t8, t9, t10, t11, t12, t13, t14, t15, t16, t17, t18, t19, t20, t21, t22, t23, t24, t25, t26, t27, v40, (V.lit (Value.bool false)), v42, t4, v44, v46, t34, t35, t36, t37], h47⟩) (
  opsP (xX s 50 wl k rd) xg50_1 11 m0 ac (runK (xX s 50 wl k rd) K xk50_2) ⟨[t0, t1, t2, t3, t4, t5, t6, t7, t8, t9, t10, t11, t12, t13, t14, t15, t16, t17, t18, t19, t20, t21, t22, t23, t24, t25, t26, t27, v40, v40, uu, t31, t32, t33, t34, t35, t36, t37], h41⟩) :=
  (go_op0 rfl rfl (st_bm (by kernel_rfl) fun v40 h41 =>
  (go_op0 rfl rfl (st_id (v := v40) (H := h41) (by kernel_rfl)
  (go_gdF0 rfl rfl rfl (by kernel_rfl)
  (go_skip0 rfl rfl rfl (by kernel_rfl)
  (go_skip0 rfl rfl rfl (by kernel_rfl)
  (go_skip0 rfl rfl rfl (by kernel_rfl)
  (by kernel_rfl))))
  (st_bm (by kernel_rfl) fun v42 h43 =>
  (go_run0 rfl rfl rfl (by kernel_rfl) (st_id (v := t4) (H := h43) (by kernel_rfl)
  (go_run0 rfl rfl rfl (by kernel_rfl) (st_bm (by kernel_rfl) fun v44 h45 =>
  (go_run0 rfl rfl rfl (by kernel_rfl) (st_bm (by kernel_rfl) fun v46 h47 =>
  (by kernel_rfl))))))))
  (by kernel_rfl))))))
theorem xm50_3 (s : Sys) (K : Out → St → Option (V × Hp)) (k wl : Nat) (rd : Bool) (m0 : Nat) (ac : List Nat × List Nat) (t0 t1 t2 t3 t4 t5 t6 t7 t8 t9 t10 t11 t12 t13 t14 t15 t16 t17 t18 t19 t20 t21 t22 t23 t24 t25 t26 t27 t28 t29 t30 t31 t32 t33 t34 t35 t36 t37 : V) (h : Hp) : opsP (xX s 50 wl k rd) xg50_1 14 m0 ac (runK (xX s 50 wl k rd) K xk50_2) ⟨[t0, t1, t2, t3, t4, t5, t6, t7, t8, t9, t10, t11, t12, t13, t14, t15, t16, t17, t18, t19, t20, t21, t22, t23, t24, t25, t26, t27, t28, t29, t30, t31, t32, t33, t34, t35, t36, t37], h⟩ =
  bm (vPick t29 (V.lit (Value.bool true)) t33) h fun v48 h49 =>
  cnd v48 (
  bs (vStore s.P wl 4 t2 (V.lit (Value.bool false)) h49) fun h50 =>
  K .ret ⟨[t0, t1, t2, t3, t4, t5, t6, t7, t8, t9, t10, t11, t12, t13, t14, t15, t16, t17, t18, t19, t20, t21, t22, t23, t24, t25, t26, t27, t28, t29, t30, t31, t32, t33, v48, t35, t36, t37], h50⟩) (
  bm (vLoad s.P 87 t3 h49) h49 fun v51 h52 =>
  bm (vIndexAddr s.P 87 v51 t4 h52) h52 fun v53 h54 =>
  bs (vStore s.P wl 4 v53 (V.lit (Value.bool true)) h54) fun h55 =>
  K .norm ⟨[t0, t1, t2, t3, t4, t5, t6, t7, t8, t9, t10, t11, t12, t13, t14, t15, t16, t17, t18, t19, t20, t21, t22, t23, t24, t25, t26, t27, t28, t29, t30, t31, t32, t33, v48, v51, t4, v53], h55⟩) :=
  (go_op0 rfl rfl (st_bm (by kernel_rfl) fun v48 h49 =>
  (go_end0 (by kernel_rfl)
  (go_cond (by kernel_rfl)
  (go_seq (go_reg0
  (go_op0 rfl rfl (st_bs (by kernel_rfl) fun h50 =>
  (go_end0 (by kernel_rfl)
  (go_ret (rt_seq_ret (rt_block_ret (by kernel_rfl)))))))))
  (go_skip (go_reg0
  (go_op0 rfl rfl (st_bm (by kernel_rfl) fun v51 h52 =>
  (go_op0 rfl rfl (st_id (v := t4) (H := h52) (by kernel_rfl)
  (go_op0 rfl rfl (st_bm (by kernel_rfl) fun v53 h54 =>
  (go_op0 rfl rfl (st_bs (by kernel_rfl) fun h55 =>
  (go_end0 (by kernel_rfl)
  (rt_block_norm (by kernel_rfl)))))))))))))))))
theorem xk50_0_ret (cx : Cx) (K : Out → St → Option (V × Hp)) (s : St) : runK cx K xk50_0 .ret s = K .ret s := by kernel_rfl
theorem xk50_1_ret (cx : Cx) (K : Out → St → Option (V × Hp)) (s : St) : runK cx K xk50_1 .ret s = K .ret s := by kernel_rfl
theorem xk50_2_ret (cx : Cx) (K : Out → St → Option (V × Hp)) (s : St) : runK cx K xk50_2 .ret s = K .ret s := by kernel_rfl
-- names: xb50, xz50, xm50_0, xj50_1, xq50_1_1_1_0_1_0_1, xq50_1_1_1_0_1_0_0, xm50_2, xm50_3, xk50_0_ret, xk50_1_ret, xk50_2_ret
-- range over a function at [1, 1, 1, 0, 1, 0]
/-! 52 poacher/forest.Sums: 0 t, 1 t, 4 n, 5 _, 6 x -/
noncomputable def xl52_0 : Code := codeAt (bodyOf Try.f52) [1, 1, 1, 0, 1, 0, 0]
noncomputable def xk52_0 : List Fr := [.block 0, .seq (codeAt (bodyOf Try.f52) [1, 1, 1, 1])]
theorem xb52 (s : Sys) (k wl : Nat) (t0 : V) (h : Hp) : bodyV (xX s 52 wl k false) Try.f52 [t0] h =
  bp (callV (xX s 52 wl k false) false true (.fn (.func 50) [] []) [t0] h) fun v1 h2 =>
  bm (vUn .not v1) h2 fun v3 h4 =>
  cnd v3 (
  some (.tup [(V.lit (Value.int .i64 0)), (V.lit (Value.int .i64 0))], h4)) (
  bp (opLen s.P 22 t0 h4) fun v5 h6 =>
  itX (xX s 52 wl k false) xl52_0 h6.length (runK (xX s 52 wl k false) (bodyK s.P Try.f52) xk52_0) k ⟨[(V.kill h6.length t0), (V.kill h6.length uu), (V.lit (Value.int .i64 0)), (V.lit (Value.int .i64 0)), (V.lit (Value.int .i64 0)), (V.kill h6.length uu), (V.kill h6.length uu), (V.kill h6.length t0), (V.kill h6.length v1), (V.kill h6.length v3), (V.kill h6.length t0), (V.kill h6.length v5), (V.lit (Value.int .i64 0)), .junk, .junk, .junk, .junk, .junk, .junk, .junk, .junk, (V.kill h6.length uu), (V.kill h6.length uu), (V.kill h6.length uu)], cutH h6.length h6⟩) :=
  bodyV_run rfl (go_seq (go_reg0
  (go_op0 rfl rfl (st_id (v := (V.lit (Value.int .i64 0))) (H := h) (by kernel_rfl)
  (go_op0 rfl rfl (st_id (v := (V.lit (Value.int .i64 0))) (H := h) (by kernel_rfl)
  (go_end0 (by kernel_rfl)
  (go_seq (go_seq (go_reg0
  (go_op0 rfl rfl (st_id (v := t0) (H := h) (by kernel_rfl)
  (go_op0 rfl rfl (st_bp (by kernel_rfl) fun v1 h2 =>
  (go_op0 rfl rfl (st_bm (by kernel_rfl) fun v3 h4 =>
  (go_end0 (by kernel_rfl)
  (go_cond (by kernel_rfl)
  (go_seq (go_reg0
  (go_op0 rfl rfl (st_id (v := (V.lit (Value.int .i64 0))) (H := h4) (by kernel_rfl)
  (go_op0 rfl rfl (st_id (v := (V.lit (Value.int .i64 0))) (H := h4) (by kernel_rfl)
  (go_end0 (by kernel_rfl)
  (go_ret (rt_seq_ret (by kernel_rfl))))))))))
  (go_skip (go_seq (go_reg0
  (go_op0 rfl rfl (st_id (v := (V.lit (Value.int .i64 0))) (H := h4) (by kernel_rfl)
  (go_end0 (by kernel_rfl)
  (go_seq (go_seq (go_reg0
  (go_op0 rfl rfl (st_id (v := t0) (H := h4) (by kernel_rfl)
  (go_op0 rfl rfl (st_bp (by kernel_rfl) fun v5 h6 =>
  (go_op0 rfl rfl (st_id (v := (V.lit (Value.int .i64 0))) (H := h6) (by kernel_rfl)
  (go_end0 (by kernel_rfl)
  (go_block (by kernel_rfl))))))))))))))))))))))))))))))))))))
theorem xe52 (k wl : Nat) (t0 : V) (h : Hp) : evF Try.prog xM (k + 1) wl 52 [t0] h = bodyV (xX (xS k) 52 wl k false) Try.f52 [t0] h := by kernel_rfl
theorem xz52 (P : Program) (t0 t1 t2 t3 t4 t5 t6 t7 t8 t9 t10 t11 t12 t13 t14 t15 t16 t17 t18 t19 t20 t21 t22 t23 : V) (h : Hp) : bodyK P Try.f52 .ret ⟨[t0, t1, t2, t3, t4, t5, t6, t7, t8, t9, t10, t11, t12, t13, t14, t15, t16, t17, t18, t19, t20, t21, t22, t23], h⟩ = some (.tup [t2, t3], h) := by kernel_rfl
theorem xr52_0 (s : Sys) (K : Out → St → Option (V × Hp)) (k wl : Nat) (rd : Bool) (n n0 : Nat) (t0 t1 t2 t3 t4 t5 t6 t7 t8 t9 t10 t11 t12 t13 t14 t15 t16 t17 t18 t19 t20 t21 t22 t23 : V) (h : Hp) : itX (xX s 52 wl k rd) xl52_0 n0 K (n + 1) ⟨[t0, t1, t2, t3, t4, t5, t6, t7, t8, t9, t10, t11, t12, t13, t14, t15, t16, t17, t18, t19, t20, t21, t22, t23], h⟩ =
  bm (vBin s.P .lss 3 t12 t11) h fun v7 h8 =>
  cnd v7 (
  bm (vIndexAddr s.P 22 t10 t12 h8) h8 fun v9 h10 =>
  bm (vLoad s.P 40 v9 h10) h10 fun v11 h12 =>
  bp (opAlloc s.P 40 h12) fun v13 h14 =>
  bs (vStore s.P wl 40 v13 v11 h14) fun h15 =>
  bm (vFieldAddr s.P 40 v13 0) h15 fun v16 h17 =>
  bm (vLoad s.P 3 v16 h17) h17 fun v18 h19 =>
  bm (vBin s.P .add 3 t4 v18) h19 fun v20 h21 =>
  bm (vBin s.P .add 3 t12 (V.lit (Value.int .i64 1))) h21 fun v22 h23 =>
  itX (xX s 52 wl k rd) xl52_0 n0 K n ⟨[(V.kill n0 t0), (V.kill n0 t1), (V.kill n0 t2), (V.kill n0 t3), (V.kill n0 v20), (V.kill n0 t5), (V.kill n0 v13), (V.kill n0 t7), (V.kill n0 t8), (V.kill n0 t9), (V.kill n0 t10), (V.kill n0 t11), (V.kill n0 v22), .junk, .junk, .junk, .junk, .junk, .junk, .junk, .junk, (V.kill n0 t21), (V.kill n0 t22), (V.kill n0 t23)], cutH n0 h23⟩) (
  K (.exit 0) ⟨[(V.kill n0 t0), (V.kill n0 t1), (V.kill n0 t2), (V.kill n0 t3), (V.kill n0 t4), (V.kill n0 t5), (V.kill n0 t6), (V.kill n0 t7), (V.kill n0 t8), (V.kill n0 t9), (V.kill n0 t10), (V.kill n0 t11), .junk, .junk, .junk, .junk, .junk, .junk, .junk, .junk, .junk, (V.kill n0 t21), (V.kill n0 t22), (V.kill n0 t23)], cutH n0 h8⟩) :=
  itX_step (go_seq (go_reg0
  (go_op0 rfl rfl (st_bm (by kernel_rfl) fun v7 h8 =>
  (go_end0 (by kernel_rfl)
  (go_seq (go_cond (by kernel_rfl)
  (go_skip (go_seq (go_block (go_seq (go_reg0
  (go_op0 rfl rfl (st_bm (by kernel_rfl) fun v9 h10 =>
  (go_op0 rfl rfl (st_bm (by kernel_rfl) fun v11 h12 =>
  (go_op0 rfl rfl (st_bp (by kernel_rfl) fun v13 h14 =>
  (go_op0 rfl rfl (st_bs (by kernel_rfl) fun h15 =>
  (go_end0 (by kernel_rfl)
  (go_reg0
  (go_op0 rfl rfl (st_id (v := t4) (H := h15) (by kernel_rfl)
  (go_op0 rfl rfl (st_bm (by kernel_rfl) fun v16 h17 =>
  (go_op0 rfl rfl (st_bm (by kernel_rfl) fun v18 h19 =>
  (go_op0 rfl rfl (st_bm (by kernel_rfl) fun v20 h21 =>
  (go_op0 rfl rfl (st_id (v := v20) (H := h21) (by kernel_rfl)
  (go_end0 (by kernel_rfl)
  (rt_block_norm (go_reg0
  (go_op0 rfl rfl (st_bm (by kernel_rfl) fun v22 h23 =>
  (go_op0 rfl rfl (st_id (v := v22) (H := h23) (by kernel_rfl)
  (go_end0 (by kernel_rfl)
  (by kernel_rfl))))))))))))))))))))))))))))))))))
  (go_exit (rt_seq_exit (by kernel_rfl))))))))))
theorem xj52_0 (s : Sys) (k wl : Nat) (t0 t1 t2 t3 t4 t5 t6 t7 t8 t9 t10 t11 t12 t13 t14 t15 t16 t17 t18 t19 t20 t21 t22 t23 : V) (h : Hp) : runK (xX s 52 wl k false) (bodyK s.P Try.f52) xk52_0 (.exit 0) ⟨[t0, t1, t2, t3, t4, t5, t6, t7, t8, t9, t10, t11, t12, t13, t14, t15, t16, t17, t18, t19, t20, t21, t22, t23], h⟩ =
  bp (opLen s.P 22 t0 h) fun v24 h25 =>
  some (.tup [v24, t4], h25) :=
  (rt_block_eq (go_seq (go_reg0
  (go_op0 rfl rfl (st_id (v := t0) (H := h) (by kernel_rfl)
  (go_op0 rfl rfl (st_bp (by kernel_rfl) fun v24 h25 =>
  (go_op0 rfl rfl (st_id (v := t4) (H := h25) (by kernel_rfl)
  (go_op0 rfl rfl (st_id (v := v24) (H := h25) (by kernel_rfl)
  (go_op0 rfl rfl (st_id (v := t4) (H := h25) (by kernel_rfl)
  (go_end0 (by kernel_rfl)
  (go_ret (by kernel_rfl))))))))))))))))
theorem xk52_0_ret (cx : Cx) (K : Out → St → Option (V × Hp)) (s : St) : runK cx K xk52_0 .ret s = K .ret s := by kernel_rfl
-- names: xb52, xz52, xr52_0, xj52_0, xk52_0_ret
/-! 53 poacher/poacherref04.Sums: 0 t, 1 t, 4 may, 5 n, 6 i -/
noncomputable def xl53_0 : Code := codeAt (bodyOf Try.f53) [1, 1, 1, 1, 0, 1, 0, 0]
noncomputable def xk53_0 : List Fr := [.block 0, .seq (codeAt (bodyOf Try.f53) [1, 1, 1, 1, 1])]
theorem xb53 (s : Sys) (k wl : Nat) (t0 : V) (h : Hp) : bodyV (xX s 53 wl k false) Try.f53 [t0] h =
  bp (callV (xX s 53 wl k false) false true (.fn (.func 54) [] []) [t0] h) fun v1 h2 =>
  bm (vUn .not v1) h2 fun v3 h4 =>
  cnd v3 (
  some (.tup [(V.lit (Value.int .i64 0)), (V.lit (Value.int .i64 0))], h4)) (
  itX (xX s 53 wl k false) xl53_0 h4.length (runK (xX s 53 wl k false) (bodyK s.P Try.f53) xk53_0) k ⟨[(V.kill h4.length t0), (V.kill h4.length uu), (V.lit (Value.int .i64 0)), (V.lit (Value.int .i64 0)), (V.kill h4.length v1), (V.lit (Value.int .i64 0)), (V.lit (Value.int .i64 0)), (V.kill h4.length t0), (V.kill h4.length v1), (V.kill h4.length v1), (V.kill h4.length v3), .junk, .junk, .junk, .junk, .junk, .junk, .junk, .junk, .junk, .junk, .junk, .junk, .junk, (V.kill h4.length uu), (V.kill h4.length uu), (V.kill h4.length uu)], cutH h4.length h4⟩) :=
  bodyV_run rfl (go_seq (go_reg0
  (go_op0 rfl rfl (st_id (v := (V.lit (Value.int .i64 0))) (H := h) (by kernel_rfl)
  (go_op0 rfl rfl (st_id (v := (V.lit (Value.int .i64 0))) (H := h) (by kernel_rfl)
  (go_end0 (by kernel_rfl)
  (go_seq (go_reg0
  (go_op0 rfl rfl (st_id (v := t0) (H := h) (by kernel_rfl)
  (go_op0 rfl rfl (st_bp (by kernel_rfl) fun v1 h2 =>
  (go_op0 rfl rfl (st_id (v := v1) (H := h2) (by kernel_rfl)
  (go_end0 (by kernel_rfl)
  (go_seq (go_seq (go_reg0
  (go_op0 rfl rfl (st_id (v := v1) (H := h2) (by kernel_rfl)
  (go_op0 rfl rfl (st_bm (by kernel_rfl) fun v3 h4 =>
  (go_end0 (by kernel_rfl)
  (go_cond (by kernel_rfl)
  (go_seq (go_reg0
  (go_op0 rfl rfl (st_id (v := (V.lit (Value.int .i64 0))) (H := h4) (by kernel_rfl)
  (go_op0 rfl rfl (st_id (v := (V.lit (Value.int .i64 0))) (H := h4) (by kernel_rfl)
  (go_end0 (by kernel_rfl)
  (go_ret (rt_seq_ret (by kernel_rfl))))))))))
  (go_skip (go_seq (go_reg0
  (go_op0 rfl rfl (st_id (v := (V.lit (Value.int .i64 0))) (H := h4) (by kernel_rfl)
  (go_end0 (by kernel_rfl)
  (go_seq (go_seq (go_reg0
  (go_op0 rfl rfl (st_id (v := (V.lit (Value.int .i64 0))) (H := h4) (by kernel_rfl)
  (go_end0 (by kernel_rfl)
  (go_block (by kernel_rfl)))))))))))))))))))))))))))))))))))))))
theorem xe53 (k wl : Nat) (t0 : V) (h : Hp) : evF Try.prog xM (k + 1) wl 53 [t0] h = bodyV (xX (xS k) 53 wl k false) Try.f53 [t0] h := by kernel_rfl
theorem xz53 (P : Program) (t0 t1 t2 t3 t4 t5 t6 t7 t8 t9 t10 t11 t12 t13 t14 t15 t16 t17 t18 t19 t20 t21 t22 t23 t24 t25 t26 : V) (h : Hp) : bodyK P Try.f53 .ret ⟨[t0, t1, t2, t3, t4, t5, t6, t7, t8, t9, t10, t11, t12, t13, t14, t15, t16, t17, t18, t19, t20, t21, t22, t23, t24, t25, t26], h⟩ = some (.tup [t2, t3], h) := by kernel_rfl
theorem xr53_0 (s : Sys) (K : Out → St → Option (V × Hp)) (k wl : Nat) (rd : Bool) (n n0 : Nat) (t0 t1 t2 t3 t4 t5 t6 t7 t8 t9 t10 t11 t12 t13 t14 t15 t16 t17 t18 t19 t20 t21 t22 t23 t24 t25 t26 : V) (h : Hp) : itX (xX s 53 wl k rd) xl53_0 n0 K (n + 1) ⟨[t0, t1, t2, t3, t4, t5, t6, t7, t8, t9, t10, t11, t12, t13, t14, t15, t16, t17, t18, t19, t20, t21, t22, t23, t24, t25, t26], h⟩ =
  bp (opLen s.P 22 t0 h) fun v5 h6 =>
  bm (vBin s.P .lss 3 t6 v5) h6 fun v7 h8 =>
  cnd v7 (
  bm (vIndexAddr s.P 22 t0 t6 h8) h8 fun v9 h10 =>
  bm (vFieldAddr s.P 40 v9 0) h10 fun v11 h12 =>
  bm (vLoad s.P 3 v11 h12) h12 fun v13 h14 =>
  bm (vBin s.P .add 3 t5 v13) h14 fun v15 h16 =>
  bm (vBin s.P .add 3 t6 (V.lit (Value.int .i64 1))) h16 fun v17 h18 =>
  itX (xX s 53 wl k rd) xl53_0 n0 K n ⟨[(V.kill n0 t0), (V.kill n0 t1), (V.kill n0 t2), (V.kill n0 t3), (V.kill n0 t4), (V.kill n0 v15), (V.kill n0 v17), (V.kill n0 t7), (V.kill n0 t8), (V.kill n0 t9), (V.kill n0 t10), .junk, .junk, .junk, .junk, .junk, .junk, .junk, .junk, .junk, .junk, .junk, .junk, .junk, (V.kill n0 t24), (V.kill n0 t25), (V.kill n0 t26)], cutH n0 h18⟩) (
  K (.exit 0) ⟨[(V.kill n0 t0), (V.kill n0 t1), (V.kill n0 t2), (V.kill n0 t3), (V.kill n0 t4), (V.kill n0 t5), (V.kill n0 t6), (V.kill n0 t7), (V.kill n0 t8), (V.kill n0 t9), (V.kill n0 t10), .junk, .junk, .junk, .junk, .junk, .junk, .junk, .junk, .junk, .junk, .junk, .junk, .junk, (V.kill n0 t24), (V.kill n0 t25), (V.kill n0 t26)], cutH n0 h8⟩) :=
  itX_step (go_seq (go_seq (go_reg0
  (go_op0 rfl rfl (st_id (v := t6) (H := h) (by kernel_rfl)
  (go_op0 rfl rfl (st_id (v := t0) (H := h) (by kernel_rfl)
  (go_op0 rfl rfl (st_bp (by kernel_rfl) fun v5 h6 =>
  (go_op0 rfl rfl (st_bm (by kernel_rfl) fun v7 h8 =>
  (go_end0 (by kernel_rfl)
  (go_cond (by kernel_rfl)
  (go_skip (go_seq (go_block (go_reg0
  (go_op0 rfl rfl (st_id (v := t5) (H := h8) (by kernel_rfl)
  (go_op0 rfl rfl (st_id (v := t0) (H := h8) (by kernel_rfl)
  (go_op0 rfl rfl (st_id (v := t6) (H := h8) (by kernel_rfl)
  (go_op0 rfl rfl (st_bm (by kernel_rfl) fun v9 h10 =>
  (go_op0 rfl rfl (st_bm (by kernel_rfl) fun v11 h12 =>
  (go_op0 rfl rfl (st_bm (by kernel_rfl) fun v13 h14 =>
  (go_op0 rfl rfl (st_bm (by kernel_rfl) fun v15 h16 =>
  (go_op0 rfl rfl (st_id (v := v15) (H := h16) (by kernel_rfl)
  (go_end0 (by kernel_rfl)
  (rt_block_norm (go_reg0
  (go_op0 rfl rfl (st_id (v := t6) (H := h16) (by kernel_rfl)
  (go_op0 rfl rfl (st_bm (by kernel_rfl) fun v17 h18 =>
  (go_op0 rfl rfl (st_id (v := v17) (H := h18) (by kernel_rfl)
  (go_end0 (by kernel_rfl)
  (by kernel_rfl)))))))))))))))))))))))))))))))
  (go_exit (rt_seq_exit (by kernel_rfl))))))))))))))))
theorem xj53_0 (s : Sys) (k wl : Nat) (t0 t1 t2 t3 t4 t5 t6 t7 t8 t9 t10 t11 t12 t13 t14 t15 t16 t17 t18 t19 t20 t21 t22 t23 t24 t25 t26 : V) (h : Hp) : runK (xX s 53 wl k false) (bodyK s.P Try.f53) xk53_0 (.exit 0) ⟨[t0, t1, t2, t3, t4, t5, t6, t7, t8, t9, t10, t11, t12, t13, t14, t15, t16, t17, t18, t19, t20, t21, t22, t23, t24, t25, t26], h⟩ =
  bp (opLen s.P 22 t0 h) fun v19 h20 =>
  some (.tup [v19, t5], h20) :=
  (rt_block_eq (go_seq (go_reg0
  (go_op0 rfl rfl (st_id (v := t0) (H := h) (by kernel_rfl)
  (go_op0 rfl rfl (st_bp (by kernel_rfl) fun v19 h20 =>
  (go_op0 rfl rfl (st_id (v := t5) (H := h20) (by kernel_rfl)
  (go_op0 rfl rfl (st_id (v := v19) (H := h20) (by kernel_rfl)
  (go_op0 rfl rfl (st_id (v := t5) (H := h20) (by kernel_rfl)
  (go_end0 (by kernel_rfl)
  (go_ret (by kernel_rfl))))))))))))))))
theorem xk53_0_ret (cx : Cx) (K : Out → St → Option (V × Hp)) (s : St) : runK cx K xk53_0 .ret s = K .ret s := by kernel_rfl
-- names: xb53, xz53, xr53_0, xj53_0, xk53_0_ret
/-! 54 poacher/poacherref04.May: 0 t, 1 t, 3 had, 4 i, 5 j, 6 k -/
noncomputable def xl54_0 : Code := codeAt (bodyOf Try.f54) [1, 1, 1, 0, 1, 0, 0]
noncomputable def xk54_0 : List Fr := [.block 0, .seq (codeAt (bodyOf Try.f54) [1, 1, 1, 1])]
noncomputable def xg54_0 : Code := codeAt (bodyOf Try.f54) [1, 1, 1, 0, 1, 0, 0, 1, 0, 0, 0, 0]
noncomputable def xk54_1 : List Fr := [.seq (codeAt (bodyOf Try.f54) [1, 1, 1, 0, 1, 0, 0, 1, 0, 0, 0, 1]), .seq (codeAt (bodyOf Try.f54) [1, 1, 1, 0, 1, 0, 0, 1, 0, 0, 1]), .block 1, .seq (codeAt (bodyOf Try.f54) [1, 1, 1, 0, 1, 0, 0, 1, 1])]
noncomputable def xl54_1 : Code := codeAt (bodyOf Try.f54) [1, 1, 1, 0, 1, 0, 0, 1, 0, 0, 1, 1, 0, 0]
noncomputable def xk54_2 : List Fr := [.block 2, .block 1, .seq (codeAt (bodyOf Try.f54) [1, 1, 1, 0, 1, 0, 0, 1, 1])]
noncomputable def xg54_1 : Code := codeAt (bodyOf Try.f54) [1, 1, 1, 0, 1, 0, 0, 1, 0, 0, 1, 1, 0, 0, 1, 0, 0, 1, 0, 0]
noncomputable def xk54_3 : List Fr := [.seq (codeAt (bodyOf Try.f54) [1, 1, 1, 0, 1, 0, 0, 1, 0, 0, 1, 1, 0, 0, 1, 0, 0, 1, 0, 1]), .seq (codeAt (bodyOf Try.f54) [1, 1, 1, 0, 1, 0, 0, 1, 0, 0, 1, 1, 0, 0, 1, 0, 0, 1, 1]), .block 3, .seq (codeAt (bodyOf Try.f54) [1, 1, 1, 0, 1, 0, 0, 1, 0, 0, 1, 1, 0, 0, 1, 1])]
theorem xb54 (s : Sys) (k wl : Nat) (t0 : V) (h : Hp) : bodyV (xX s 54 wl k false) Try.f54 [t0] h =
  bp (opLen s.P 22 t0 h) fun v1 h2 =>
  bm (vBin s.P .gtr 3 v1 (V.lit (Value.int .i64 30))) h2 fun v3 h4 =>
  cnd v3 (
  some ((V.lit (Value.bool false)), h4)) (
  bp (opLen s.P 22 t0 h4) fun v5 h6 =>
  bp (vMakeSlice s.P 87 v5 v5 h6) fun v7 h8 =>
  itX (xX s 54 wl k false) xl54_0 h8.length (runK (xX s 54 wl k false) (bodyK s.P Try.f54) xk54_0) k ⟨((V.kill h8.length t0) :: (V.kill h8.length uu) :: (V.lit (Value.bool false)) :: (V.kill h8.length v7) :: (V.lit (Value.int .i64 0)) :: (V.kill h8.length uu) :: (V.kill h8.length uu) :: (V.kill h8.length t0) :: (V.kill h8.length v1) :: (V.kill h8.length v3) :: (V.kill h8.length t0) :: (V.kill h8.length v5) :: (V.kill h8.length v7) :: .junk :: .junk :: .junk :: .junk :: .junk :: .junk :: .junk :: .junk :: .junk :: .junk :: .junk :: .junk :: .junk :: .junk :: .junk :: .junk :: .junk :: .junk :: .junk :: .junk :: .junk :: .junk :: .junk :: .junk :: .junk :: .junk :: .junk :: .junk :: .junk :: .junk :: .junk :: .junk :: .junk :: .junk :: .junk :: .junk :: .junk :: .junk :: .junk :: .junk :: .junk :: .junk :: .junk :: .junk :: .junk :: .junk :: .junk :: .junk :: .junk :: .junk :: .junk :: .junk :: .junk :: .junk :: .junk :: .junk :: []), cutH h8.length h8⟩) :=
  bodyV_run rfl (go_seq (go_reg0
  (go_op0 rfl rfl (st_id (v := (V.lit (Value.bool false))) (H := h) (by kernel_rfl)
  (go_end0 (by kernel_rfl)
  (go_seq (go_seq (go_reg0
  (go_op0 rfl rfl (st_id (v := t0) (H := h) (by kernel_rfl)
  (go_op0 rfl rfl (st_bp (by kernel_rfl) fun v1 h2 =>
  (go_op0 rfl rfl (st_bm (by kernel_rfl) fun v3 h4 =>
  (go_end0 (by kernel_rfl)
  (go_cond (by kernel_rfl)
  (go_seq (go_reg0
  (go_op0 rfl rfl (st_id (v := (V.lit (Value.bool false))) (H := h4) (by kernel_rfl)
  (go_end0 (by kernel_rfl)
  (go_ret (rt_seq_ret (by kernel_rfl))))))))
  (go_skip (go_seq (go_reg0
  (go_op0 rfl rfl (st_id (v := t0) (H := h4) (by kernel_rfl)
  (go_op0 rfl rfl (st_bp (by kernel_rfl) fun v5 h6 =>
  (go_op0 rfl rfl (st_bp (by kernel_rfl) fun v7 h8 =>
  (go_op0 rfl rfl (st_id (v := v7) (H := h8) (by kernel_rfl)
  (go_end0 (by kernel_rfl)
  (go_seq (go_seq (go_reg0
  (go_op0 rfl rfl (st_id (v := (V.lit (Value.int .i64 0))) (H := h8) (by kernel_rfl)
  (go_end0 (by kernel_rfl)
  (go_block (by kernel_rfl))))))))))))))))))))))))))))))))))))
theorem xe54 (k wl : Nat) (t0 : V) (h : Hp) : evF Try.prog xM (k + 1) wl 54 [t0] h = bodyV (xX (xS k) 54 wl k false) Try.f54 [t0] h := by kernel_rfl
theorem xz54 (P : Program) (t0 t1 t2 t3 t4 t5 t6 t7 t8 t9 t10 t11 t12 t13 t14 t15 t16 t17 t18 t19 t20 t21 t22 t23 t24 t25 t26 t27 t28 t29 t30 t31 t32 t33 t34 t35 t36 t37 t38 t39 t40 t41 t42 t43 t44 t45 t46 t47 t48 t49 t50 t51 t52 t53 t54 t55 t56 t57 t58 t59 t60 t61 t62 t63 t64 t65 t66 t67 t68 : V) (h : Hp) : bodyK P Try.f54 .ret ⟨(t0 :: t1 :: t2 :: t3 :: t4 :: t5 :: t6 :: t7 :: t8 :: t9 :: t10 :: t11 :: t12 :: t13 :: t14 :: t15 :: t16 :: t17 :: t18 :: t19 :: t20 :: t21 :: t22 :: t23 :: t24 :: t25 :: t26 :: t27 :: t28 :: t29 :: t30 :: t31 :: t32 :: t33 :: t34 :: t35 :: t36 :: t37 :: t38 :: t39 :: t40 :: t41 :: t42 :: t43 :: t44 :: t45 :: t46 :: t47 :: t48 :: t49 :: t50 :: t51 :: t52 :: t53 :: t54 :: t55 :: t56 :: t57 :: t58 :: t59 :: t60 :: t61 :: t62 :: t63 :: t64 :: t65 :: t66 :: t67 :: t68 :: []), h⟩ = some (t2, h) := by kernel_rfl
theorem xr54_0 (s : Sys) (K : Out → St → Option (V × Hp)) (k wl : Nat) (rd : Bool) (n n0 : Nat) (t0 t1 t2 t3 t4 t5 t6 t7 t8 t9 t10 t11 t12 t13 t14 t15 t16 t17 t18 t19 t20 t21 t22 t23 t24 t25 t26 t27 t28 t29 t30 t31 t32 t33 t34 t35 t36 t37 t38 t39 t40 t41 t42 t43 t44 t45 t46 t47 t48 t49 t50 t51 t52 t53 t54 t55 t56 t57 t58 t59 t60 t61 t62 t63 t64 t65 t66 t67 t68 : V) (h : Hp) : itX (xX s 54 wl k rd) xl54_0 n0 K (n + 1) ⟨(t0 :: t1 :: t2 :: t3 :: t4 :: t5 :: t6 :: t7 :: t8 :: t9 :: t10 :: t11 :: t12 :: t13 :: t14 :: t15 :: t16 :: t17 :: t18 :: t19 :: t20 :: t21 :: t22 :: t23 :: t24 :: t25 :: t26 :: t27 :: t28 :: t29 :: t30 :: t31 :: t32 :: t33 :: t34 :: t35 :: t36 :: t37 :: t38 :: t39 :: t40 :: t41 :: t42 :: t43 :: t44 :: t45 :: t46 :: t47 :: t48 :: t49 :: t50 :: t51 :: t52 :: t53 :: t54 :: t55 :: t56 :: t57 :: t58 :: t59 :: t60 :: t61 :: t62 :: t63 :: t64 :: t65 :: t66 :: t67 :: t68 :: []), h⟩ =
  bp (opLen s.P 22 t0 h) fun v9 h10 =>
  bm (vBin s.P .lss 3 t4 v9) h10 fun v11 h12 =>
  cnd v11 (
  bm (vIndexAddr s.P 22 t0 t4 h12) h12 fun v13 h14 =>
  bm (vFieldAddr s.P 40 v13 0) h14 fun v15 h16 =>
  bm (vLoad s.P 3 v15 h16) h16 fun v17 h18 =>
  bm (vBin s.P .lss 3 v17 (V.lit (Value.int .i64 0))) h18 fun v19 h20 =>
  gd v19 (
  opsP (xX s 54 wl k rd) xg54_0 13 h12.length ([], []) (runK (xX s 54 wl k rd) (nextK (xX s 54 wl k rd) xl54_0 n0 K n) xk54_1) ⟨(t0 :: t1 :: t2 :: t3 :: t4 :: t5 :: t6 :: t7 :: t8 :: t9 :: t10 :: t11 :: t12 :: t4 :: t0 :: v9 :: v11 :: t17 :: t18 :: t0 :: t4 :: v13 :: v15 :: v17 :: v19 :: (V.lit (Value.bool true)) :: uu :: uu :: uu :: uu :: uu :: uu :: t32 :: t33 :: t34 :: t35 :: t36 :: t37 :: t38 :: t39 :: t40 :: t41 :: t42 :: t43 :: t44 :: t45 :: t46 :: t47 :: t48 :: t49 :: t50 :: t51 :: t52 :: t53 :: t54 :: t55 :: t56 :: t57 :: t58 :: t59 :: t60 :: t61 :: t62 :: t63 :: t64 :: t65 :: t66 :: t67 :: t68 :: []), h20⟩) (
  bm (vIndexAddr s.P 22 t0 t4 h20) h20 fun v21 h22 =>
  bm (vFieldAddr s.P 40 v21 0) h22 fun v23 h24 =>
  bm (vLoad s.P 3 v23 h24) h24 fun v25 h26 =>
  bm (vBin s.P .gtr 3 v25 (V.lit (Value.int .i64 20))) h26 fun v27 h28 =>
  opsP (xX s 54 wl k rd) xg54_0 13 h12.length ([], []) (runK (xX s 54 wl k rd) (nextK (xX s 54 wl k rd) xl54_0 n0 K n) xk54_1) ⟨(t0 :: t1 :: t2 :: t3 :: t4 :: t5 :: t6 :: t7 :: t8 :: t9 :: t10 :: t11 :: t12 :: t4 :: t0 :: v9 :: v11 :: t17 :: t18 :: t0 :: t4 :: v13 :: v15 :: v17 :: v19 :: (V.lit (Value.bool false)) :: t0 :: t4 :: v21 :: v23 :: v25 :: v27 :: t32 :: t33 :: t34 :: t35 :: t36 :: t37 :: t38 :: t39 :: t40 :: t41 :: t42 :: t43 :: t44 :: t45 :: t46 :: t47 :: t48 :: t49 :: t50 :: t51 :: t52 :: t53 :: t54 :: t55 :: t56 :: t57 :: t58 :: t59 :: t60 :: t61 :: t62 :: t63 :: t64 :: t65 :: t66 :: t67 :: t68 :: []), h28⟩) (
  opsP (xX s 54 wl k rd) xg54_0 8 h12.length ([], []) (runK (xX s 54 wl k rd) (nextK (xX s 54 wl k rd) xl54_0 n0 K n) xk54_1) ⟨(t0 :: t1 :: t2 :: t3 :: t4 :: t5 :: t6 :: t7 :: t8 :: t9 :: t10 :: t11 :: t12 :: t4 :: t0 :: v9 :: v11 :: t17 :: t18 :: t0 :: t4 :: v13 :: v15 :: v17 :: v19 :: v19 :: uu :: t27 :: t28 :: t29 :: t30 :: t31 :: t32 :: t33 :: t34 :: t35 :: t36 :: t37 :: t38 :: t39 :: t40 :: t41 :: t42 :: t43 :: t44 :: t45 :: t46 :: t47 :: t48 :: t49 :: t50 :: t51 :: t52 :: t53 :: t54 :: t55 :: t56 :: t57 :: t58 :: t59 :: t60 :: t61 :: t62 :: t63 :: t64 :: t65 :: t66 :: t67 :: t68 :: []), h20⟩)) (
  K (.exit 0) ⟨((V.kill n0 t0) :: (V.kill n0 t1) :: (V.kill n0 t2) :: (V.kill n0 t3) :: (V.kill n0 t4) :: (V.kill n0 t5) :: (V.kill n0 t6) :: (V.kill n0 t7) :: (V.kill n0 t8) :: (V.kill n0 t9) :: (V.kill n0 t10) :: (V.kill n0 t11) :: (V.kill n0 t12) :: .junk :: .junk :: .junk :: .junk :: .junk :: .junk :: .junk :: .junk :: .junk :: .junk :: .junk :: .junk :: .junk :: .junk :: .junk :: .junk :: .junk :: .junk :: .junk :: .junk :: .junk :: .junk :: .junk :: .junk :: .junk :: .junk :: .junk :: .junk :: .junk :: .junk :: .junk :: .junk :: .junk :: .junk :: .junk :: .junk :: .junk :: .junk :: .junk :: .junk :: .junk :: .junk :: .junk :: .junk :: .junk :: .junk :: .junk :: .junk :: .junk :: .junk :: .junk :: .junk :: .junk :: .junk :: .junk :: .junk :: []), cutH n0 h12⟩) :=
  itX_step (go_seq (go_seq (go_reg0
  (go_op0 rfl rfl (st_id (v := t4) (H := h) (by kernel_rfl)
  (go_op0 rfl rfl (st_id (v := t0) (H := h) (by kernel_rfl)
  (go_op0 rfl rfl (st_bp (by kernel_rfl) fun v9 h10 =>
  (go_op0 rfl rfl (st_bm (by kernel_rfl) fun v11 h12 =>
  (go_end0 (by kernel_rfl)
  (go_cond (by kernel_rfl)
  (go_skip (go_seq (go_block (go_seq (go_seq (go_reg0
  (go_op0 rfl rfl (st_id (v := t0) (H := h12) (by kernel_rfl)
  (go_op0 rfl rfl (st_id (v := t4) (H := h12) (by kernel_rfl)
  (go_op0 rfl rfl (st_bm (by kernel_rfl) fun v13 h14 =>
  (go_op0 rfl rfl (st_bm (by kernel_rfl) fun v15 h16 =>
  (go_op0 rfl rfl (st_bm (by kernel_rfl) fun v17 h18 =>
  (go_op0 rfl rfl (st_bm (by kernel_rfl) fun v19 h20 =>
  (go_op0 rfl rfl (st_id (v := v19) (H := h20) (by kernel_rfl)
  (go_gdF0 rfl rfl rfl (by kernel_rfl)
  (go_skip0 rfl rfl rfl (by kernel_rfl)
  (go_skip0 rfl rfl rfl (by kernel_rfl)
  (go_skip0 rfl rfl rfl (by kernel_rfl)
  (go_skip0 rfl rfl rfl (by kernel_rfl)
  (go_skip0 rfl rfl rfl (by kernel_rfl)
  (by kernel_rfl))))))
  (st_id (v := t0) (H := h20) (by kernel_rfl)
  (go_run0 rfl rfl rfl (by kernel_rfl) (st_id (v := t4) (H := h20) (by kernel_rfl)
  (go_run0 rfl rfl rfl (by kernel_rfl) (st_bm (by kernel_rfl) fun v21 h22 =>
  (go_run0 rfl rfl rfl (by kernel_rfl) (st_bm (by kernel_rfl) fun v23 h24 =>
  (go_run0 rfl rfl rfl (by kernel_rfl) (st_bm (by kernel_rfl) fun v25 h26 =>
  (go_run0 rfl rfl rfl (by kernel_rfl) (st_bm (by kernel_rfl) fun v27 h28 =>
  (by kernel_rfl))))))))))))
  (by kernel_rfl))))))))))))))))))))))
  (go_exit (rt_seq_exit (by kernel_rfl))))))))))))))))
theorem xj54_0 (s : Sys) (k wl : Nat) (t0 t1 t2 t3 t4 t5 t6 t7 t8 t9 t10 t11 t12 t13 t14 t15 t16 t17 t18 t19 t20 t21 t22 t23 t24 t25 t26 t27 t28 t29 t30 t31 t32 t33 t34 t35 t36 t37 t38 t39 t40 t41 t42 t43 t44 t45 t46 t47 t48 t49 t50 t51 t52 t53 t54 t55 t56 t57 t58 t59 t60 t61 t62 t63 t64 t65 t66 t67 t68 : V) (h : Hp) : runK (xX s 54 wl k false) (bodyK s.P Try.f54) xk54_0 (.exit 0) ⟨(t0 :: t1 :: t2 :: t3 :: t4 :: t5 :: t6 :: t7 :: t8 :: t9 :: t10 :: t11 :: t12 :: t13 :: t14 :: t15 :: t16 :: t17 :: t18 :: t19 :: t20 :: t21 :: t22 :: t23 :: t24 :: t25 :: t26 :: t27 :: t28 :: t29 :: t30 :: t31 :: t32 :: t33 :: t34 :: t35 :: t36 :: t37 :: t38 :: t39 :: t40 :: t41 :: t42 :: t43 :: t44 :: t45 :: t46 :: t47 :: t48 :: t49 :: t50 :: t51 :: t52 :: t53 :: t54 :: t55 :: t56 :: t57 :: t58 :: t59 :: t60 :: t61 :: t62 :: t63 :: t64 :: t65 :: t66 :: t67 :: t68 :: []), h⟩ =
  some ((V.lit (Value.bool true)), h) :=
  (rt_block_eq (go_seq (go_reg0
  (go_op0 rfl rfl (st_id (v := (V.lit (Value.bool true))) (H := h) (by kernel_rfl)
  (go_end0 (by kernel_rfl)
  (go_ret (by kernel_rfl))))))))
theorem xm54_1 (s : Sys) (K : Out → St → Option (V × Hp)) (k wl : Nat) (rd : Bool) (n n0 : Nat) (m0 : Nat) (ac : List Nat × List Nat) (t0 t1 t2 t3 t4 t5 t6 t7 t8 t9 t10 t11 t12 t13 t14 t15 t16 t17 t18 t19 t20 t21 t22 t23 t24 t25 t26 t27 t28 t29 t30 t31 t32 t33 t34 t35 t36 t37 t38 t39 t40 t41 t42 t43 t44 t45 t46 t47 t48 t49 t50 t51 t52 t53 t54 t55 t56 t57 t58 t59 t60 t61 t62 t63 t64 t65 t66 t67 t68 : V) (h : Hp) : opsP (xX s 54 wl k rd) xg54_0 13 m0 ac (runK (xX s 54 wl k rd) (nextK (xX s 54 wl k rd) xl54_0 n0 K n) xk54_1) ⟨(t0 :: t1 :: t2 :: t3 :: t4 :: t5 :: t6 :: t7 :: t8 :: t9 :: t10 :: t11 :: t12 :: t13 :: t14 :: t15 :: t16 :: t17 :: t18 :: t19 :: t20 :: t21 :: t22 :: t23 :: t24 :: t25 :: t26 :: t27 :: t28 :: t29 :: t30 :: t31 :: t32 :: t33 :: t34 :: t35 :: t36 :: t37 :: t38 :: t39 :: t40 :: t41 :: t42 :: t43 :: t44 :: t45 :: t46 :: t47 :: t48 :: t49 :: t50 :: t51 :: t52 :: t53 :: t54 :: t55 :: t56 :: t57 :: t58 :: t59 :: t60 :: t61 :: t62 :: t63 :: t64 :: t65 :: t66 :: t67 :: t68 :: []), h⟩ =
  bm (vPick t25 (V.lit (Value.bool true)) t31) h fun v29 h30 =>
  cnd v29 (
  K .ret ⟨(t0 :: t1 :: (V.lit (Value.bool false)) :: t3 :: t4 :: t5 :: t6 :: t7 :: t8 :: t9 :: t10 :: t11 :: t12 :: t13 :: t14 :: t15 :: t16 :: t17 :: t18 :: t19 :: t20 :: t21 :: t22 :: t23 :: t24 :: t25 :: t26 :: t27 :: t28 :: t29 :: t30 :: t31 :: v29 :: t33 :: t34 :: t35 :: t36 :: t37 :: t38 :: t39 :: t40 :: t41 :: t42 :: t43 :: t44 :: t45 :: t46 :: t47 :: t48 :: t49 :: t50 :: t51 :: t52 :: t53 :: t54 :: t55 :: t56 :: t57 :: t58 :: t59 :: t60 :: t61 :: t62 :: t63 :: t64 :: t65 :: t66 :: t67 :: t68 :: []), h30⟩) (
  itX (xX s 54 wl k rd) xl54_1 h30.length (runK (xX s 54 wl k rd) (nextK (xX s 54 wl k rd) xl54_0 n0 K n) xk54_2) k ⟨((V.kill h30.length t0) :: (V.kill h30.length t1) :: (V.kill h30.length t2) :: (V.kill h30.length t3) :: (V.kill h30.length t4) :: (V.lit (Value.int .i64 0)) :: (V.kill h30.length t6) :: (V.kill h30.length t7) :: (V.kill h30.length t8) :: (V.kill h30.length t9) :: (V.kill h30.length t10) :: (V.kill h30.length t11) :: (V.kill h30.length t12) :: (V.kill h30.length t13) :: (V.kill h30.length t14) :: (V.kill h30.length t15) :: (V.kill h30.length t16) :: (V.kill h30.length t17) :: (V.kill h30.length t18) :: (V.kill h30.length t19) :: (V.kill h30.length t20) :: (V.kill h30.length t21) :: (V.kill h30.length t22) :: (V.kill h30.length t23) :: (V.kill h30.length t24) :: (V.kill h30.length t25) :: (V.kill h30.length t26) :: (V.kill h30.length t27) :: (V.kill h30.length t28) :: (V.kill h30.length t29) :: (V.kill h30.length t30) :: (V.kill h30.length t31) :: (V.kill h30.length v29) :: .junk :: .junk :: .junk :: .junk :: .junk :: .junk :: .junk :: .junk :: .junk :: .junk :: .junk :: .junk :: .junk :: .junk :: .junk :: .junk :: .junk :: .junk :: .junk :: .junk :: .junk :: .junk :: .junk :: .junk :: .junk :: .junk :: .junk :: .junk :: .junk :: .junk :: .junk :: .junk :: .junk :: .junk :: .junk :: .junk :: []), cutH h30.length h30⟩) :=
  (go_op0 rfl rfl (st_bm (by kernel_rfl) fun v29 h30 =>
  (go_end0 (by kernel_rfl)
  (go_cond (by kernel_rfl)
  (go_seq (go_reg0
  (go_op0 rfl rfl (st_id (v := (V.lit (Value.bool false))) (H := h30) (by kernel_rfl)
  (go_end0 (by kernel_rfl)
  (go_ret (rt_seq_ret (rt_block_ret (rt_seq_ret (by kernel_rfl))))))))))
  (go_skip (go_seq (go_reg0
  (go_op0 rfl rfl (st_id (v := (V.lit (Value.int .i64 0))) (H := h30) (by kernel_rfl)
  (go_end0 (by kernel_rfl)
  (go_block (by kernel_rfl))))))))))))
theorem xr54_1 (s : Sys) (K : Out → St → Option (V × Hp)) (k wl : Nat) (rd : Bool) (n n0 : Nat) (t0 t1 t2 t3 t4 t5 t6 t7 t8 t9 t10 t11 t12 t13 t14 t15 t16 t17 t18 t19 t20 t21 t22 t23 t24 t25 t26 t27 t28 t29 t30 t31 t32 t33 t34 t35 t36 t37 t38 t39 t40 t41 t42 t43 t44 t45 t46 t47 t48 t49 t50 t51 t52 t53 t54 t55 t56 t57 t58 t59 t60 t61 t62 t63 t64 t65 t66 t67 t68 : V) (h : Hp) : itX (xX s 54 wl k rd) xl54_1 n0 K (n + 1) ⟨(t0 :: t1 :: t2 :: t3 :: t4 :: t5 :: t6 :: t7 :: t8 :: t9 :: t10 :: t11 :: t12 :: t13 :: t14 :: t15 :: t16 :: t17 :: t18 :: t19 :: t20 :: t21 :: t22 :: t23 :: t24 :: t25 :: t26 :: t27 :: t28 :: t29 :: t30 :: t31 :: t32 :: t33 :: t34 :: t35 :: t36 :: t37 :: t38 :: t39 :: t40 :: t41 :: t42 :: t43 :: t44 :: t45 :: t46 :: t47 :: t48 :: t49 :: t50 :: t51 :: t52 :: t53 :: t54 :: t55 :: t56 :: t57 :: t58 :: t59 :: t60 :: t61 :: t62 :: t63 :: t64 :: t65 :: t66 :: t67 :: t68 :: []), h⟩ =
  bm (vIndexAddr s.P 22 t0 t4 h) h fun v31 h32 =>
  bm (vFieldAddr s.P 40 v31 1) h32 fun v33 h34 =>
  bm (vLoad s.P 23 v33 h34) h34 fun v35 h36 =>
  bp (opLen s.P 23 v35 h36) fun v37 h38 =>
  bm (vBin s.P .lss 3 t5 v37) h38 fun v39 h40 =>
  cnd v39 (
  bm (vIndexAddr s.P 22 t0 t4 h40) h40 fun v41 h42 =>
  bm (vFieldAddr s.P 40 v41 1) h42 fun v43 h44 =>
  bm (vLoad s.P 23 v43 h44) h44 fun v45 h46 =>
  bm (vIndexAddr s.P 23 v45 t5 h46) h46 fun v47 h48 =>
  bm (vLoad s.P 3 v47 h48) h48 fun v49 h50 =>
  bm (vBin s.P .leq 3 v49 t4) h50 fun v51 h52 =>
  gd v51 (
  opsP (xX s 54 wl k rd) xg54_1 8 h50.length ([], []) (runK (xX s 54 wl k rd) (nextK (xX s 54 wl k rd) xl54_1 n0 K n) xk54_3) ⟨(t0 :: t1 :: t2 :: t3 :: t4 :: t5 :: v49 :: t7 :: t8 :: t9 :: t10 :: t11 :: t12 :: t13 :: t14 :: t15 :: t16 :: t17 :: t18 :: t19 :: t20 :: t21 :: t22 :: t23 :: t24 :: t25 :: t26 :: t27 :: t28 :: t29 :: t30 :: t31 :: t32 :: t5 :: t0 :: t4 :: v31 :: v33 :: v35 :: v37 :: v39 :: t41 :: t42 :: t0 :: t4 :: v41 :: v43 :: v45 :: t5 :: v47 :: v49 :: v49 :: t4 :: v51 :: (V.lit (Value.bool true)) :: uu :: uu :: uu :: uu :: t59 :: t60 :: t61 :: t62 :: t63 :: t64 :: t65 :: t66 :: t67 :: t68 :: []), h52⟩) (
  bp (opLen s.P 22 t0 h52) fun v53 h54 =>
  bm (vBin s.P .geq 3 v49 v53) h54 fun v55 h56 =>
  opsP (xX s 54 wl k rd) xg54_1 8 h50.length ([], []) (runK (xX s 54 wl k rd) (nextK (xX s 54 wl k rd) xl54_1 n0 K n) xk54_3) ⟨(t0 :: t1 :: t2 :: t3 :: t4 :: t5 :: v49 :: t7 :: t8 :: t9 :: t10 :: t11 :: t12 :: t13 :: t14 :: t15 :: t16 :: t17 :: t18 :: t19 :: t20 :: t21 :: t22 :: t23 :: t24 :: t25 :: t26 :: t27 :: t28 :: t29 :: t30 :: t31 :: t32 :: t5 :: t0 :: t4 :: v31 :: v33 :: v35 :: v37 :: v39 :: t41 :: t42 :: t0 :: t4 :: v41 :: v43 :: v45 :: t5 :: v47 :: v49 :: v49 :: t4 :: v51 :: (V.lit (Value.bool false)) :: v49 :: t0 :: v53 :: v55 :: t59 :: t60 :: t61 :: t62 :: t63 :: t64 :: t65 :: t66 :: t67 :: t68 :: []), h56⟩) (
  opsP (xX s 54 wl k rd) xg54_1 5 h50.length ([], []) (runK (xX s 54 wl k rd) (nextK (xX s 54 wl k rd) xl54_1 n0 K n) xk54_3) ⟨(t0 :: t1 :: t2 :: t3 :: t4 :: t5 :: v49 :: t7 :: t8 :: t9 :: t10 :: t11 :: t12 :: t13 :: t14 :: t15 :: t16 :: t17 :: t18 :: t19 :: t20 :: t21 :: t22 :: t23 :: t24 :: t25 :: t26 :: t27 :: t28 :: t29 :: t30 :: t31 :: t32 :: t5 :: t0 :: t4 :: v31 :: v33 :: v35 :: v37 :: v39 :: t41 :: t42 :: t0 :: t4 :: v41 :: v43 :: v45 :: t5 :: v47 :: v49 :: v49 :: t4 :: v51 :: v51 :: uu :: t56 :: t57 :: t58 :: t59 :: t60 :: t61 :: t62 :: t63 :: t64 :: t65 :: t66 :: t67 :: t68 :: []), h52⟩)) (
  K (.exit 2) ⟨((V.kill n0 t0) :: (V.kill n0 t1) :: (V.kill n0 t2) :: (V.kill n0 t3) :: (V.kill n0 t4) :: (V.kill n0 t5) :: (V.kill n0 t6) :: (V.kill n0 t7) :: (V.kill n0 t8) :: (V.kill n0 t9) :: (V.kill n0 t10) :: (V.kill n0 t11) :: (V.kill n0 t12) :: (V.kill n0 t13) :: (V.kill n0 t14) :: (V.kill n0 t15) :: (V.kill n0 t16) :: (V.kill n0 t17) :: (V.kill n0 t18) :: (V.kill n0 t19) :: (V.kill n0 t20) :: (V.kill n0 t21) :: (V.kill n0 t22) :: (V.kill n0 t23) :: (V.kill n0 t24) :: (V.kill n0 t25) :: (V.kill n0 t26) :: (V.kill n0 t27) :: (V.kill n0 t28) :: (V.kill n0 t29) :: (V.kill n0 t30) :: (V.kill n0 t31) :: (V.kill n0 t32) :: .junk :: .junk :: .junk :: .junk :: .junk :: .junk :: .junk :: .junk :: .junk :: .junk :: .junk :: .junk :: .junk :: .junk :: .junk :: .junk :: .junk :: .junk :: .junk :: .junk :: .junk :: .junk :: .junk :: .junk :: .junk :: .junk :: .junk :: .junk :: .junk :: .junk :: .junk :: .junk :: .junk :: .junk :: .junk :: .junk :: []), cutH n0 h40⟩) :=
  itX_step (go_seq (go_seq (go_reg0
  (go_op0 rfl rfl (st_id (v := t5) (H := h) (by kernel_rfl)
  (go_op0 rfl rfl (st_id (v := t0) (H := h) (by kernel_rfl)
  (go_op0 rfl rfl (st_id (v := t4) (H := h) (by kernel_rfl)
  (go_op0 rfl rfl (st_bm (by kernel_rfl) fun v31 h32 =>
  (go_op0 rfl rfl (st_bm (by kernel_rfl) fun v33 h34 =>
  (go_op0 rfl rfl (st_bm (by kernel_rfl) fun v35 h36 =>
  (go_op0 rfl rfl (st_bp (by kernel_rfl) fun v37 h38 =>
  (go_op0 rfl rfl (st_bm (by kernel_rfl) fun v39 h40 =>
  (go_end0 (by kernel_rfl)
  (go_cond (by kernel_rfl)
  (go_skip (go_seq (go_block (go_seq (go_reg0
  (go_op0 rfl rfl (st_id (v := t0) (H := h40) (by kernel_rfl)
  (go_op0 rfl rfl (st_id (v := t4) (H := h40) (by kernel_rfl)
  (go_op0 rfl rfl (st_bm (by kernel_rfl) fun v41 h42 =>
  (go_op0 rfl rfl (st_bm (by kernel_rfl) fun v43 h44 =>
  (go_op0 rfl rfl (st_bm (by kernel_rfl) fun v45 h46 =>
  (go_op0 rfl rfl (st_id (v := t5) (H := h46) (by kernel_rfl)
  (go_op0 rfl rfl (st_bm (by kernel_rfl) fun v47 h48 =>
  (go_op0 rfl rfl (st_bm (by kernel_rfl) fun v49 h50 =>
  (go_op0 rfl rfl (st_id (v := v49) (H := h50) (by kernel_rfl)
  (go_end0 (by kernel_rfl)
  (go_seq (go_seq (go_reg0
  (go_op0 rfl rfl (st_id (v := v49) (H := h50) (by kernel_rfl)
  (go_op0 rfl rfl (st_id (v := t4) (H := h50) (by kernel_rfl)
  (go_op0 rfl rfl (st_bm (by kernel_rfl) fun v51 h52 =>
  (go_op0 rfl rfl (st_id (v := v51) (H := h52) (by kernel_rfl)
  (go_gdF0 rfl rfl rfl (by kernel_rfl)
  (go_skip0 rfl rfl rfl (by kernel_rfl)
  (go_skip0 rfl rfl rfl (by kernel_rfl)
  (go_skip0 rfl rfl rfl (by kernel_rfl)
  (by kernel_rfl))))
  (st_id (v := v49) (H := h52) (by kernel_rfl)
  (go_run0 rfl rfl rfl (by kernel_rfl) (st_id (v := t0) (H := h52) (by kernel_rfl)
  (go_run0 rfl rfl rfl (by kernel_rfl) (st_bp (by kernel_rfl) fun v53 h54 =>
  (go_run0 rfl rfl rfl (by kernel_rfl) (st_bm (by kernel_rfl) fun v55 h56 =>
  (by kernel_rfl))))))))
  (by kernel_rfl)))))))))))))))))))))))))))))))))))))
  (go_exit (rt_seq_exit (by kernel_rfl))))))))))))))))))))))))
theorem xj54_2 (s : Sys) (K : Out → St → Option (V × Hp)) (k wl : Nat) (rd : Bool) (n n0 : Nat) (t0 t1 t2 t3 t4 t5 t6 t7 t8 t9 t10 t11 t12 t13 t14 t15 t16 t17 t18 t19 t20 t21 t22 t23 t24 t25 t26 t27 t28 t29 t30 t31 t32 t33 t34 t35 t36 t37 t38 t39 t40 t41 t42 t43 t44 t45 t46 t47 t48 t49 t50 t51 t52 t53 t54 t55 t56 t57 t58 t59 t60 t61 t62 t63 t64 t65 t66 t67 t68 : V) (h : Hp) : runK (xX s 54 wl k rd) (nextK (xX s 54 wl k rd) xl54_0 n0 K n) xk54_2 (.exit 2) ⟨(t0 :: t1 :: t2 :: t3 :: t4 :: t5 :: t6 :: t7 :: t8 :: t9 :: t10 :: t11 :: t12 :: t13 :: t14 :: t15 :: t16 :: t17 :: t18 :: t19 :: t20 :: t21 :: t22 :: t23 :: t24 :: t25 :: t26 :: t27 :: t28 :: t29 :: t30 :: t31 :: t32 :: t33 :: t34 :: t35 :: t36 :: t37 :: t38 :: t39 :: t40 :: t41 :: t42 :: t43 :: t44 :: t45 :: t46 :: t47 :: t48 :: t49 :: t50 :: t51 :: t52 :: t53 :: t54 :: t55 :: t56 :: t57 :: t58 :: t59 :: t60 :: t61 :: t62 :: t63 :: t64 :: t65 :: t66 :: t67 :: t68 :: []), h⟩ =
  bm (vBin s.P .add 3 t4 (V.lit (Value.int .i64 1))) h fun v57 h58 =>
  itX (xX s 54 wl k rd) xl54_0 n0 K n ⟨((V.kill n0 t0) :: (V.kill n0 t1) :: (V.kill n0 t2) :: (V.kill n0 t3) :: (V.kill n0 v57) :: (V.kill n0 t5) :: (V.kill n0 t6) :: (V.kill n0 t7) :: (V.kill n0 t8) :: (V.kill n0 t9) :: (V.kill n0 t10) :: (V.kill n0 t11) :: (V.kill n0 t12) :: .junk :: .junk :: .junk :: .junk :: .junk :: .junk :: .junk :: .junk :: .junk :: .junk :: .junk :: .junk :: .junk :: .junk :: .junk :: .junk :: .junk :: .junk :: .junk :: .junk :: .junk :: .junk :: .junk :: .junk :: .junk :: .junk :: .junk :: .junk :: .junk :: .junk :: .junk :: .junk :: .junk :: .junk :: .junk :: .junk :: .junk :: .junk :: .junk :: .junk :: .junk :: .junk :: .junk :: .junk :: .junk :: .junk :: .junk :: .junk :: .junk :: .junk :: .junk :: .junk :: .junk :: .junk :: .junk :: .junk :: []), cutH n0 h58⟩ :=
  (rt_block_eq (rt_block_norm (go_reg0
  (go_op0 rfl rfl (st_id (v := t4) (H := h) (by kernel_rfl)
  (go_op0 rfl rfl (st_bm (by kernel_rfl) fun v57 h58 =>
  (go_op0 rfl rfl (st_id (v := v57) (H := h58) (by kernel_rfl)
  (go_end0 (by kernel_rfl)
  (by kernel_rfl)))))))))))
theorem xm54_3 (s : Sys) (K : Out → St → Option (V × Hp)) (k wl : Nat) (rd : Bool) (n n0 : Nat) (m0 : Nat) (ac : List Nat × List Nat) (t0 t1 t2 t3 t4 t5 t6 t7 t8 t9 t10 t11 t12 t13 t14 t15 t16 t17 t18 t19 t20 t21 t22 t23 t24 t25 t26 t27 t28 t29 t30 t31 t32 t33 t34 t35 t36 t37 t38 t39 t40 t41 t42 t43 t44 t45 t46 t47 t48 t49 t50 t51 t52 t53 t54 t55 t56 t57 t58 t59 t60 t61 t62 t63 t64 t65 t66 t67 t68 : V) (h : Hp) : opsP (xX s 54 wl k rd) xg54_1 8 m0 ac (runK (xX s 54 wl k rd) (nextK (xX s 54 wl k rd) xl54_1 n0 K n) xk54_3) ⟨(t0 :: t1 :: t2 :: t3 :: t4 :: t5 :: t6 :: t7 :: t8 :: t9 :: t10 :: t11 :: t12 :: t13 :: t14 :: t15 :: t16 :: t17 :: t18 :: t19 :: t20 :: t21 :: t22 :: t23 :: t24 :: t25 :: t26 :: t27 :: t28 :: t29 :: t30 :: t31 :: t32 :: t33 :: t34 :: t35 :: t36 :: t37 :: t38 :: t39 :: t40 :: t41 :: t42 :: t43 :: t44 :: t45 :: t46 :: t47 :: t48 :: t49 :: t50 :: t51 :: t52 :: t53 :: t54 :: t55 :: t56 :: t57 :: t58 :: t59 :: t60 :: t61 :: t62 :: t63 :: t64 :: t65 :: t66 :: t67 :: t68 :: []), h⟩ =
  bm (vPick t54 (V.lit (Value.bool true)) t58) h fun v59 h60 =>
  gd v59 (
  opsP (xX s 54 wl k rd) xg54_1 14 m0 ac (runK (xX s 54 wl k rd) (nextK (xX s 54 wl k rd) xl54_1 n0 K n) xk54_3) ⟨(t0 :: t1 :: t2 :: t3 :: t4 :: t5 :: t6 :: t7 :: t8 :: t9 :: t10 :: t11 :: t12 :: t13 :: t14 :: t15 :: t16 :: t17 :: t18 :: t19 :: t20 :: t21 :: t22 :: t23 :: t24 :: t25 :: t26 :: t27 :: t28 :: t29 :: t30 :: t31 :: t32 :: t33 :: t34 :: t35 :: t36 :: t37 :: t38 :: t39 :: t40 :: t41 :: t42 :: t43 :: t44 :: t45 :: t46 :: t47 :: t48 :: t49 :: t50 :: t51 :: t52 :: t53 :: t54 :: t55 :: t56 :: t57 :: t58 :: v59 :: (V.lit (Value.bool true)) :: uu :: uu :: uu :: uu :: t65 :: t66 :: t67 :: t68 :: []), h60⟩) (
  bm (vIndexAddr s.P 87 t3 t6 h60) h60 fun v61 h62 =>
  bm (vLoad s.P 4 v61 h62) h62 fun v63 h64 =>
  opsP (xX s 54 wl k rd) xg54_1 14 m0 ac (runK (xX s 54 wl k rd) (nextK (xX s 54 wl k rd) xl54_1 n0 K n) xk54_3) ⟨(t0 :: t1 :: t2 :: t3 :: t4 :: t5 :: t6 :: t7 :: t8 :: t9 :: t10 :: t11 :: t12 :: t13 :: t14 :: t15 :: t16 :: t17 :: t18 :: t19 :: t20 :: t21 :: t22 :: t23 :: t24 :: t25 :: t26 :: t27 :: t28 :: t29 :: t30 :: t31 :: t32 :: t33 :: t34 :: t35 :: t36 :: t37 :: t38 :: t39 :: t40 :: t41 :: t42 :: t43 :: t44 :: t45 :: t46 :: t47 :: t48 :: t49 :: t50 :: t51 :: t52 :: t53 :: t54 :: t55 :: t56 :: t57 :: t58 :: v59 :: (V.lit (Value.bool false)) :: t3 :: t6 :: v61 :: v63 :: t65 :: t66 :: t67 :: t68 :: []), h64⟩) (
  opsP (xX s 54 wl k rd) xg54_1 11 m0 ac (runK (xX s 54 wl k rd) (nextK (xX s 54 wl k rd) xl54_1 n0 K n) xk54_3) ⟨(t0 :: t1 :: t2 :: t3 :: t4 :: t5 :: t6 :: t7 :: t8 :: t9 :: t10 :: t11 :: t12 :: t13 :: t14 :: t15 :: t16 :: t17 :: t18 :: t19 :: t20 :: t21 :: t22 :: t23 :: t24 :: t25 :: t26 :: t27 :: t28 :: t29 :: t30 :: t31 :: t32 :: t33 :: t34 :: t35 :: t36 :: t37 :: t38 :: t39 :: t40 :: t41 :: t42 :: t43 :: t44 :: t45 :: t46 :: t47 :: t48 :: t49 :: t50 :: t51 :: t52 :: t53 :: t54 :: t55 :: t56 :: t57 :: t58 :: v59 :: v59 :: uu :: t62 :: t63 :: t64 :: t65 :: t66 :: t67 :: t68 :: []), h60⟩) :=
  (go_op0 rfl rfl (st_bm (by kernel_rfl) fun v59 h60 =>
  (go_op0 rfl rfl (st_id (v := v59) (H := h60) (by kernel_rfl)
  (go_gdF0 rfl rfl rfl (by kernel_rfl)
  (go_skip0 rfl rfl rfl (by kernel_rfl)
  (go_skip0 rfl rfl rfl (by kernel_rfl)
  (go_skip0 rfl rfl rfl (by kernel_rfl)
  (by kernel_rfl))))
  (st_id (v := t3) (H := h60) (by kernel_rfl)
  (go_run0 rfl rfl rfl (by kernel_rfl) (st_id (v := t6) (H := h60) (by kernel_rfl)
  (go_run0 rfl rfl rfl (by kernel_rfl) (st_bm (by kernel_rfl) fun v61 h62 =>
  (go_run0 rfl rfl rfl (by kernel_rfl) (st_bm (by kernel_rfl) fun v63 h64 =>
  (by kernel_rfl))))))))
  (by kernel_rfl))))))
theorem xm54_4 (s : Sys) (K : Out → St → Option (V × Hp)) (k wl : Nat) (rd : Bool) (n n0 : Nat) (m0 : Nat) (ac : List Nat × List Nat) (t0 t1 t2 t3 t4 t5 t6 t7 t8 t9 t10 t11 t12 t13 t14 t15 t16 t17 t18 t19 t20 t21 t22 t23 t24 t25 t26 t27 t28 t29 t30 t31 t32 t33 t34 t35 t36 t37 t38 t39 t40 t41 t42 t43 t44 t45 t46 t47 t48 t49 t50 t51 t52 t53 t54 t55 t56 t57 t58 t59 t60 t61 t62 t63 t64 t65 t66 t67 t68 : V) (h : Hp) : opsP (xX s 54 wl k rd) xg54_1 14 m0 ac (runK (xX s 54 wl k rd) (nextK (xX s 54 wl k rd) xl54_1 n0 K n) xk54_3) ⟨(t0 :: t1 :: t2 :: t3 :: t4 :: t5 :: t6 :: t7 :: t8 :: t9 :: t10 :: t11 :: t12 :: t13 :: t14 :: t15 :: t16 :: t17 :: t18 :: t19 :: t20 :: t21 :: t22 :: t23 :: t24 :: t25 :: t26 :: t27 :: t28 :: t29 :: t30 :: t31 :: t32 :: t33 :: t34 :: t35 :: t36 :: t37 :: t38 :: t39 :: t40 :: t41 :: t42 :: t43 :: t44 :: t45 :: t46 :: t47 :: t48 :: t49 :: t50 :: t51 :: t52 :: t53 :: t54 :: t55 :: t56 :: t57 :: t58 :: t59 :: t60 :: t61 :: t62 :: t63 :: t64 :: t65 :: t66 :: t67 :: t68 :: []), h⟩ =
  bm (vPick t60 (V.lit (Value.bool true)) t64) h fun v65 h66 =>
  cnd v65 (
  K .ret ⟨(t0 :: t1 :: (V.lit (Value.bool false)) :: t3 :: t4 :: t5 :: t6 :: t7 :: t8 :: t9 :: t10 :: t11 :: t12 :: t13 :: t14 :: t15 :: t16 :: t17 :: t18 :: t19 :: t20 :: t21 :: t22 :: t23 :: t24 :: t25 :: t26 :: t27 :: t28 :: t29 :: t30 :: t31 :: t32 :: t33 :: t34 :: t35 :: t36 :: t37 :: t38 :: t39 :: t40 :: t41 :: t42 :: t43 :: t44 :: t45 :: t46 :: t47 :: t48 :: t49 :: t50 :: t51 :: t52 :: t53 :: t54 :: t55 :: t56 :: t57 :: t58 :: t59 :: t60 :: t61 :: t62 :: t63 :: t64 :: v65 :: t66 :: t67 :: t68 :: []), h66⟩) (
  bm (vIndexAddr s.P 87 t3 t6 h66) h66 fun v67 h68 =>
  bs (vStore s.P wl 4 v67 (V.lit (Value.bool true)) h68) fun h69 =>
  bm (vBin s.P .add 3 t5 (V.lit (Value.int .i64 1))) h69 fun v70 h71 =>
  itX (xX s 54 wl k rd) xl54_1 n0 K n ⟨((V.kill n0 t0) :: (V.kill n0 t1) :: (V.kill n0 t2) :: (V.kill n0 t3) :: (V.kill n0 t4) :: (V.kill n0 v70) :: (V.kill n0 t6) :: (V.kill n0 t7) :: (V.kill n0 t8) :: (V.kill n0 t9) :: (V.kill n0 t10) :: (V.kill n0 t11) :: (V.kill n0 t12) :: (V.kill n0 t13) :: (V.kill n0 t14) :: (V.kill n0 t15) :: (V.kill n0 t16) :: (V.kill n0 t17) :: (V.kill n0 t18) :: (V.kill n0 t19) :: (V.kill n0 t20) :: (V.kill n0 t21) :: (V.kill n0 t22) :: (V.kill n0 t23) :: (V.kill n0 t24) :: (V.kill n0 t25) :: (V.kill n0 t26) :: (V.kill n0 t27) :: (V.kill n0 t28) :: (V.kill n0 t29) :: (V.kill n0 t30) :: (V.kill n0 t31) :: (V.kill n0 t32) :: .junk :: .junk :: .junk :: .junk :: .junk :: .junk :: .junk :: .junk :: .junk :: .junk :: .junk :: .junk :: .junk :: .junk :: .junk :: .junk :: .junk :: .junk :: .junk :: .junk :: .junk :: .junk :: .junk :: .junk :: .junk :: .junk :: .junk :: .junk :: .junk :: .junk :: .junk :: .junk :: .junk :: .junk :: .junk :: .junk :: []), cutH n0 h71⟩) :=
  (go_op0 rfl rfl (st_bm (by kernel_rfl) fun v65 h66 =>
  (go_end0 (by kernel_rfl)
  (go_cond (by kernel_rfl)
  (go_seq (go_reg0
  (go_op0 rfl rfl (st_id (v := (V.lit (Value.bool false))) (H := h66) (by kernel_rfl)
  (go_end0 (by kernel_rfl)
  (go_ret (rt_seq_ret (rt_block_ret (rt_seq_ret (by kernel_rfl))))))))))
  (go_skip (go_reg0
  (go_op0 rfl rfl (st_id (v := t3) (H := h66) (by kernel_rfl)
  (go_op0 rfl rfl (st_id (v := t6) (H := h66) (by kernel_rfl)
  (go_op0 rfl rfl (st_bm (by kernel_rfl) fun v67 h68 =>
  (go_op0 rfl rfl (st_bs (by kernel_rfl) fun h69 =>
  (go_end0 (by kernel_rfl)
  (rt_block_norm (go_reg0
  (go_op0 rfl rfl (st_id (v := t5) (H := h69) (by kernel_rfl)
  (go_op0 rfl rfl (st_bm (by kernel_rfl) fun v70 h71 =>
  (go_op0 rfl rfl (st_id (v := v70) (H := h71) (by kernel_rfl)
  (go_end0 (by kernel_rfl)
  (by kernel_rfl)))))))))))))))))))))))))
theorem xk54_0_ret (cx : Cx) (K : Out → St → Option (V × Hp)) (s : St) : runK cx K xk54_0 .ret s = K .ret s := by kernel_rfl
theorem xk54_1_ret (cx : Cx) (K : Out → St → Option (V × Hp)) (s : St) : runK cx K xk54_1 .ret s = K .ret s := by kernel_rfl
theorem xk54_2_ret (cx : Cx) (K : Out → St → Option (V × Hp)) (s : St) : runK cx K xk54_2 .ret s = K .ret s := by kernel_rfl
theorem xk54_3_ret (cx : Cx) (K : Out → St → Option (V × Hp)) (s : St) : runK cx K xk54_3 .ret s = K .ret s := by kernel_rfl
-- names: xb54, xz54, xr54_0, xj54_0, xm54_1, xr54_1, xj54_2, xm54_3, xm54_4, xk54_0_ret, xk54_1_ret, xk54_2_ret, xk54_3_ret
/-! 55 poacher/poacherref04.Same: 0 a, 1 b, 2 a, 3 b, 5 i, 6 kids -/
noncomputable def xl55_0 : Code := codeAt (bodyOf Try.f55) [1, 1, 0, 1, 0, 0]
noncomputable def xk55_0 : List Fr := [.block 0, .seq (codeAt (bodyOf Try.f55) [1, 1, 1])]
noncomputable def xg55_0 : Code := codeAt (bodyOf Try.f55) [1, 1, 0, 1, 0, 0, 1, 0, 0, 0]
noncomputable def xg55_1 : Code := codeAt (bodyOf Try.f55) [1, 1, 0, 1, 0, 0, 1, 0, 0, 1, 0]
noncomputable def xk55_1 : List Fr := [.seq (codeAt (bodyOf Try.f55) [1, 1, 0, 1, 0, 0, 1, 0, 0, 1, 1]), .block 1, .seq (codeAt (bodyOf Try.f55) [1, 1, 0, 1, 0, 0, 1, 1])]
theorem xo55_6 : orderIx (opsOf xg55_0) = [0, 1, 2, 3, 4, 5, 6, 7, 8, 9, 10, 11] := by kernel_rfl
theorem xo55_6a : (rgOf (opsOf xg55_0)).any = false := by kernel_rfl
theorem xo55_6r : regOk (opsOf xg55_0) = true := by kernel_rfl
theorem xo55_7 : orderIx (opsOf xg55_1) = [0, 1, 2, 3, 4, 5, 6, 7, 8, 9, 10, 11, 12, 13, 14] := by kernel_rfl
theorem xo55_7a : (rgOf (opsOf xg55_1)).any = false := by kernel_rfl
theorem xo55_7r : regOk (opsOf xg55_1) = true := by kernel_rfl
theorem xb55 (s : Sys) (k wl : Nat) (t0 t1 : V) (h : Hp) : bodyV (xX s 55 wl k false) Try.f55 [t0, t1] h =
  bp (opLen s.P 22 t0 h) fun v1 h2 =>
  bp (opLen s.P 22 t1 h2) fun v3 h4 =>
  bm (vBin s.P .neq 3 v1 v3) h4 fun v5 h6 =>
  cnd v5 (
  some ((V.lit (Value.bool false)), h6)) (
  itX (xX s 55 wl k false) xl55_0 h6.length (runK (xX s 55 wl k false) (bodyK s.P Try.f55) xk55_0) k ⟨[(V.kill h6.length t0), (V.kill h6.length t1), (V.kill h6.length uu), (V.kill h6.length uu), (V.lit (Value.bool false)), (V.lit (Value.int .i64 0)), (V.kill h6.length uu), (V.kill h6.length t0), (V.kill h6.length v1), (V.kill h6.length t1), (V.kill h6.length v3), (V.kill h6.length v5), .junk, .junk, .junk, .junk, .junk, .junk, .junk, .junk, .junk, .junk, .junk, .junk, .junk, .junk, .junk, .junk, .junk, .junk, .junk, .junk, .junk, .junk, .junk, .junk, .junk, .junk, .junk, .junk, .junk, .junk, .junk, .junk], cutH h6.length h6⟩) :=
  bodyV_run rfl (go_seq (go_reg0
  (go_op0 rfl rfl (st_id (v := (V.lit (Value.bool false))) (H := h) (by kernel_rfl)
  (go_end0 (by kernel_rfl)
  (go_seq (go_seq (go_reg0
  (go_op0 rfl rfl (st_id (v := t0) (H := h) (by kernel_rfl)
  (go_op0 rfl rfl (st_bp (by kernel_rfl) fun v1 h2 =>
  (go_op0 rfl rfl (st_id (v := t1) (H := h2) (by kernel_rfl)
  (go_op0 rfl rfl (st_bp (by kernel_rfl) fun v3 h4 =>
  (go_op0 rfl rfl (st_bm (by kernel_rfl) fun v5 h6 =>
  (go_end0 (by kernel_rfl)
  (go_cond (by kernel_rfl)
  (go_seq (go_reg0
  (go_op0 rfl rfl (st_id (v := (V.lit (Value.bool false))) (H := h6) (by kernel_rfl)
  (go_end0 (by kernel_rfl)
  (go_ret (rt_seq_ret (by kernel_rfl))))))))
  (go_skip (go_seq (go_seq (go_reg0
  (go_op0 rfl rfl (st_id (v := (V.lit (Value.int .i64 0))) (H := h6) (by kernel_rfl)
  (go_end0 (by kernel_rfl)
  (go_block (by kernel_rfl)))))))))))))))))))))))))))))
theorem xe55 (k wl : Nat) (t0 t1 : V) (h : Hp) : evF Try.prog xM (k + 1) wl 55 [t0, t1] h = bodyV (xX (xS k) 55 wl k false) Try.f55 [t0, t1] h := by kernel_rfl
theorem xz55 (P : Program) (t0 t1 t2 t3 t4 t5 t6 t7 t8 t9 t10 t11 t12 t13 t14 t15 t16 t17 t18 t19 t20 t21 t22 t23 t24 t25 t26 t27 t28 t29 t30 t31 t32 t33 t34 t35 t36 t37 t38 t39 t40 t41 t42 t43 : V) (h : Hp) : bodyK P Try.f55 .ret ⟨[t0, t1, t2, t3, t4, t5, t6, t7, t8, t9, t10, t11, t12, t13, t14, t15, t16, t17, t18, t19, t20, t21, t22, t23, t24, t25, t26, t27, t28, t29, t30, t31, t32, t33, t34, t35, t36, t37, t38, t39, t40, t41, t42, t43], h⟩ = some (t4, h) := by kernel_rfl
theorem xr55_0 (s : Sys) (K : Out → St → Option (V × Hp)) (k wl : Nat) (rd : Bool) (n n0 : Nat) (t0 t1 t2 t3 t4 t5 t6 t7 t8 t9 t10 t11 t12 t13 t14 t15 t16 t17 t18 t19 t20 t21 t22 t23 t24 t25 t26 t27 t28 t29 t30 t31 t32 t33 t34 t35 t36 t37 t38 t39 t40 t41 t42 t43 : V) (h : Hp) : itX (xX s 55 wl k rd) xl55_0 n0 K (n + 1) ⟨[t0, t1, t2, t3, t4, t5, t6, t7, t8, t9, t10, t11, t12, t13, t14, t15, t16, t17, t18, t19, t20, t21, t22, t23, t24, t25, t26, t27, t28, t29, t30, t31, t32, t33, t34, t35, t36, t37, t38, t39, t40, t41, t42, t43], h⟩ =
  bp (opLen s.P 22 t0 h) fun v7 h8 =>
  bm (vBin s.P .lss 3 t5 v7) h8 fun v9 h10 =>
  cnd v9 (
  bm (vIndexAddr s.P 22 t0 t5 h10) h10 fun v11 h12 =>
  bm (vFieldAddr s.P 40 v11 1) h12 fun v13 h14 =>
  bm (vLoad s.P 23 v13 h14) h14 fun v15 h16 =>
  bm (vIndexAddr s.P 22 t1 t5 h16) h16 fun v17 h18 =>
  bm (vFieldAddr s.P 40 v17 1) h18 fun v19 h20 =>
  bm (vLoad s.P 23 v19 h20) h20 fun v21 h22 =>
  bp (callV (xX s 55 wl k rd) false true (.fn (.func 27) [] []) [v15, v21] h22) fun v23 h24 =>
  bm (vUn .not v23) h24 fun v25 h26 =>
  gd v25 (
  opsP (xX s 55 wl k rd) xg55_1 14 h24.length ([], []) (runK (xX s 55 wl k rd) (nextK (xX s 55 wl k rd) xl55_0 n0 K n) xk55_1) ⟨[t0, t1, t2, t3, t4, t5, v23, t7, t8, t9, t10, t11, t5, t0, v7, v9, t16, t17, t0, t5, v11, v13, v15, t1, t5, v17, v19, v21, v23, v23, v25, (V.lit (Value.bool true)), uu, uu, uu, uu, uu, uu, uu, uu, uu, uu, uu, t43], h26⟩) (
  bm (vIndexAddr s.P 22 t0 t5 h26) h26 fun v27 h28 =>
  bm (vFieldAddr s.P 40 v27 0) h28 fun v29 h30 =>
  bm (vLoad s.P 3 v29 h30) h30 fun v31 h32 =>
  bm (vIndexAddr s.P 22 t1 t5 h32) h32 fun v33 h34 =>
  bm (vFieldAddr s.P 40 v33 0) h34 fun v35 h36 =>
  bm (vLoad s.P 3 v35 h36) h36 fun v37 h38 =>
  bm (vBin s.P .neq 3 v31 v37) h38 fun v39 h40 =>
  opsP (xX s 55 wl k rd) xg55_1 14 h24.length ([], []) (runK (xX s 55 wl k rd) (nextK (xX s 55 wl k rd) xl55_0 n0 K n) xk55_1) ⟨[t0, t1, t2, t3, t4, t5, v23, t7, t8, t9, t10, t11, t5, t0, v7, v9, t16, t17, t0, t5, v11, v13, v15, t1, t5, v17, v19, v21, v23, v23, v25, (V.lit (Value.bool false)), t0, t5, v27, v29, v31, t1, t5, v33, v35, v37, v39, t43], h40⟩) (
  opsP (xX s 55 wl k rd) xg55_1 4 h24.length ([], []) (runK (xX s 55 wl k rd) (nextK (xX s 55 wl k rd) xl55_0 n0 K n) xk55_1) ⟨[t0, t1, t2, t3, t4, t5, v23, t7, t8, t9, t10, t11, t5, t0, v7, v9, t16, t17, t0, t5, v11, v13, v15, t1, t5, v17, v19, v21, v23, v23, v25, v25, uu, t33, t34, t35, t36, t37, t38, t39, t40, t41, t42, t43], h26⟩)) (
  K (.exit 0) ⟨[(V.kill n0 t0), (V.kill n0 t1), (V.kill n0 t2), (V.kill n0 t3), (V.kill n0 t4), (V.kill n0 t5), (V.kill n0 t6), (V.kill n0 t7), (V.kill n0 t8), (V.kill n0 t9), (V.kill n0 t10), (V.kill n0 t11), .junk, .junk, .junk, .junk, .junk, .junk, .junk, .junk, .junk, .junk, .junk, .junk, .junk, .junk, .junk, .junk, .junk, .junk, .junk, .junk, .junk, .junk, .junk, .junk, .junk, .junk, .junk, .junk, .junk, .junk, .junk, .junk], cutH n0 h10⟩) :=
  itX_step (go_seq (go_seq (go_reg0
  (go_op0 rfl rfl (st_id (v := t5) (H := h) (by kernel_rfl)
  (go_op0 rfl rfl (st_id (v := t0) (H := h) (by kernel_rfl)
  (go_op0 rfl rfl (st_bp (by kernel_rfl) fun v7 h8 =>
  (go_op0 rfl rfl (st_bm (by kernel_rfl) fun v9 h10 =>
  (go_end0 (by kernel_rfl)
  (go_cond (by kernel_rfl)
  (go_skip (go_seq (go_block (go_seq (go_reg1 xo55_6r
  (go_op1 xo55_6 xo55_6a rfl rfl rfl (st_no (by kernel_rfl) (st_id (v := t0) (H := h10) (by kernel_rfl)
  (go_op1 xo55_6 xo55_6a rfl rfl rfl (st_no (by kernel_rfl) (st_id (v := t5) (H := h10) (by kernel_rfl)
  (go_op1 xo55_6 xo55_6a rfl rfl rfl (st_no (by kernel_rfl) (st_bm (by kernel_rfl) fun v11 h12 =>
  (go_op1 xo55_6 xo55_6a rfl rfl rfl (st_no (by kernel_rfl) (st_bm (by kernel_rfl) fun v13 h14 =>
  (go_op1 xo55_6 xo55_6a rfl rfl rfl (st_no (by kernel_rfl) (st_bm (by kernel_rfl) fun v15 h16 =>
  (go_op1 xo55_6 xo55_6a rfl rfl rfl (st_no (by kernel_rfl) (st_id (v := t1) (H := h16) (by kernel_rfl)
  (go_op1 xo55_6 xo55_6a rfl rfl rfl (st_no (by kernel_rfl) (st_id (v := t5) (H := h16) (by kernel_rfl)
  (go_op1 xo55_6 xo55_6a rfl rfl rfl (st_no (by kernel_rfl) (st_bm (by kernel_rfl) fun v17 h18 =>
  (go_op1 xo55_6 xo55_6a rfl rfl rfl (st_no (by kernel_rfl) (st_bm (by kernel_rfl) fun v19 h20 =>
  (go_op1 xo55_6 xo55_6a rfl rfl rfl (st_no (by kernel_rfl) (st_bm (by kernel_rfl) fun v21 h22 =>
  (go_op1 xo55_6 xo55_6a rfl rfl rfl (st_no (by kernel_rfl) (st_bp (by kernel_rfl) fun v23 h24 =>
  (go_op1 xo55_6 xo55_6a rfl rfl rfl (st_no (by kernel_rfl) (st_id (v := v23) (H := h24) (by kernel_rfl)
  (go_end1 xo55_6 (by kernel_rfl) xo55_6a
  (go_seq (go_reg1 xo55_7r
  (go_op1 xo55_7 xo55_7a rfl rfl rfl (st_no (by kernel_rfl) (st_id (v := v23) (H := h24) (by kernel_rfl)
  (go_op1 xo55_7 xo55_7a rfl rfl rfl (st_no (by kernel_rfl) (st_bm (by kernel_rfl) fun v25 h26 =>
  (go_op1 xo55_7 xo55_7a rfl rfl rfl (st_no (by kernel_rfl) (st_id (v := v25) (H := h26) (by kernel_rfl)
  (go_gdF1 xo55_7 xo55_7a rfl rfl rfl rfl (by kernel_rfl)
  (go_skip1 xo55_7 rfl rfl rfl rfl (by kernel_rfl)
  (go_skip1 xo55_7 rfl rfl rfl rfl (by kernel_rfl)
  (go_skip1 xo55_7 rfl rfl rfl rfl (by kernel_rfl)
  (go_skip1 xo55_7 rfl rfl rfl rfl (by kernel_rfl)
  (go_skip1 xo55_7 rfl rfl rfl rfl (by kernel_rfl)
  (go_skip1 xo55_7 rfl rfl rfl rfl (by kernel_rfl)
  (go_skip1 xo55_7 rfl rfl rfl rfl (by kernel_rfl)
  (go_skip1 xo55_7 rfl rfl rfl rfl (by kernel_rfl)
  (go_skip1 xo55_7 rfl rfl rfl rfl (by kernel_rfl)
  (go_skip1 xo55_7 rfl rfl rfl rfl (by kernel_rfl)
  (by kernel_rfl)))))))))))
  (st_no (by kernel_rfl) (st_id (v := t0) (H := h26) (by kernel_rfl)
  (go_run1 xo55_7 xo55_7a rfl rfl rfl rfl (by kernel_rfl) (st_no (by kernel_rfl) (st_id (v := t5) (H := h26) (by kernel_rfl)
  (go_run1 xo55_7 xo55_7a rfl rfl rfl rfl (by kernel_rfl) (st_no (by kernel_rfl) (st_bm (by kernel_rfl) fun v27 h28 =>
  (go_run1 xo55_7 xo55_7a rfl rfl rfl rfl (by kernel_rfl) (st_no (by kernel_rfl) (st_bm (by kernel_rfl) fun v29 h30 =>
  (go_run1 xo55_7 xo55_7a rfl rfl rfl rfl (by kernel_rfl) (st_no (by kernel_rfl) (st_bm (by kernel_rfl) fun v31 h32 =>
  (go_run1 xo55_7 xo55_7a rfl rfl rfl rfl (by kernel_rfl) (st_no (by kernel_rfl) (st_id (v := t1) (H := h32) (by kernel_rfl)
  (go_run1 xo55_7 xo55_7a rfl rfl rfl rfl (by kernel_rfl) (st_no (by kernel_rfl) (st_id (v := t5) (H := h32) (by kernel_rfl)
  (go_run1 xo55_7 xo55_7a rfl rfl rfl rfl (by kernel_rfl) (st_no (by kernel_rfl) (st_bm (by kernel_rfl) fun v33 h34 =>
  (go_run1 xo55_7 xo55_7a rfl rfl rfl rfl (by kernel_rfl) (st_no (by kernel_rfl) (st_bm (by kernel_rfl) fun v35 h36 =>
  (go_run1 xo55_7 xo55_7a rfl rfl rfl rfl (by kernel_rfl) (st_no (by kernel_rfl) (st_bm (by kernel_rfl) fun v37 h38 =>
  (go_run1 xo55_7 xo55_7a rfl rfl rfl rfl (by kernel_rfl) (st_no (by kernel_rfl) (st_bm (by kernel_rfl) fun v39 h40 =>
  (by kernel_rfl)))))))))))))))))))))))))))))))))
  (by kernel_rfl)))))))))))))))))))))))))))))))))))))))))))))))))))))))
  (go_exit (rt_seq_exit (by kernel_rfl))))))))))))))))
theorem xj55_0 (s : Sys) (k wl : Nat) (t0 t1 t2 t3 t4 t5 t6 t7 t8 t9 t10 t11 t12 t13 t14 t15 t16 t17 t18 t19 t20 t21 t22 t23 t24 t25 t26 t27 t28 t29 t30 t31 t32 t33 t34 t35 t36 t37 t38 t39 t40 t41 t42 t43 : V) (h : Hp) : runK (xX s 55 wl k false) (bodyK s.P Try.f55) xk55_0 (.exit 0) ⟨[t0, t1, t2, t3, t4, t5, t6, t7, t8, t9, t10, t11, t12, t13, t14, t15, t16, t17, t18, t19, t20, t21, t22, t23, t24, t25, t26, t27, t28, t29, t30, t31, t32, t33, t34, t35, t36, t37, t38, t39, t40, t41, t42, t43], h⟩ =
  some ((V.lit (Value.bool true)), h) :=
  (rt_block_eq (go_seq (go_reg0
  (go_op0 rfl rfl (st_id (v := (V.lit (Value.bool true))) (H := h) (by kernel_rfl)
  (go_end0 (by kernel_rfl)
  (go_ret (by kernel_rfl))))))))
theorem xm55_1 (s : Sys) (K : Out → St → Option (V × Hp)) (k wl : Nat) (rd : Bool) (n n0 : Nat) (m0 : Nat) (ac : List Nat × List Nat) (t0 t1 t2 t3 t4 t5 t6 t7 t8 t9 t10 t11 t12 t13 t14 t15 t16 t17 t18 t19 t20 t21 t22 t23 t24 t25 t26 t27 t28 t29 t30 t31 t32 t33 t34 t35 t36 t37 t38 t39 t40 t41 t42 t43 : V) (h : Hp) : opsP (xX s 55 wl k rd) xg55_1 14 m0 ac (runK (xX s 55 wl k rd) (nextK (xX s 55 wl k rd) xl55_0 n0 K n) xk55_1) ⟨[t0, t1, t2, t3, t4, t5, t6, t7, t8, t9, t10, t11, t12, t13, t14, t15, t16, t17, t18, t19, t20, t21, t22, t23, t24, t25, t26, t27, t28, t29, t30, t31, t32, t33, t34, t35, t36, t37, t38, t39, t40, t41, t42, t43], h⟩ =
  bm (vPick t31 (V.lit (Value.bool true)) t42) h fun v41 h42 =>
  cnd v41 (
  K .ret ⟨[t0, t1, t2, t3, (V.lit (Value.bool false)), t5, t6, t7, t8, t9, t10, t11, t12, t13, t14, t15, t16, t17, t18, t19, t20, t21, t22, t23, t24, t25, t26, t27, t28, t29, t30, t31, t32, t33, t34, t35, t36, t37, t38, t39, t40, t41, t42, v41], h42⟩) (
  bm (vBin s.P .add 3 t5 (V.lit (Value.int .i64 1))) h42 fun v43 h44 =>
  itX (xX s 55 wl k rd) xl55_0 n0 K n ⟨[(V.kill n0 t0), (V.kill n0 t1), (V.kill n0 t2), (V.kill n0 t3), (V.kill n0 t4), (V.kill n0 v43), (V.kill n0 t6), (V.kill n0 t7), (V.kill n0 t8), (V.kill n0 t9), (V.kill n0 t10), (V.kill n0 t11), .junk, .junk, .junk, .junk, .junk, .junk, .junk, .junk, .junk, .junk, .junk, .junk, .junk, .junk, .junk, .junk, .junk, .junk, .junk, .junk, .junk, .junk, .junk, .junk, .junk, .junk, .junk, .junk, .junk, .junk, .junk, .junk], cutH n0 h44⟩) :=
  (go_op1 xo55_7 xo55_7a rfl rfl rfl (st_no (by kernel_rfl) (st_bm (by kernel_rfl) fun v41 h42 =>
  (go_end1 xo55_7 (by kernel_rfl) xo55_7a
  (go_cond (by kernel_rfl)
  (go_seq (go_reg0
  (go_op0 rfl rfl (st_id (v := (V.lit (Value.bool false))) (H := h42) (by kernel_rfl)
  (go_end0 (by kernel_rfl)
  (go_ret (rt_block_ret (rt_seq_ret (by kernel_rfl)))))))))
  (go_skip (rt_block_norm (go_reg0
  (go_op0 rfl rfl (st_id (v := t5) (H := h42) (by kernel_rfl)
  (go_op0 rfl rfl (st_bm (by kernel_rfl) fun v43 h44 =>
  (go_op0 rfl rfl (st_id (v := v43) (H := h44) (by kernel_rfl)
  (go_end0 (by kernel_rfl)
  (by kernel_rfl))))))))))))))))
theorem xk55_0_ret (cx : Cx) (K : Out → St → Option (V × Hp)) (s : St) : runK cx K xk55_0 .ret s = K .ret s := by kernel_rfl
theorem xk55_1_ret (cx : Cx) (K : Out → St → Option (V × Hp)) (s : St) : runK cx K xk55_1 .ret s = K .ret s := by kernel_rfl
-- names: xb55, xz55, xr55_0, xj55_0, xm55_1, xk55_0_ret, xk55_1_ret
/-! 56 poacher/forest.Roots: 0 t, 1 t, 3 out, 4 k -/
noncomputable def xl56_0 : Code := codeAt (bodyOf Try.f56) [1, 1, 1, 0, 1, 0, 0]
noncomputable def xk56_0 : List Fr := [.block 0, .seq (codeAt (bodyOf Try.f56) [1, 1, 1, 1])]
theorem xb56 (s : Sys) (k wl : Nat) (t0 : V) (h : Hp) : bodyV (xX s 56 wl k false) Try.f56 [t0] h =
  bp (some (.own h.length 0 0, h ++ [.rows 0 [] 0 true])) fun v1 h2 =>
  bp (callV (xX s 56 wl k false) false true (.fn (.func 50) [] []) [t0] h2) fun v3 h4 =>
  bm (vUn .not v3) h4 fun v5 h6 =>
  cnd v5 (
  bp (some (.own h6.length 0 0, h6 ++ [.rows 0 [] 0 true])) fun v7 h8 =>
  some (v7, h8)) (
  bp (some (.own h6.length 0 0, h6 ++ [.rows 0 [] 0 true])) fun v9 h10 =>
  bp (opLen s.P 22 t0 h10) fun v11 h12 =>
  itX (xX s 56 wl k false) xl56_0 h12.length (runK (xX s 56 wl k false) (bodyK s.P Try.f56) xk56_0) k ⟨[(V.kill h12.length t0), (V.kill h12.length uu), (V.kill h12.length v1), (V.kill h12.length v9), (V.kill h12.length uu), (V.kill h12.length t0), (V.kill h12.length v3), (V.kill h12.length v5), (V.kill h12.length t0), (V.kill h12.length v11), (V.lit (Value.int .i64 0)), .junk, .junk, .junk, .junk, .junk, .junk, .junk, .junk, .junk, .junk, .junk, (V.kill h12.length uu)], cutH h12.length h12⟩) :=
  bodyV_run rfl (go_seq (go_reg0
  (go_op0 rfl rfl (st_bp (by kernel_rfl) fun v1 h2 =>
  (go_end0 (by kernel_rfl)
  (go_seq (go_seq (go_reg0
  (go_op0 rfl rfl (st_id (v := t0) (H := h2) (by kernel_rfl)
  (go_op0 rfl rfl (st_bp (by kernel_rfl) fun v3 h4 =>
  (go_op0 rfl rfl (st_bm (by kernel_rfl) fun v5 h6 =>
  (go_end0 (by kernel_rfl)
  (go_cond (by kernel_rfl)
  (go_seq (go_reg0
  (go_op0 rfl rfl (st_bp (by kernel_rfl) fun v7 h8 =>
  (go_end0 (by kernel_rfl)
  (go_ret (rt_seq_ret (by kernel_rfl))))))))
  (go_skip (go_seq (go_reg0
  (go_op0 rfl rfl (st_bp (by kernel_rfl) fun v9 h10 =>
  (go_end0 (by kernel_rfl)
  (go_seq (go_seq (go_reg0
  (go_op0 rfl rfl (st_id (v := t0) (H := h10) (by kernel_rfl)
  (go_op0 rfl rfl (st_bp (by kernel_rfl) fun v11 h12 =>
  (go_op0 rfl rfl (st_id (v := (V.lit (Value.int .i64 0))) (H := h12) (by kernel_rfl)
  (go_end0 (by kernel_rfl)
  (go_block (by kernel_rfl))))))))))))))))))))))))))))))))))
theorem xe56 (k wl : Nat) (t0 : V) (h : Hp) : evF Try.prog xM (k + 1) wl 56 [t0] h = bodyV (xX (xS k) 56 wl k false) Try.f56 [t0] h := by kernel_rfl
theorem xz56 (P : Program) (t0 t1 t2 t3 t4 t5 t6 t7 t8 t9 t10 t11 t12 t13 t14 t15 t16 t17 t18 t19 t20 t21 t22 : V) (h : Hp) : bodyK P Try.f56 .ret ⟨[t0, t1, t2, t3, t4, t5, t6, t7, t8, t9, t10, t11, t12, t13, t14, t15, t16, t17, t18, t19, t20, t21, t22], h⟩ = some (t2, h) := by kernel_rfl
theorem xr56_0 (s : Sys) (K : Out → St → Option (V × Hp)) (k wl : Nat) (rd : Bool) (n n0 : Nat) (t0 t1 t2 t3 t4 t5 t6 t7 t8 t9 t10 t11 t12 t13 t14 t15 t16 t17 t18 t19 t20 t21 t22 : V) (h : Hp) : itX (xX s 56 wl k rd) xl56_0 n0 K (n + 1) ⟨[t0, t1, t2, t3, t4, t5, t6, t7, t8, t9, t10, t11, t12, t13, t14, t15, t16, t17, t18, t19, t20, t21, t22], h⟩ =
  bm (vBin s.P .lss 3 t10 t9) h fun v13 h14 =>
  cnd v13 (
  bp (callV (xX s 56 wl k rd) false true (.fn (.func 36) [] []) [t0, t10] h14) fun v15 h16 =>
  bm (vBin s.P .eql 3 v15 (V.lit (Value.int .i64 (-1)))) h16 fun v17 h18 =>
  cnd v17 (
  bp (vBuildSlice s.P wl 23 1 [(0, t10)] h18) fun v19 h20 =>
  bp (opApp s.P wl 23 23 t3 v19 h20) fun v21 h22 =>
  bm (vBin s.P .add 3 t10 (V.lit (Value.int .i64 1))) h22 fun v23 h24 =>
  itX (xX s 56 wl k rd) xl56_0 n0 K n ⟨[(V.kill n0 t0), (V.kill n0 t1), (V.kill n0 t2), (V.kill n0 v21), (V.kill n0 t10), (V.kill n0 t5), (V.kill n0 t6), (V.kill n0 t7), (V.kill n0 t8), (V.kill n0 t9), (V.kill n0 v23), .junk, .junk, .junk, .junk, .junk, .junk, .junk, .junk, .junk, .junk, .junk, (V.kill n0 t22)], cutH n0 h24⟩) (
  bm (vBin s.P .add 3 t10 (V.lit (Value.int .i64 1))) h18 fun v25 h26 =>
  itX (xX s 56 wl k rd) xl56_0 n0 K n ⟨[(V.kill n0 t0), (V.kill n0 t1), (V.kill n0 t2), (V.kill n0 t3), (V.kill n0 t10), (V.kill n0 t5), (V.kill n0 t6), (V.kill n0 t7), (V.kill n0 t8), (V.kill n0 t9), (V.kill n0 v25), .junk, .junk, .junk, .junk, .junk, .junk, .junk, .junk, .junk, .junk, .junk, (V.kill n0 t22)], cutH n0 h26⟩)) (
  K (.exit 0) ⟨[(V.kill n0 t0), (V.kill n0 t1), (V.kill n0 t2), (V.kill n0 t3), (V.kill n0 t4), (V.kill n0 t5), (V.kill n0 t6), (V.kill n0 t7), (V.kill n0 t8), (V.kill n0 t9), .junk, .junk, .junk, .junk, .junk, .junk, .junk, .junk, .junk, .junk, .junk, .junk, (V.kill n0 t22)], cutH n0 h14⟩) :=
  itX_step (go_seq (go_reg0
  (go_op0 rfl rfl (st_bm (by kernel_rfl) fun v13 h14 =>
  (go_end0 (by kernel_rfl)
  (go_seq (go_cond (by kernel_rfl)
  (go_skip (go_seq (go_block (go_seq (go_reg0
  (go_op0 rfl rfl (st_id (v := t10) (H := h14) (by kernel_rfl)
  (go_op0 rfl rfl (st_id (v := t10) (H := h14) (by kernel_rfl)
  (go_end0 (by kernel_rfl)
  (go_seq (go_reg0
  (go_op0 rfl rfl (st_id (v := t0) (H := h14) (by kernel_rfl)
  (go_op0 rfl rfl (st_id (v := t10) (H := h14) (by kernel_rfl)
  (go_op0 rfl rfl (st_bp (by kernel_rfl) fun v15 h16 =>
  (go_op0 rfl rfl (st_bm (by kernel_rfl) fun v17 h18 =>
  (go_end0 (by kernel_rfl)
  (go_cond (by kernel_rfl)
  (go_reg0
  (go_op0 rfl rfl (st_id (v := t3) (H := h18) (by kernel_rfl)
  (go_op0 rfl rfl (st_id (v := t10) (H := h18) (by kernel_rfl)
  (go_op0 rfl rfl (st_bp (by kernel_rfl) fun v19 h20 =>
  (go_op0 rfl rfl (st_bp (by kernel_rfl) fun v21 h22 =>
  (go_op0 rfl rfl (st_id (v := v21) (H := h22) (by kernel_rfl)
  (go_end0 (by kernel_rfl)
  (rt_block_norm (go_reg0
  (go_op0 rfl rfl (st_bm (by kernel_rfl) fun v23 h24 =>
  (go_op0 rfl rfl (st_id (v := v23) (H := h24) (by kernel_rfl)
  (go_end0 (by kernel_rfl)
  (by kernel_rfl))))))))))))))))))))
  (go_skip (rt_block_norm (go_reg0
  (go_op0 rfl rfl (st_bm (by kernel_rfl) fun v25 h26 =>
  (go_op0 rfl rfl (st_id (v := v25) (H := h26) (by kernel_rfl)
  (go_end0 (by kernel_rfl)
  (by kernel_rfl)))))))))))))))))))))))))))))))
  (go_exit (rt_seq_exit (by kernel_rfl))))))))))
theorem xj56_0 (s : Sys) (k wl : Nat) (t0 t1 t2 t3 t4 t5 t6 t7 t8 t9 t10 t11 t12 t13 t14 t15 t16 t17 t18 t19 t20 t21 t22 : V) (h : Hp) : runK (xX s 56 wl k false) (bodyK s.P Try.f56) xk56_0 (.exit 0) ⟨[t0, t1, t2, t3, t4, t5, t6, t7, t8, t9, t10, t11, t12, t13, t14, t15, t16, t17, t18, t19, t20, t21, t22], h⟩ =
  some (t3, h) :=
  (rt_block_eq (go_seq (go_reg0
  (go_op0 rfl rfl (st_id (v := t3) (H := h) (by kernel_rfl)
  (go_op0 rfl rfl (st_id (v := t3) (H := h) (by kernel_rfl)
  (go_end0 (by kernel_rfl)
  (go_ret (by kernel_rfl))))))))))
theorem xk56_0_ret (cx : Cx) (K : Out → St → Option (V × Hp)) (s : St) : runK cx K xk56_0 .ret s = K .ret s := by kernel_rfl
-- names: xb56, xz56, xr56_0, xj56_0, xk56_0_ret
/-! 57 poacher/poacherref04.Roots: 0 t, 1 t, 3 may, 4 out, 5 k -/
noncomputable def xl57_0 : Code := codeAt (bodyOf Try.f57) [1, 1, 1, 0, 1, 0, 0]
noncomputable def xk57_0 : List Fr := [.block 0, .seq (codeAt (bodyOf Try.f57) [1, 1, 1, 1])]
noncomputable def xg57_0 : Code := codeAt (bodyOf Try.f57) [1, 1, 1, 0, 1, 0, 0, 0, 0]
noncomputable def xk57_1 : List Fr := [.seq (codeAt (bodyOf Try.f57) [1, 1, 1, 0, 1, 0, 0, 0, 1]), .seq (codeAt (bodyOf Try.f57) [1, 1, 1, 0, 1, 0, 0, 1])]
noncomputable def xk57_2 : List Fr := [.block 1, .seq (codeAt (bodyOf Try.f57) [1, 1, 1, 0, 1, 0, 0, 1, 1])]
theorem xb57 (s : Sys) (k wl : Nat) (t0 : V) (h : Hp) : bodyV (xX s 57 wl k false) Try.f57 [t0] h =
  bp (some (.own h.length 0 0, h ++ [.rows 0 [] 0 true])) fun v1 h2 =>
  bp (callV (xX s 57 wl k false) false true (.fn (.func 54) [] []) [t0] h2) fun v3 h4 =>
  bp (some (.own h4.length 0 0, h4 ++ [.rows 0 [] 0 true])) fun v5 h6 =>
  itX (xX s 57 wl k false) xl57_0 h6.length (runK (xX s 57 wl k false) (bodyK s.P Try.f57) xk57_0) k ⟨[(V.kill h6.length t0), (V.kill h6.length uu), (V.kill h6.length v1), (V.kill h6.length v3), (V.kill h6.length v5), (V.lit (Value.int .i64 0)), (V.kill h6.length t0), (V.kill h6.length v3), .junk, .junk, .junk, .junk, .junk, .junk, .junk, .junk, .junk, .junk, .junk, .junk, .junk, .junk, .junk, .junk, .junk, (V.kill h6.length uu)], cutH h6.length h6⟩ :=
  bodyV_run rfl (go_seq (go_reg0
  (go_op0 rfl rfl (st_bp (by kernel_rfl) fun v1 h2 =>
  (go_end0 (by kernel_rfl)
  (go_seq (go_reg0
  (go_op0 rfl rfl (st_id (v := t0) (H := h2) (by kernel_rfl)
  (go_op0 rfl rfl (st_bp (by kernel_rfl) fun v3 h4 =>
  (go_op0 rfl rfl (st_id (v := v3) (H := h4) (by kernel_rfl)
  (go_end0 (by kernel_rfl)
  (go_seq (go_reg0
  (go_op0 rfl rfl (st_bp (by kernel_rfl) fun v5 h6 =>
  (go_end0 (by kernel_rfl)
  (go_seq (go_seq (go_reg0
  (go_op0 rfl rfl (st_id (v := (V.lit (Value.int .i64 0))) (H := h6) (by kernel_rfl)
  (go_end0 (by kernel_rfl)
  (go_block (by kernel_rfl)))))))))))))))))))))))))))
theorem xe57 (k wl : Nat) (t0 : V) (h : Hp) : evF Try.prog xM (k + 1) wl 57 [t0] h = bodyV (xX (xS k) 57 wl k false) Try.f57 [t0] h := by kernel_rfl
theorem xz57 (P : Program) (t0 t1 t2 t3 t4 t5 t6 t7 t8 t9 t10 t11 t12 t13 t14 t15 t16 t17 t18 t19 t20 t21 t22 t23 t24 t25 : V) (h : Hp) : bodyK P Try.f57 .ret ⟨[t0, t1, t2, t3, t4, t5, t6, t7, t8, t9, t10, t11, t12, t13, t14, t15, t16, t17, t18, t19, t20, t21, t22, t23, t24, t25], h⟩ = some (t2, h) := by kernel_rfl
theorem xr57_0 (s : Sys) (K : Out → St → Option (V × Hp)) (k wl : Nat) (rd : Bool) (n n0 : Nat) (t0 t1 t2 t3 t4 t5 t6 t7 t8 t9 t10 t11 t12 t13 t14 t15 t16 t17 t18 t19 t20 t21 t22 t23 t24 t25 : V) (h : Hp) : itX (xX s 57 wl k rd) xl57_0 n0 K (n + 1) ⟨[t0, t1, t2, t3, t4, t5, t6, t7, t8, t9, t10, t11, t12, t13, t14, t15, t16, t17, t18, t19, t20, t21, t22, t23, t24, t25], h⟩ =
  bp (opLen s.P 22 t0 h) fun v7 h8 =>
  bm (vBin s.P .lss 3 t5 v7) h8 fun v9 h10 =>
  gd v9 (
  opsP (xX s 57 wl k rd) xg57_0 6 h.length ([], []) (runK (xX s 57 wl k rd) (nextK (xX s 57 wl k rd) xl57_0 n0 K n) xk57_1) ⟨[t0, t1, t2, t3, t4, t5, t6, t7, t5, t0, v7, v9, (V.lit (Value.bool true)), t3, t14, t15, t16, t17, t18, t19, t20, t21, t22, t23, t24, t25], h10⟩) (
  opsP (xX s 57 wl k rd) xg57_0 6 h.length ([], []) (runK (xX s 57 wl k rd) (nextK (xX s 57 wl k rd) xl57_0 n0 K n) xk57_1) ⟨[t0, t1, t2, t3, t4, t5, t6, t7, t5, t0, v7, v9, (V.lit (Value.bool false)), uu, t14, t15, t16, t17, t18, t19, t20, t21, t22, t23, t24, t25], h10⟩) (
  opsP (xX s 57 wl k rd) xg57_0 6 h.length ([], []) (runK (xX s 57 wl k rd) (nextK (xX s 57 wl k rd) xl57_0 n0 K n) xk57_1) ⟨[t0, t1, t2, t3, t4, t5, t6, t7, t5, t0, v7, v9, v9, uu, t14, t15, t16, t17, t18, t19, t20, t21, t22, t23, t24, t25], h10⟩) :=
  itX_step (go_seq (go_seq (go_reg0
  (go_op0 rfl rfl (st_id (v := t5) (H := h) (by kernel_rfl)
  (go_op0 rfl rfl (st_id (v := t0) (H := h) (by kernel_rfl)
  (go_op0 rfl rfl (st_bp (by kernel_rfl) fun v7 h8 =>
  (go_op0 rfl rfl (st_bm (by kernel_rfl) fun v9 h10 =>
  (go_op0 rfl rfl (st_id (v := v9) (H := h10) (by kernel_rfl)
  (go_gdT0 rfl rfl rfl (by kernel_rfl)
  (st_id (v := t3) (H := h10) (by kernel_rfl)
  (by kernel_rfl))
  (by kernel_rfl)
  (by kernel_rfl)))))))))))))))
theorem xj57_0 (s : Sys) (k wl : Nat) (t0 t1 t2 t3 t4 t5 t6 t7 t8 t9 t10 t11 t12 t13 t14 t15 t16 t17 t18 t19 t20 t21 t22 t23 t24 t25 : V) (h : Hp) : runK (xX s 57 wl k false) (bodyK s.P Try.f57) xk57_0 (.exit 0) ⟨[t0, t1, t2, t3, t4, t5, t6, t7, t8, t9, t10, t11, t12, t13, t14, t15, t16, t17, t18, t19, t20, t21, t22, t23, t24, t25], h⟩ =
  some (t4, h) :=
  (rt_block_eq (go_seq (go_reg0
  (go_op0 rfl rfl (st_id (v := t4) (H := h) (by kernel_rfl)
  (go_op0 rfl rfl (st_id (v := t4) (H := h) (by kernel_rfl)
  (go_end0 (by kernel_rfl)
  (go_ret (by kernel_rfl))))))))))
theorem xm57_1 (s : Sys) (K : Out → St → Option (V × Hp)) (k wl : Nat) (rd : Bool) (n n0 : Nat) (m0 : Nat) (ac : List Nat × List Nat) (t0 t1 t2 t3 t4 t5 t6 t7 t8 t9 t10 t11 t12 t13 t14 t15 t16 t17 t18 t19 t20 t21 t22 t23 t24 t25 : V) (h : Hp) : opsP (xX s 57 wl k rd) xg57_0 6 m0 ac (runK (xX s 57 wl k rd) (nextK (xX s 57 wl k rd) xl57_0 n0 K n) xk57_1) ⟨[t0, t1, t2, t3, t4, t5, t6, t7, t8, t9, t10, t11, t12, t13, t14, t15, t16, t17, t18, t19, t20, t21, t22, t23, t24, t25], h⟩ =
  bm (vPick t12 t13 (V.lit (Value.bool false))) h fun v11 h12 =>
  cnd v11 (
  bp (callV (xX s 57 wl k rd) false true (.fn (.func 61) [] []) [t0, t5] h12) fun v13 h14 =>
  bm (vBin s.P .lss 3 v13 (V.lit (Value.int .i64 0))) h14 fun v15 h16 =>
  cnd v15 (
  bp (vBuildSlice s.P wl 23 1 [(0, t5)] h16) fun v17 h18 =>
  bp (opApp s.P wl 23 23 t4 v17 h18) fun v19 h20 =>
  runK (xX s 57 wl k rd) (nextK (xX s 57 wl k rd) xl57_0 n0 K n) xk57_2 .norm ⟨[t0, t1, t2, t3, v19, t5, t6, t7, t8, t9, t10, t11, t12, t13, v11, t15, t16, t0, t5, v13, v15, t4, t5, v17, v19, t25], h20⟩) (
  runK (xX s 57 wl k rd) (nextK (xX s 57 wl k rd) xl57_0 n0 K n) xk57_2 .norm ⟨[t0, t1, t2, t3, t4, t5, t6, t7, t8, t9, t10, t11, t12, t13, v11, t15, t16, t0, t5, v13, v15, t21, t22, t23, t24, t25], h16⟩)) (
  K (.exit 0) ⟨[(V.kill n0 t0), (V.kill n0 t1), (V.kill n0 t2), (V.kill n0 t3), (V.kill n0 t4), (V.kill n0 t5), (V.kill n0 t6), (V.kill n0 t7), .junk, .junk, .junk, .junk, .junk, .junk, .junk, .junk, .junk, .junk, .junk, .junk, .junk, .junk, .junk, .junk, .junk, (V.kill n0 t25)], cutH n0 h12⟩) :=
  (go_op0 rfl rfl (st_bm (by kernel_rfl) fun v11 h12 =>
  (go_end0 (by kernel_rfl)
  (go_cond (by kernel_rfl)
  (go_skip (go_seq (go_block (go_seq (go_reg0
  (go_op0 rfl rfl (st_id (v := t0) (H := h12) (by kernel_rfl)
  (go_op0 rfl rfl (st_id (v := t5) (H := h12) (by kernel_rfl)
  (go_op0 rfl rfl (st_bp (by kernel_rfl) fun v13 h14 =>
  (go_op0 rfl rfl (st_bm (by kernel_rfl) fun v15 h16 =>
  (go_end0 (by kernel_rfl)
  (go_cond (by kernel_rfl)
  (go_reg0
  (go_op0 rfl rfl (st_id (v := t4) (H := h16) (by kernel_rfl)
  (go_op0 rfl rfl (st_id (v := t5) (H := h16) (by kernel_rfl)
  (go_op0 rfl rfl (st_bp (by kernel_rfl) fun v17 h18 =>
  (go_op0 rfl rfl (st_bp (by kernel_rfl) fun v19 h20 =>
  (go_op0 rfl rfl (st_id (v := v19) (H := h20) (by kernel_rfl)
  (go_end0 (by kernel_rfl)
  (by kernel_rfl)))))))))))))
  (go_skip (by kernel_rfl)))))))))))))))))
  (go_exit (rt_seq_exit (by kernel_rfl)))))))
theorem xj57_2 (s : Sys) (K : Out → St → Option (V × Hp)) (k wl : Nat) (rd : Bool) (n n0 : Nat) (t0 t1 t2 t3 t4 t5 t6 t7 t8 t9 t10 t11 t12 t13 t14 t15 t16 t17 t18 t19 t20 t21 t22 t23 t24 t25 : V) (h : Hp) : runK (xX s 57 wl k rd) (nextK (xX s 57 wl k rd) xl57_0 n0 K n) xk57_2 .norm ⟨[t0, t1, t2, t3, t4, t5, t6, t7, t8, t9, t10, t11, t12, t13, t14, t15, t16, t17, t18, t19, t20, t21, t22, t23, t24, t25], h⟩ =
  bm (vBin s.P .add 3 t5 (V.lit (Value.int .i64 1))) h fun v21 h22 =>
  itX (xX s 57 wl k rd) xl57_0 n0 K n ⟨[(V.kill n0 t0), (V.kill n0 t1), (V.kill n0 t2), (V.kill n0 t3), (V.kill n0 t4), (V.kill n0 v21), (V.kill n0 t6), (V.kill n0 t7), .junk, .junk, .junk, .junk, .junk, .junk, .junk, .junk, .junk, .junk, .junk, .junk, .junk, .junk, .junk, .junk, .junk, (V.kill n0 t25)], cutH n0 h22⟩ :=
  (rt_block_norm (go_reg0
  (go_op0 rfl rfl (st_id (v := t5) (H := h) (by kernel_rfl)
  (go_op0 rfl rfl (st_bm (by kernel_rfl) fun v21 h22 =>
  (go_op0 rfl rfl (st_id (v := v21) (H := h22) (by kernel_rfl)
  (go_end0 (by kernel_rfl)
  (by kernel_rfl))))))))))
theorem xk57_0_ret (cx : Cx) (K : Out → St → Option (V × Hp)) (s : St) : runK cx K xk57_0 .ret s = K .ret s := by kernel_rfl
theorem xk57_1_ret (cx : Cx) (K : Out → St → Option (V × Hp)) (s : St) : runK cx K xk57_1 .ret s = K .ret s := by kernel_rfl
theorem xk57_2_ret (cx : Cx) (K : Out → St → Option (V × Hp)) (s : St) : runK cx K xk57_2 .ret s = K .ret s := by kernel_rfl
-- names: xb57, xz57, xr57_0, xj57_0, xm57_1, xj57_2, xk57_0_ret, xk57_1_ret, xk57_2_ret
/-! 58 poacher/forest.Under: 0 t, 1 r, 2 t, 3 r -/
noncomputable def xg58_0 : Code := codeAt (bodyOf Try.f58) [1, 0, 0]
noncomputable def xk58_0 : List Fr := [.seq (codeAt (bodyOf Try.f58) [1, 0, 1]), .seq (codeAt (bodyOf Try.f58) [1, 1])]
theorem xb58 (s : Sys) (k wl : Nat) (t0 t1 : V) (h : Hp) : bodyV (xX s 58 wl k false) Try.f58 [t0, t1] h =
  bp (some (.own h.length 0 0, h ++ [.rows 0 [] 0 true])) fun v1 h2 =>
  bp (callV (xX s 58 wl k false) false true (.fn (.func 50) [] []) [t0] h2) fun v3 h4 =>
  bm (vUn .not v3) h4 fun v5 h6 =>
  gd v5 (
  opsP (xX s 58 wl k false) xg58_0 6 h2.length ([], []) (runK (xX s 58 wl k false) (bodyK s.P Try.f58) xk58_0) ⟨[t0, t1, uu, uu, v1, t0, v3, v5, (V.lit (Value.bool true)), uu, uu, uu, uu, uu, uu, uu, uu, uu, uu, uu, uu, uu], h6⟩) (
  bm (vBin s.P .lss 3 t1 (V.lit (Value.int .i64 0))) h6 fun v7 h8 =>
  opsP (xX s 58 wl k false) xg58_0 6 h2.length ([], []) (runK (xX s 58 wl k false) (bodyK s.P Try.f58) xk58_0) ⟨[t0, t1, uu, uu, v1, t0, v3, v5, (V.lit (Value.bool false)), t1, v7, uu, uu, uu, uu, uu, uu, uu, uu, uu, uu, uu], h8⟩) (
  opsP (xX s 58 wl k false) xg58_0 5 h2.length ([], []) (runK (xX s 58 wl k false) (bodyK s.P Try.f58) xk58_0) ⟨[t0, t1, uu, uu, v1, t0, v3, v5, v5, uu, uu, uu, uu, uu, uu, uu, uu, uu, uu, uu, uu, uu], h6⟩) :=
  bodyV_run rfl (go_seq (go_reg0
  (go_op0 rfl rfl (st_bp (by kernel_rfl) fun v1 h2 =>
  (go_end0 (by kernel_rfl)
  (go_seq (go_seq (go_reg0
  (go_op0 rfl rfl (st_id (v := t0) (H := h2) (by kernel_rfl)
  (go_op0 rfl rfl (st_bp (by kernel_rfl) fun v3 h4 =>
  (go_op0 rfl rfl (st_bm (by kernel_rfl) fun v5 h6 =>
  (go_op0 rfl rfl (st_id (v := v5) (H := h6) (by kernel_rfl)
  (go_gdF0 rfl rfl rfl (by kernel_rfl)
  (go_skip0 rfl rfl rfl (by kernel_rfl)
  (by kernel_rfl))
  (st_id (v := t1) (H := h6) (by kernel_rfl)
  (go_run0 rfl rfl rfl (by kernel_rfl) (st_bm (by kernel_rfl) fun v7 h8 =>
  (by kernel_rfl))))
  (by kernel_rfl))))))))))))))))))
theorem xe58 (k wl : Nat) (t0 t1 : V) (h : Hp) : evF Try.prog xM (k + 1) wl 58 [t0, t1] h = bodyV (xX (xS k) 58 wl k false) Try.f58 [t0, t1] h := by kernel_rfl
theorem xm58_0 (s : Sys) (k wl : Nat) (m0 : Nat) (ac : List Nat × List Nat) (t0 t1 t2 t3 t4 t5 t6 t7 t8 t9 t10 t11 t12 t13 t14 t15 t16 t17 t18 t19 t20 t21 : V) (h : Hp) : opsP (xX s 58 wl k false) xg58_0 6 m0 ac (runK (xX s 58 wl k false) (bodyK s.P Try.f58) xk58_0) ⟨[t0, t1, t2, t3, t4, t5, t6, t7, t8, t9, t10, t11, t12, t13, t14, t15, t16, t17, t18, t19, t20, t21], h⟩ =
  bm (vPick t8 (V.lit (Value.bool true)) t10) h fun v9 h10 =>
  gd v9 (
  opsP (xX s 58 wl k false) xg58_0 12 m0 ac (runK (xX s 58 wl k false) (bodyK s.P Try.f58) xk58_0) ⟨[t0, t1, t2, t3, t4, t5, t6, t7, t8, t9, t10, v9, (V.lit (Value.bool true)), uu, uu, uu, uu, t17, t18, t19, t20, t21], h10⟩) (
  bp (opLen s.P 22 t0 h10) fun v11 h12 =>
  bm (vBin s.P .geq 3 t1 v11) h12 fun v13 h14 =>
  opsP (xX s 58 wl k false) xg58_0 12 m0 ac (runK (xX s 58 wl k false) (bodyK s.P Try.f58) xk58_0) ⟨[t0, t1, t2, t3, t4, t5, t6, t7, t8, t9, t10, v9, (V.lit (Value.bool false)), t1, t0, v11, v13, t17, t18, t19, t20, t21], h14⟩) (
  opsP (xX s 58 wl k false) xg58_0 9 m0 ac (runK (xX s 58 wl k false) (bodyK s.P Try.f58) xk58_0) ⟨[t0, t1, t2, t3, t4, t5, t6, t7, t8, t9, t10, v9, v9, uu, t14, t15, t16, t17, t18, t19, t20, t21], h10⟩) :=
  (go_op0 rfl rfl (st_bm (by kernel_rfl) fun v9 h10 =>
  (go_op0 rfl rfl (st_id (v := v9) (H := h10) (by kernel_rfl)
  (go_gdF0 rfl rfl rfl (by kernel_rfl)
  (go_skip0 rfl rfl rfl (by kernel_rfl)
  (go_skip0 rfl rfl rfl (by kernel_rfl)
  (go_skip0 rfl rfl rfl (by kernel_rfl)
  (by kernel_rfl))))
  (st_id (v := t1) (H := h10) (by kernel_rfl)
  (go_run0 rfl rfl rfl (by kernel_rfl) (st_id (v := t0) (H := h10) (by kernel_rfl)
  (go_run0 rfl rfl rfl (by kernel_rfl) (st_bp (by kernel_rfl) fun v11 h12 =>
  (go_run0 rfl rfl rfl (by kernel_rfl) (st_bm (by kernel_rfl) fun v13 h14 =>
  (by kernel_rfl))))))))
  (by kernel_rfl))))))
theorem xm58_1 (s : Sys) (k wl : Nat) (m0 : Nat) (ac : List Nat × List Nat) (t0 t1 t2 t3 t4 t5 t6 t7 t8 t9 t10 t11 t12 t13 t14 t15 t16 t17 t18 t19 t20 t21 : V) (h : Hp) : opsP (xX s 58 wl k false) xg58_0 12 m0 ac (runK (xX s 58 wl k false) (bodyK s.P Try.f58) xk58_0) ⟨[t0, t1, t2, t3, t4, t5, t6, t7, t8, t9, t10, t11, t12, t13, t14, t15, t16, t17, t18, t19, t20, t21], h⟩ =
  bm (vPick t12 (V.lit (Value.bool true)) t16) h fun v15 h16 =>
  cnd v15 (
  bp (some (.own h16.length 0 0, h16 ++ [.rows 0 [] 0 true])) fun v17 h18 =>
  some (v17, h18)) (
  bp (callV (xX s 58 wl k false) false true (.fn (.func 81) [] []) [t0, t1] h16) fun v19 h20 =>
  bp (callV (xX s 58 wl k false) false true (.fn (.func 80) [] []) [v19] h20) fun v21 h22 =>
  some (v21, h22)) :=
  (go_op0 rfl rfl (st_bm (by kernel_rfl) fun v15 h16 =>
  (go_end0 (by kernel_rfl)
  (go_cond (by kernel_rfl)
  (go_seq (go_reg0
  (go_op0 rfl rfl (st_bp (by kernel_rfl) fun v17 h18 =>
  (go_end0 (by kernel_rfl)
  (go_ret (rt_seq_ret (by kernel_rfl))))))))
  (go_skip (go_seq (go_reg0
  (go_op0 rfl rfl (st_id (v := t0) (H := h16) (by kernel_rfl)
  (go_op0 rfl rfl (st_id (v := t1) (H := h16) (by kernel_rfl)
  (go_op0 rfl rfl (st_bp (by kernel_rfl) fun v19 h20 =>
  (go_op0 rfl rfl (st_bp (by kernel_rfl) fun v21 h22 =>
  (go_op0 rfl rfl (st_id (v := v21) (H := h22) (by kernel_rfl)
  (go_end0 (by kernel_rfl)
  (go_ret (by kernel_rfl))))))))))))))))))))
theorem xk58_0_ret (cx : Cx) (K : Out → St → Option (V × Hp)) (s : St) : runK cx K xk58_0 .ret s = K .ret s := by kernel_rfl
-- names: xb58, xm58_0, xm58_1, xk58_0_ret
/-! 59 poacher/poacherref04.Under: 0 t, 1 r, 2 t, 3 r, 5 may -/
noncomputable def xg59_0 : Code := codeAt (bodyOf Try.f59) [1, 1, 0, 0]
noncomputable def xk59_0 : List Fr := [.seq (codeAt (bodyOf Try.f59) [1, 1, 0, 1]), .seq (codeAt (bodyOf Try.f59) [1, 1, 1])]
theorem xb59 (s : Sys) (k wl : Nat) (t0 t1 : V) (h : Hp) : bodyV (xX s 59 wl k false) Try.f59 [t0, t1] h =
  bp (some (.own h.length 0 0, h ++ [.rows 0 [] 0 true])) fun v1 h2 =>
  bp (callV (xX s 59 wl k false) false true (.fn (.func 54) [] []) [t0] h2) fun v3 h4 =>
  bm (vUn .not v3) h4 fun v5 h6 =>
  gd v5 (
  opsP (xX s 59 wl k false) xg59_0 5 h4.length ([], []) (runK (xX s 59 wl k false) (bodyK s.P Try.f59) xk59_0) ⟨[t0, t1, uu, uu, v1, v3, t0, v3, v3, v5, (V.lit (Value.bool true)), uu, uu, uu, uu, uu, uu, uu, uu, uu, uu, uu, uu], h6⟩) (
  bm (vBin s.P .lss 3 t1 (V.lit (Value.int .i64 0))) h6 fun v7 h8 =>
  opsP (xX s 59 wl k false) xg59_0 5 h4.length ([], []) (runK (xX s 59 wl k false) (bodyK s.P Try.f59) xk59_0) ⟨[t0, t1, uu, uu, v1, v3, t0, v3, v3, v5, (V.lit (Value.bool false)), t1, v7, uu, uu, uu, uu, uu, uu, uu, uu, uu, uu], h8⟩) (
  opsP (xX s 59 wl k false) xg59_0 4 h4.length ([], []) (runK (xX s 59 wl k false) (bodyK s.P Try.f59) xk59_0) ⟨[t0, t1, uu, uu, v1, v3, t0, v3, v3, v5, v5, uu, uu, uu, uu, uu, uu, uu, uu, uu, uu, uu, uu], h6⟩) :=
  bodyV_run rfl (go_seq (go_reg0
  (go_op0 rfl rfl (st_bp (by kernel_rfl) fun v1 h2 =>
  (go_end0 (by kernel_rfl)
  (go_seq (go_reg0
  (go_op0 rfl rfl (st_id (v := t0) (H := h2) (by kernel_rfl)
  (go_op0 rfl rfl (st_bp (by kernel_rfl) fun v3 h4 =>
  (go_op0 rfl rfl (st_id (v := v3) (H := h4) (by kernel_rfl)
  (go_end0 (by kernel_rfl)
  (go_seq (go_seq (go_reg0
  (go_op0 rfl rfl (st_id (v := v3) (H := h4) (by kernel_rfl)
  (go_op0 rfl rfl (st_bm (by kernel_rfl) fun v5 h6 =>
  (go_op0 rfl rfl (st_id (v := v5) (H := h6) (by kernel_rfl)
  (go_gdF0 rfl rfl rfl (by kernel_rfl)
  (go_skip0 rfl rfl rfl (by kernel_rfl)
  (by kernel_rfl))
  (st_id (v := t1) (H := h6) (by kernel_rfl)
  (go_run0 rfl rfl rfl (by kernel_rfl) (st_bm (by kernel_rfl) fun v7 h8 =>
  (by kernel_rfl))))
  (by kernel_rfl)))))))))))))))))))))))))
theorem xe59 (k wl : Nat) (t0 t1 : V) (h : Hp) : evF Try.prog xM (k + 1) wl 59 [t0, t1] h = bodyV (xX (xS k) 59 wl k false) Try.f59 [t0, t1] h := by kernel_rfl
theorem xm59_0 (s : Sys) (k wl : Nat) (m0 : Nat) (ac : List Nat × List Nat) (t0 t1 t2 t3 t4 t5 t6 t7 t8 t9 t10 t11 t12 t13 t14 t15 t16 t17 t18 t19 t20 t21 t22 : V) (h : Hp) : opsP (xX s 59 wl k false) xg59_0 5 m0 ac (runK (xX s 59 wl k false) (bodyK s.P Try.f59) xk59_0) ⟨[t0, t1, t2, t3, t4, t5, t6, t7, t8, t9, t10, t11, t12, t13, t14, t15, t16, t17, t18, t19, t20, t21, t22], h⟩ =
  bm (vPick t10 (V.lit (Value.bool true)) t12) h fun v9 h10 =>
  gd v9 (
  opsP (xX s 59 wl k false) xg59_0 11 m0 ac (runK (xX s 59 wl k false) (bodyK s.P Try.f59) xk59_0) ⟨[t0, t1, t2, t3, t4, t5, t6, t7, t8, t9, t10, t11, t12, v9, (V.lit (Value.bool true)), uu, uu, uu, uu, t19, t20, t21, t22], h10⟩) (
  bp (opLen s.P 22 t0 h10) fun v11 h12 =>
  bm (vBin s.P .geq 3 t1 v11) h12 fun v13 h14 =>
  opsP (xX s 59 wl k false) xg59_0 11 m0 ac (runK (xX s 59 wl k false) (bodyK s.P Try.f59) xk59_0) ⟨[t0, t1, t2, t3, t4, t5, t6, t7, t8, t9, t10, t11, t12, v9, (V.lit (Value.bool false)), t1, t0, v11, v13, t19, t20, t21, t22], h14⟩) (
  opsP (xX s 59 wl k false) xg59_0 8 m0 ac (runK (xX s 59 wl k false) (bodyK s.P Try.f59) xk59_0) ⟨[t0, t1, t2, t3, t4, t5, t6, t7, t8, t9, t10, t11, t12, v9, v9, uu, t16, t17, t18, t19, t20, t21, t22], h10⟩) :=
  (go_op0 rfl rfl (st_bm (by kernel_rfl) fun v9 h10 =>
  (go_op0 rfl rfl (st_id (v := v9) (H := h10) (by kernel_rfl)
  (go_gdF0 rfl rfl rfl (by kernel_rfl)
  (go_skip0 rfl rfl rfl (by kernel_rfl)
  (go_skip0 rfl rfl rfl (by kernel_rfl)
  (go_skip0 rfl rfl rfl (by kernel_rfl)
  (by kernel_rfl))))
  (st_id (v := t1) (H := h10) (by kernel_rfl)
  (go_run0 rfl rfl rfl (by kernel_rfl) (st_id (v := t0) (H := h10) (by kernel_rfl)
  (go_run0 rfl rfl rfl (by kernel_rfl) (st_bp (by kernel_rfl) fun v11 h12 =>
  (go_run0 rfl rfl rfl (by kernel_rfl) (st_bm (by kernel_rfl) fun v13 h14 =>
  (by kernel_rfl))))))))
  (by kernel_rfl))))))
theorem xm59_1 (s : Sys) (k wl : Nat) (m0 : Nat) (ac : List Nat × List Nat) (t0 t1 t2 t3 t4 t5 t6 t7 t8 t9 t10 t11 t12 t13 t14 t15 t16 t17 t18 t19 t20 t21 t22 : V) (h : Hp) : opsP (xX s 59 wl k false) xg59_0 11 m0 ac (runK (xX s 59 wl k false) (bodyK s.P Try.f59) xk59_0) ⟨[t0, t1, t2, t3, t4, t5, t6, t7, t8, t9, t10, t11, t12, t13, t14, t15, t16, t17, t18, t19, t20, t21, t22], h⟩ =
  bm (vPick t14 (V.lit (Value.bool true)) t18) h fun v15 h16 =>
  cnd v15 (
  bp (some (.own h16.length 0 0, h16 ++ [.rows 0 [] 0 true])) fun v17 h18 =>
  some (v17, h18)) (
  bp (callV (xX s 59 wl k false) false true (.fn (.func 82) [] []) [t0, t1] h16) fun v19 h20 =>
  some (v19, h20)) :=
  (go_op0 rfl rfl (st_bm (by kernel_rfl) fun v15 h16 =>
  (go_end0 (by kernel_rfl)
  (go_cond (by kernel_rfl)
  (go_seq (go_reg0
  (go_op0 rfl rfl (st_bp (by kernel_rfl) fun v17 h18 =>
  (go_end0 (by kernel_rfl)
  (go_ret (rt_seq_ret (by kernel_rfl))))))))
  (go_skip (go_seq (go_reg0
  (go_op0 rfl rfl (st_id (v := t0) (H := h16) (by kernel_rfl)
  (go_op0 rfl rfl (st_id (v := t1) (H := h16) (by kernel_rfl)
  (go_op0 rfl rfl (st_bp (by kernel_rfl) fun v19 h20 =>
  (go_op0 rfl rfl (st_id (v := v19) (H := h20) (by kernel_rfl)
  (go_end0 (by kernel_rfl)
  (go_ret (by kernel_rfl))))))))))))))))))
theorem xk59_0_ret (cx : Cx) (K : Out → St → Option (V × Hp)) (s : St) : runK cx K xk59_0 .ret s = K .ret s := by kernel_rfl
-- names: xb59, xm59_0, xm59_1, xk59_0_ret
/-! 60 poacher/forest.Same: 0 a, 1 b, 2 a, 3 b -/

theorem xb60 (s : Sys) (k wl : Nat) (t0 t1 : V) (h : Hp) : bodyV (xX s 60 wl k false) Try.f60 [t0, t1] h =
  bp (callV (xX s 60 wl k false) false true (.fn (.func 83) [] []) [t0, t1, (.fn (.func 84) [] [])] h) fun v1 h2 =>
  some (v1, h2) :=
  bodyV_run rfl (go_seq (go_reg0
  (go_op0 rfl rfl (st_id (v := (V.lit (Value.bool false))) (H := h) (by kernel_rfl)
  (go_end0 (by kernel_rfl)
  (go_seq (go_reg0
  (go_op0 rfl rfl (st_id (v := t0) (H := h) (by kernel_rfl)
  (go_op0 rfl rfl (st_id (v := t1) (H := h) (by kernel_rfl)
  (go_op0 rfl rfl (st_bp (by kernel_rfl) fun v1 h2 =>
  (go_op0 rfl rfl (st_id (v := v1) (H := h2) (by kernel_rfl)
  (go_end0 (by kernel_rfl)
  (go_ret (by kernel_rfl))))))))))))))))))
theorem xe60 (k wl : Nat) (t0 t1 : V) (h : Hp) : evF Try.prog xM (k + 1) wl 60 [t0, t1] h = bodyV (xX (xS k) 60 wl k false) Try.f60 [t0, t1] h := by kernel_rfl
-- names: xb60, 
/-! 61 poacher/poacherref04.Parent: 0 t, 1 k, 2 t, 3 k, 5 may, 6 i, 7 j -/
noncomputable def xl61_0 : Code := codeAt (bodyOf Try.f61) [1, 1, 0, 1, 0, 0]
noncomputable def xk61_0 : List Fr := [.block 0, .seq (codeAt (bodyOf Try.f61) [1, 1, 1])]
noncomputable def xg61_0 : Code := codeAt (bodyOf Try.f61) [1, 1, 0, 1, 0, 0, 0, 0]
noncomputable def xk61_1 : List Fr := [.seq (codeAt (bodyOf Try.f61) [1, 1, 0, 1, 0, 0, 0, 1]), .seq (codeAt (bodyOf Try.f61) [1, 1, 0, 1, 0, 0, 1])]
noncomputable def xl61_1 : Code := codeAt (bodyOf Try.f61) [1, 1, 0, 1, 0, 0, 1, 0, 0, 1, 0, 0]
noncomputable def xk61_2 : List Fr := [.block 2, .block 1, .seq (codeAt (bodyOf Try.f61) [1, 1, 0, 1, 0, 0, 1, 1])]
theorem xb61 (s : Sys) (k wl : Nat) (t0 t1 : V) (h : Hp) : bodyV (xX s 61 wl k false) Try.f61 [t0, t1] h =
  bp (callV (xX s 61 wl k false) false true (.fn (.func 54) [] []) [t0] h) fun v1 h2 =>
  itX (xX s 61 wl k false) xl61_0 h2.length (runK (xX s 61 wl k false) (bodyK s.P Try.f61) xk61_0) k ⟨[(V.kill h2.length t0), (V.kill h2.length t1), (V.kill h2.length uu), (V.kill h2.length uu), (V.lit (Value.int .i64 0)), (V.kill h2.length v1), (V.lit (Value.int .i64 0)), (V.kill h2.length uu), (V.kill h2.length t0), (V.kill h2.length v1), .junk, .junk, .junk, .junk, .junk, .junk, .junk, .junk, .junk, .junk, .junk, .junk, .junk, .junk, .junk, .junk, .junk, .junk, .junk, .junk, .junk, .junk, .junk, .junk, .junk, .junk, .junk, .junk, .junk, .junk], cutH h2.length h2⟩ :=
  bodyV_run rfl (go_seq (go_reg0
  (go_op0 rfl rfl (st_id (v := (V.lit (Value.int .i64 0))) (H := h) (by kernel_rfl)
  (go_end0 (by kernel_rfl)
  (go_seq (go_reg0
  (go_op0 rfl rfl (st_id (v := t0) (H := h) (by kernel_rfl)
  (go_op0 rfl rfl (st_bp (by kernel_rfl) fun v1 h2 =>
  (go_op0 rfl rfl (st_id (v := v1) (H := h2) (by kernel_rfl)
  (go_end0 (by kernel_rfl)
  (go_seq (go_seq (go_reg0
  (go_op0 rfl rfl (st_id (v := (V.lit (Value.int .i64 0))) (H := h2) (by kernel_rfl)
  (go_end0 (by kernel_rfl)
  (go_block (by kernel_rfl))))))))))))))))))))))
theorem xe61 (k wl : Nat) (t0 t1 : V) (h : Hp) : evF Try.prog xM (k + 1) wl 61 [t0, t1] h = bodyV (xX (xS k) 61 wl k false) Try.f61 [t0, t1] h := by kernel_rfl
theorem xz61 (P : Program) (t0 t1 t2 t3 t4 t5 t6 t7 t8 t9 t10 t11 t12 t13 t14 t15 t16 t17 t18 t19 t20 t21 t22 t23 t24 t25 t26 t27 t28 t29 t30 t31 t32 t33 t34 t35 t36 t37 t38 t39 : V) (h : Hp) : bodyK P Try.f61 .ret ⟨[t0, t1, t2, t3, t4, t5, t6, t7, t8, t9, t10, t11, t12, t13, t14, t15, t16, t17, t18, t19, t20, t21, t22, t23, t24, t25, t26, t27, t28, t29, t30, t31, t32, t33, t34, t35, t36, t37, t38, t39], h⟩ = some (t4, h) := by kernel_rfl
theorem xr61_0 (s : Sys) (K : Out → St → Option (V × Hp)) (k wl : Nat) (rd : Bool) (n n0 : Nat) (t0 t1 t2 t3 t4 t5 t6 t7 t8 t9 t10 t11 t12 t13 t14 t15 t16 t17 t18 t19 t20 t21 t22 t23 t24 t25 t26 t27 t28 t29 t30 t31 t32 t33 t34 t35 t36 t37 t38 t39 : V) (h : Hp) : itX (xX s 61 wl k rd) xl61_0 n0 K (n + 1) ⟨[t0, t1, t2, t3, t4, t5, t6, t7, t8, t9, t10, t11, t12, t13, t14, t15, t16, t17, t18, t19, t20, t21, t22, t23, t24, t25, t26, t27, t28, t29, t30, t31, t32, t33, t34, t35, t36, t37, t38, t39], h⟩ =
  bp (opLen s.P 22 t0 h) fun v3 h4 =>
  bm (vBin s.P .lss 3 t6 v3) h4 fun v5 h6 =>
  gd v5 (
  opsP (xX s 61 wl k rd) xg61_0 6 h.length ([], []) (runK (xX s 61 wl k rd) (nextK (xX s 61 wl k rd) xl61_0 n0 K n) xk61_1) ⟨[t0, t1, t2, t3, t4, t5, t6, t7, t8, t9, t6, t0, v3, v5, (V.lit (Value.bool true)), t5, t16, t17, t18, t19, t20, t21, t22, t23, t24, t25, t26, t27, t28, t29, t30, t31, t32, t33, t34, t35, t36, t37, t38, t39], h6⟩) (
  opsP (xX s 61 wl k rd) xg61_0 6 h.length ([], []) (runK (xX s 61 wl k rd) (nextK (xX s 61 wl k rd) xl61_0 n0 K n) xk61_1) ⟨[t0, t1, t2, t3, t4, t5, t6, t7, t8, t9, t6, t0, v3, v5, (V.lit (Value.bool false)), uu, t16, t17, t18, t19, t20, t21, t22, t23, t24, t25, t26, t27, t28, t29, t30, t31, t32, t33, t34, t35, t36, t37, t38, t39], h6⟩) (
  opsP (xX s 61 wl k rd) xg61_0 6 h.length ([], []) (runK (xX s 61 wl k rd) (nextK (xX s 61 wl k rd) xl61_0 n0 K n) xk61_1) ⟨[t0, t1, t2, t3, t4, t5, t6, t7, t8, t9, t6, t0, v3, v5, v5, uu, t16, t17, t18, t19, t20, t21, t22, t23, t24, t25, t26, t27, t28, t29, t30, t31, t32, t33, t34, t35, t36, t37, t38, t39], h6⟩) :=
  itX_step (go_seq (go_seq (go_reg0
  (go_op0 rfl rfl (st_id (v := t6) (H := h) (by kernel_rfl)
  (go_op0 rfl rfl (st_id (v := t0) (H := h) (by kernel_rfl)
  (go_op0 rfl rfl (st_bp (by kernel_rfl) fun v3 h4 =>
  (go_op0 rfl rfl (st_bm (by kernel_rfl) fun v5 h6 =>
  (go_op0 rfl rfl (st_id (v := v5) (H := h6) (by kernel_rfl)
  (go_gdT0 rfl rfl rfl (by kernel_rfl)
  (st_id (v := t5) (H := h6) (by kernel_rfl)
  (by kernel_rfl))
  (by kernel_rfl)
  (by kernel_rfl)))))))))))))))
theorem xj61_0 (s : Sys) (k wl : Nat) (t0 t1 t2 t3 t4 t5 t6 t7 t8 t9 t10 t11 t12 t13 t14 t15 t16 t17 t18 t19 t20 t21 t22 t23 t24 t25 t26 t27 t28 t29 t30 t31 t32 t33 t34 t35 t36 t37 t38 t39 : V) (h : Hp) : runK (xX s 61 wl k false) (bodyK s.P Try.f61) xk61_0 (.exit 0) ⟨[t0, t1, t2, t3, t4, t5, t6, t7, t8, t9, t10, t11, t12, t13, t14, t15, t16, t17, t18, t19, t20, t21, t22, t23, t24, t25, t26, t27, t28, t29, t30, t31, t32, t33, t34, t35, t36, t37, t38, t39], h⟩ =
  some ((V.lit (Value.int .i64 (-1))), h) :=
  (rt_block_eq (go_seq (go_reg0
  (go_op0 rfl rfl (st_id (v := (V.lit (Value.int .i64 (-1)))) (H := h) (by kernel_rfl)
  (go_end0 (by kernel_rfl)
  (go_ret (by kernel_rfl))))))))
theorem xm61_1 (s : Sys) (K : Out → St → Option (V × Hp)) (k wl : Nat) (rd : Bool) (n n0 : Nat) (m0 : Nat) (ac : List Nat × List Nat) (t0 t1 t2 t3 t4 t5 t6 t7 t8 t9 t10 t11 t12 t13 t14 t15 t16 t17 t18 t19 t20 t21 t22 t23 t24 t25 t26 t27 t28 t29 t30 t31 t32 t33 t34 t35 t36 t37 t38 t39 : V) (h : Hp) : opsP (xX s 61 wl k rd) xg61_0 6 m0 ac (runK (xX s 61 wl k rd) (nextK (xX s 61 wl k rd) xl61_0 n0 K n) xk61_1) ⟨[t0, t1, t2, t3, t4, t5, t6, t7, t8, t9, t10, t11, t12, t13, t14, t15, t16, t17, t18, t19, t20, t21, t22, t23, t24, t25, t26, t27, t28, t29, t30, t31, t32, t33, t34, t35, t36, t37, t38, t39], h⟩ =
  bm (vPick t14 t15 (V.lit (Value.bool false))) h fun v7 h8 =>
  cnd v7 (
  itX (xX s 61 wl k rd) xl61_1 h8.length (runK (xX s 61 wl k rd) (nextK (xX s 61 wl k rd) xl61_0 n0 K n) xk61_2) k ⟨[(V.kill h8.length t0), (V.kill h8.length t1), (V.kill h8.length t2), (V.kill h8.length t3), (V.kill h8.length t4), (V.kill h8.length t5), (V.kill h8.length t6), (V.lit (Value.int .i64 0)), (V.kill h8.length t8), (V.kill h8.length t9), (V.kill h8.length t10), (V.kill h8.length t11), (V.kill h8.length t12), (V.kill h8.length t13), (V.kill h8.length t14), (V.kill h8.length t15), (V.kill h8.length v7), (V.kill h8.length t17), (V.kill h8.length t18), .junk, .junk, .junk, .junk, .junk, .junk, .junk, .junk, .junk, .junk, .junk, .junk, .junk, .junk, .junk, .junk, .junk, .junk, .junk, .junk, .junk], cutH h8.length h8⟩) (
  K (.exit 0) ⟨[(V.kill n0 t0), (V.kill n0 t1), (V.kill n0 t2), (V.kill n0 t3), (V.kill n0 t4), (V.kill n0 t5), (V.kill n0 t6), (V.kill n0 t7), (V.kill n0 t8), (V.kill n0 t9), .junk, .junk, .junk, .junk, .junk, .junk, .junk, .junk, .junk, .junk, .junk, .junk, .junk, .junk, .junk, .junk, .junk, .junk, .junk, .junk, .junk, .junk, .junk, .junk, .junk, .junk, .junk, .junk, .junk, .junk], cutH n0 h8⟩) :=
  (go_op0 rfl rfl (st_bm (by kernel_rfl) fun v7 h8 =>
  (go_end0 (by kernel_rfl)
  (go_cond (by kernel_rfl)
  (go_skip (go_seq (go_block (go_seq (go_reg0
  (go_op0 rfl rfl (st_id (v := (V.lit (Value.int .i64 0))) (H := h8) (by kernel_rfl)
  (go_end0 (by kernel_rfl)
  (go_block (by kernel_rfl))))))))))
  (go_exit (rt_seq_exit (by kernel_rfl)))))))
theorem xr61_1 (s : Sys) (K : Out → St → Option (V × Hp)) (k wl : Nat) (rd : Bool) (n n0 : Nat) (t0 t1 t2 t3 t4 t5 t6 t7 t8 t9 t10 t11 t12 t13 t14 t15 t16 t17 t18 t19 t20 t21 t22 t23 t24 t25 t26 t27 t28 t29 t30 t31 t32 t33 t34 t35 t36 t37 t38 t39 : V) (h : Hp) : itX (xX s 61 wl k rd) xl61_1 n0 K (n + 1) ⟨[t0, t1, t2, t3, t4, t5, t6, t7, t8, t9, t10, t11, t12, t13, t14, t15, t16, t17, t18, t19, t20, t21, t22, t23, t24, t25, t26, t27, t28, t29, t30, t31, t32, t33, t34, t35, t36, t37, t38, t39], h⟩ =
  bm (vIndexAddr s.P 22 t0 t6 h) h fun v9 h10 =>
  bm (vFieldAddr s.P 40 v9 1) h10 fun v11 h12 =>
  bm (vLoad s.P 23 v11 h12) h12 fun v13 h14 =>
  bp (opLen s.P 23 v13 h14) fun v15 h16 =>
  bm (vBin s.P .lss 3 t7 v15) h16 fun v17 h18 =>
  cnd v17 (
  bm (vIndexAddr s.P 22 t0 t6 h18) h18 fun v19 h20 =>
  bm (vFieldAddr s.P 40 v19 1) h20 fun v21 h22 =>
  bm (vLoad s.P 23 v21 h22) h22 fun v23 h24 =>
  bm (vIndexAddr s.P 23 v23 t7 h24) h24 fun v25 h26 =>
  bm (vLoad s.P 3 v25 h26) h26 fun v27 h28 =>
  bm (vBin s.P .eql 3 v27 t1) h28 fun v29 h30 =>
  cnd v29 (
  K .ret ⟨[t0, t1, t2, t3, t6, t5, t6, t7, t8, t9, t10, t11, t12, t13, t14, t15, t16, t17, t18, t7, t0, t6, v9, v11, v13, v15, v17, t27, t28, t0, t6, v19, v21, v23, t7, v25, v27, t1, v29, t6], h30⟩) (
  bm (vBin s.P .add 3 t7 (V.lit (Value.int .i64 1))) h30 fun v31 h32 =>
  itX (xX s 61 wl k rd) xl61_1 n0 K n ⟨[(V.kill n0 t0), (V.kill n0 t1), (V.kill n0 t2), (V.kill n0 t3), (V.kill n0 t4), (V.kill n0 t5), (V.kill n0 t6), (V.kill n0 v31), (V.kill n0 t8), (V.kill n0 t9), (V.kill n0 t10), (V.kill n0 t11), (V.kill n0 t12), (V.kill n0 t13), (V.kill n0 t14), (V.kill n0 t15), (V.kill n0 t16), (V.kill n0 t17), (V.kill n0 t18), .junk, .junk, .junk, .junk, .junk, .junk, .junk, .junk, .junk, .junk, .junk, .junk, .junk, .junk, .junk, .junk, .junk, .junk, .junk, .junk, .junk], cutH n0 h32⟩)) (
  K (.exit 2) ⟨[(V.kill n0 t0), (V.kill n0 t1), (V.kill n0 t2), (V.kill n0 t3), (V.kill n0 t4), (V.kill n0 t5), (V.kill n0 t6), (V.kill n0 t7), (V.kill n0 t8), (V.kill n0 t9), (V.kill n0 t10), (V.kill n0 t11), (V.kill n0 t12), (V.kill n0 t13), (V.kill n0 t14), (V.kill n0 t15), (V.kill n0 t16), (V.kill n0 t17), (V.kill n0 t18), .junk, .junk, .junk, .junk, .junk, .junk, .junk, .junk, .junk, .junk, .junk, .junk, .junk, .junk, .junk, .junk, .junk, .junk, .junk, .junk, .junk], cutH n0 h18⟩) :=
  itX_step (go_seq (go_seq (go_reg0
  (go_op0 rfl rfl (st_id (v := t7) (H := h) (by kernel_rfl)
  (go_op0 rfl rfl (st_id (v := t0) (H := h) (by kernel_rfl)
  (go_op0 rfl rfl (st_id (v := t6) (H := h) (by kernel_rfl)
  (go_op0 rfl rfl (st_bm (by kernel_rfl) fun v9 h10 =>
  (go_op0 rfl rfl (st_bm (by kernel_rfl) fun v11 h12 =>
  (go_op0 rfl rfl (st_bm (by kernel_rfl) fun v13 h14 =>
  (go_op0 rfl rfl (st_bp (by kernel_rfl) fun v15 h16 =>
  (go_op0 rfl rfl (st_bm (by kernel_rfl) fun v17 h18 =>
  (go_end0 (by kernel_rfl)
  (go_cond (by kernel_rfl)
  (go_skip (go_seq (go_block (go_seq (go_reg0
  (go_op0 rfl rfl (st_id (v := t0) (H := h18) (by kernel_rfl)
  (go_op0 rfl rfl (st_id (v := t6) (H := h18) (by kernel_rfl)
  (go_op0 rfl rfl (st_bm (by kernel_rfl) fun v19 h20 =>
  (go_op0 rfl rfl (st_bm (by kernel_rfl) fun v21 h22 =>
  (go_op0 rfl rfl (st_bm (by kernel_rfl) fun v23 h24 =>
  (go_op0 rfl rfl (st_id (v := t7) (H := h24) (by kernel_rfl)
  (go_op0 rfl rfl (st_bm (by kernel_rfl) fun v25 h26 =>
  (go_op0 rfl rfl (st_bm (by kernel_rfl) fun v27 h28 =>
  (go_op0 rfl rfl (st_id (v := t1) (H := h28) (by kernel_rfl)
  (go_op0 rfl rfl (st_bm (by kernel_rfl) fun v29 h30 =>
  (go_end0 (by kernel_rfl)
  (go_cond (by kernel_rfl)
  (go_seq (go_reg0
  (go_op0 rfl rfl (st_id (v := t6) (H := h30) (by kernel_rfl)
  (go_op0 rfl rfl (st_id (v := t6) (H := h30) (by kernel_rfl)
  (go_end0 (by kernel_rfl)
  (go_ret (rt_block_ret (rt_seq_ret (by kernel_rfl)))))))))))
  (go_skip (rt_block_norm (go_reg0
  (go_op0 rfl rfl (st_id (v := t7) (H := h30) (by kernel_rfl)
  (go_op0 rfl rfl (st_bm (by kernel_rfl) fun v31 h32 =>
  (go_op0 rfl rfl (st_id (v := v31) (H := h32) (by kernel_rfl)
  (go_end0 (by kernel_rfl)
  (by kernel_rfl))))))))))))))))))))))))))))))))))))))
  (go_exit (rt_seq_exit (by kernel_rfl))))))))))))))))))))))))
theorem xj61_2 (s : Sys) (K : Out → St → Option (V × Hp)) (k wl : Nat) (rd : Bool) (n n0 : Nat) (t0 t1 t2 t3 t4 t5 t6 t7 t8 t9 t10 t11 t12 t13 t14 t15 t16 t17 t18 t19 t20 t21 t22 t23 t24 t25 t26 t27 t28 t29 t30 t31 t32 t33 t34 t35 t36 t37 t38 t39 : V) (h : Hp) : runK (xX s 61 wl k rd) (nextK (xX s 61 wl k rd) xl61_0 n0 K n) xk61_2 (.exit 2) ⟨[t0, t1, t2, t3, t4, t5, t6, t7, t8, t9, t10, t11, t12, t13, t14, t15, t16, t17, t18, t19, t20, t21, t22, t23, t24, t25, t26, t27, t28, t29, t30, t31, t32, t33, t34, t35, t36, t37, t38, t39], h⟩ =
  bm (vBin s.P .add 3 t6 (V.lit (Value.int .i64 1))) h fun v33 h34 =>
  itX (xX s 61 wl k rd) xl61_0 n0 K n ⟨[(V.kill n0 t0), (V.kill n0 t1), (V.kill n0 t2), (V.kill n0 t3), (V.kill n0 t4), (V.kill n0 t5), (V.kill n0 v33), (V.kill n0 t7), (V.kill n0 t8), (V.kill n0 t9), .junk, .junk, .junk, .junk, .junk, .junk, .junk, .junk, .junk, .junk, .junk, .junk, .junk, .junk, .junk, .junk, .junk, .junk, .junk, .junk, .junk, .junk, .junk, .junk, .junk, .junk, .junk, .junk, .junk, .junk], cutH n0 h34⟩ :=
  (rt_block_eq (rt_block_norm (go_reg0
  (go_op0 rfl rfl (st_id (v := t6) (H := h) (by kernel_rfl)
  (go_op0 rfl rfl (st_bm (by kernel_rfl) fun v33 h34 =>
  (go_op0 rfl rfl (st_id (v := v33) (H := h34) (by kernel_rfl)
  (go_end0 (by kernel_rfl)
  (by kernel_rfl)))))))))))
theorem xk61_0_ret (cx : Cx) (K : Out → St → Option (V × Hp)) (s : St) : runK cx K xk61_0 .ret s = K .ret s := by kernel_rfl
theorem xk61_1_ret (cx : Cx) (K : Out → St → Option (V × Hp)) (s : St) : runK cx K xk61_1 .ret s = K .ret s := by kernel_rfl
theorem xk61_2_ret (cx : Cx) (K : Out → St → Option (V × Hp)) (s : St) : runK cx K xk61_2 .ret s = K .ret s := by kernel_rfl
-- names: xb61, xz61, xr61_0, xj61_0, xm61_1, xr61_1, xj61_2, xk61_0_ret, xk61_1_ret, xk61_2_ret
end Go.Ab
