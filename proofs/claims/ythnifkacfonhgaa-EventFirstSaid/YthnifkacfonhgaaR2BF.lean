/- The program's code, point by point: printed by gen.py. -/
import Derived.Test.YthnifkacfonhgaaR2Seat
set_option linter.unusedVariables false
set_option linter.unusedSimpArgs false
set_option maxRecDepth 100000
set_option linter.unusedVariables false
namespace Go.Ab
open Go.Proofs
/-! 48 poacher/poacherref10.Frames: 0 a, 1 b, 2 a, 3 b, 5 i -/
noncomputable def xl48_0 : Code := codeAt (bodyOf Try.f48) [1, 1, 0, 1, 0, 0]
noncomputable def xk48_0 : List Fr := [.block 0, .seq (codeAt (bodyOf Try.f48) [1, 1, 1])]
noncomputable def xg48_0 : Code := codeAt (bodyOf Try.f48) [1, 1, 0, 1, 0, 0, 1, 0, 0, 0]
theorem xo48_6 : orderIx (opsOf xg48_0) = [0, 1, 2, 3, 4, 5, 6, 7, 8] := by kernel_rfl
theorem xo48_6a : (rgOf (opsOf xg48_0)).any = false := by kernel_rfl
theorem xo48_6r : regOk (opsOf xg48_0) = true := by kernel_rfl
theorem xb48 (s : Sys) (k wl : Nat) (t0 t1 : V) (h : Hp) : bodyV (xX s 48 wl k false) Try.f48 [t0, t1] h =
  bp (opLen s.P 53 t0 h) fun v1 h2 =>
  bp (opLen s.P 53 t1 h2) fun v3 h4 =>
  bm (vBin s.P .neq 3 v1 v3) h4 fun v5 h6 =>
  cnd v5 (
  some ((V.lit (Value.bool false)), h6)) (
  itX (xX s 48 wl k false) xl48_0 h6.length (runK (xX s 48 wl k false) (bodyK s.P Try.f48) xk48_0) k ⟨[(V.kill h6.length t0), (V.kill h6.length t1), (V.kill h6.length uu), (V.kill h6.length uu), (V.lit (Value.bool false)), (V.lit (Value.int .i64 0)), (V.kill h6.length t0), (V.kill h6.length v1), (V.kill h6.length t1), (V.kill h6.length v3), (V.kill h6.length v5), .junk, .junk, .junk, .junk, .junk, .junk, .junk, .junk, .junk, .junk, .junk, .junk, .junk, .junk, .junk], cutH h6.length h6⟩) :=
  bodyV_run rfl (go_seq (go_reg0
  (go_op0 rfl rfl (st_id (v := (V.lit (Value.bool false))) (H := h) (by kernel_rfl)
  (go_end0 (by kernel_rfl)
  (go_seq (go_seq (go_reg0
  (go_op0 rfl rfl (st_id (v := t0) (H := h) (by kernel_rfl)
  (go_op0 rfl rfl (st_bp (by kernel_rfl) fun v1 h2 =>
  (go_op0 rfl rfl (st_id (v := t1) (H := h2) (by kernel_rfl)
  (go_op0 rfl rfl (st_bp (by kernel_rfl) fun v3 h4 =>
  (go_op0 rfl rfl (st_bm (by kernel_rfl) fun v5 h6 =>
  (go_end0 (by kernel_rfl)
  (go_cond (by kernel_rfl)
  (go_seq (go_reg0
  (go_op0 rfl rfl (st_id (v := (V.lit (Value.bool false))) (H := h6) (by kernel_rfl)
  (go_end0 (by kernel_rfl)
  (go_ret (rt_seq_ret (by kernel_rfl))))))))
  (go_skip (go_seq (go_seq (go_reg0
  (go_op0 rfl rfl (st_id (v := (V.lit (Value.int .i64 0))) (H := h6) (by kernel_rfl)
  (go_end0 (by kernel_rfl)
  (go_block (by kernel_rfl)))))))))))))))))))))))))))))
theorem xe48 (k wl : Nat) (t0 t1 : V) (h : Hp) : evF Try.prog xM (k + 1) wl 48 [t0, t1] h = bodyV (xX (xS k) 48 wl k false) Try.f48 [t0, t1] h := by kernel_rfl
theorem xz48 (P : Program) (t0 t1 t2 t3 t4 t5 t6 t7 t8 t9 t10 t11 t12 t13 t14 t15 t16 t17 t18 t19 t20 t21 t22 t23 t24 t25 : V) (h : Hp) : bodyK P Try.f48 .ret ⟨[t0, t1, t2, t3, t4, t5, t6, t7, t8, t9, t10, t11, t12, t13, t14, t15, t16, t17, t18, t19, t20, t21, t22, t23, t24, t25], h⟩ = some (t4, h) := by kernel_rfl
theorem xr48_0 (s : Sys) (K : Out → St → Option (V × Hp)) (k wl : Nat) (rd : Bool) (n n0 : Nat) (t0 t1 t2 t3 t4 t5 t6 t7 t8 t9 t10 t11 t12 t13 t14 t15 t16 t17 t18 t19 t20 t21 t22 t23 t24 t25 : V) (h : Hp) : itX (xX s 48 wl k rd) xl48_0 n0 K (n + 1) ⟨[t0, t1, t2, t3, t4, t5, t6, t7, t8, t9, t10, t11, t12, t13, t14, t15, t16, t17, t18, t19, t20, t21, t22, t23, t24, t25], h⟩ =
  bp (opLen s.P 53 t0 h) fun v7 h8 =>
  bm (vBin s.P .lss 3 t5 v7) h8 fun v9 h10 =>
  cnd v9 (
  bm (vIndexAddr s.P 53 t0 t5 h10) h10 fun v11 h12 =>
  bm (vLoad s.P 28 v11 h12) h12 fun v13 h14 =>
  bm (vIndexAddr s.P 53 t1 t5 h14) h14 fun v15 h16 =>
  bm (vLoad s.P 28 v15 h16) h16 fun v17 h18 =>
  bm (vBin s.P .neq 28 v13 v17) h18 fun v19 h20 =>
  cnd v19 (
  K .ret ⟨[t0, t1, t2, t3, (V.lit (Value.bool false)), t5, t6, t7, t8, t9, t10, t5, t0, v7, v9, t15, t16, t0, t5, v11, v13, t1, t5, v15, v17, v19], h20⟩) (
  bm (vBin s.P .add 3 t5 (V.lit (Value.int .i64 1))) h20 fun v21 h22 =>
  itX (xX s 48 wl k rd) xl48_0 n0 K n ⟨[(V.kill n0 t0), (V.kill n0 t1), (V.kill n0 t2), (V.kill n0 t3), (V.kill n0 t4), (V.kill n0 v21), (V.kill n0 t6), (V.kill n0 t7), (V.kill n0 t8), (V.kill n0 t9), (V.kill n0 t10), .junk, .junk, .junk, .junk, .junk, .junk, .junk, .junk, .junk, .junk, .junk, .junk, .junk, .junk, .junk], cutH n0 h22⟩)) (
  K (.exit 0) ⟨[(V.kill n0 t0), (V.kill n0 t1), (V.kill n0 t2), (V.kill n0 t3), (V.kill n0 t4), (V.kill n0 t5), (V.kill n0 t6), (V.kill n0 t7), (V.kill n0 t8), (V.kill n0 t9), (V.kill n0 t10), .junk, .junk, .junk, .junk, .junk, .junk, .junk, .junk, .junk, .junk, .junk, .junk, .junk, .junk, .junk], cutH n0 h10⟩) :=
  itX_step (go_seq (go_seq (go_reg0
  (go_op0 rfl rfl (st_id (v := t5) (H := h) (by kernel_rfl)
  (go_op0 rfl rfl (st_id (v := t0) (H := h) (by kernel_rfl)
  (go_op0 rfl rfl (st_bp (by kernel_rfl) fun v7 h8 =>
  (go_op0 rfl rfl (st_bm (by kernel_rfl) fun v9 h10 =>
  (go_end0 (by kernel_rfl)
  (go_cond (by kernel_rfl)
  (go_skip (go_seq (go_block (go_seq (go_reg1 xo48_6r
  (go_op1 xo48_6 xo48_6a rfl rfl rfl (st_no (by kernel_rfl) (st_id (v := t0) (H := h10) (by kernel_rfl)
  (go_op1 xo48_6 xo48_6a rfl rfl rfl (st_no (by kernel_rfl) (st_id (v := t5) (H := h10) (by kernel_rfl)
  (go_op1 xo48_6 xo48_6a rfl rfl rfl (st_no (by kernel_rfl) (st_bm (by kernel_rfl) fun v11 h12 =>
  (go_op1 xo48_6 xo48_6a rfl rfl rfl (st_no (by kernel_rfl) (st_bm (by kernel_rfl) fun v13 h14 =>
  (go_op1 xo48_6 xo48_6a rfl rfl rfl (st_no (by kernel_rfl) (st_id (v := t1) (H := h14) (by kernel_rfl)
  (go_op1 xo48_6 xo48_6a rfl rfl rfl (st_no (by kernel_rfl) (st_id (v := t5) (H := h14) (by kernel_rfl)
  (go_op1 xo48_6 xo48_6a rfl rfl rfl (st_no (by kernel_rfl) (st_bm (by kernel_rfl) fun v15 h16 =>
  (go_op1 xo48_6 xo48_6a rfl rfl rfl (st_no (by kernel_rfl) (st_bm (by kernel_rfl) fun v17 h18 =>
  (go_op1 xo48_6 xo48_6a rfl rfl rfl (st_no (by kernel_rfl) (st_bm (by kernel_rfl) fun v19 h20 =>
  (go_end1 xo48_6 (by kernel_rfl) xo48_6a
  (go_cond (by kernel_rfl)
  (go_seq (go_reg0
  (go_op0 rfl rfl (st_id (v := (V.lit (Value.bool false))) (H := h20) (by kernel_rfl)
  (go_end0 (by kernel_rfl)
  (go_ret (rt_block_ret (rt_seq_ret (by kernel_rfl)))))))))
  (go_skip (rt_block_norm (go_reg0
  (go_op0 rfl rfl (st_id (v := t5) (H := h20) (by kernel_rfl)
  (go_op0 rfl rfl (st_bm (by kernel_rfl) fun v21 h22 =>
  (go_op0 rfl rfl (st_id (v := v21) (H := h22) (by kernel_rfl)
  (go_end0 (by kernel_rfl)
  (by kernel_rfl)))))))))))))))))))))))))))))))))))))))))))))
  (go_exit (rt_seq_exit (by kernel_rfl))))))))))))))))
theorem xj48_0 (s : Sys) (k wl : Nat) (t0 t1 t2 t3 t4 t5 t6 t7 t8 t9 t10 t11 t12 t13 t14 t15 t16 t17 t18 t19 t20 t21 t22 t23 t24 t25 : V) (h : Hp) : runK (xX s 48 wl k false) (bodyK s.P Try.f48) xk48_0 (.exit 0) ⟨[t0, t1, t2, t3, t4, t5, t6, t7, t8, t9, t10, t11, t12, t13, t14, t15, t16, t17, t18, t19, t20, t21, t22, t23, t24, t25], h⟩ =
  some ((V.lit (Value.bool true)), h) :=
  (rt_block_eq (go_seq (go_reg0
  (go_op0 rfl rfl (st_id (v := (V.lit (Value.bool true))) (H := h) (by kernel_rfl)
  (go_end0 (by kernel_rfl)
  (go_ret (by kernel_rfl))))))))
theorem xk48_0_ret (cx : Cx) (K : Out → St → Option (V × Hp)) (s : St) : runK cx K xk48_0 .ret s = K .ret s := by kernel_rfl
-- names: xb48, xz48, xr48_0, xj48_0, xk48_0_ret
end Go.Ab
