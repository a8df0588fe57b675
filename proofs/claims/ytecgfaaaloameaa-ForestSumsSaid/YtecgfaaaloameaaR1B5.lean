/- The program's code, point by point: printed by gen.py. -/
import Derived.Test.YtecgfaaaloameaaR1Seat
set_option maxRecDepth 100000
set_option linter.unusedVariables false
namespace Go.Ab
open Go.Proofs
/-! 38 poacher/poacherref17.Same: 0 a, 1 b, 2 a, 3 b, 5 i -/
noncomputable def xl38_0 : Code := codeAt (bodyOf Try.f38) [1, 1, 0, 1, 0, 0]
noncomputable def xk38_0 : List Fr := [.block 0, .seq (codeAt (bodyOf Try.f38) [1, 1, 1])]
noncomputable def xg38_0 : Code := codeAt (bodyOf Try.f38) [1, 1, 0, 1, 0, 0, 1, 0, 0, 0]
theorem xo38_6 : orderIx (opsOf xg38_0) = [0, 1, 2, 3, 4, 5, 6, 7, 8] := by kernel_rfl
theorem xo38_6a : (rgOf (opsOf xg38_0)).any = false := by kernel_rfl
theorem xo38_6r : regOk (opsOf xg38_0) = true := by kernel_rfl
theorem xb38 (s : Sys) (k wl : Nat) (t0 t1 : V) (h : Hp) : bodyV (xX s 38 wl k false) Try.f38 [t0, t1] h =
  bp (opLen s.P 43 t0 h) fun v1 h2 =>
  bp (opLen s.P 43 t1 h2) fun v3 h4 =>
  bm (vBin s.P .neq 3 v1 v3) h4 fun v5 h6 =>
  cnd v5 (
  some ((V.lit (Value.bool false)), h6)) (
  itX (xX s 38 wl k false) xl38_0 h6.length (runK (xX s 38 wl k false) (bodyK s.P Try.f38) xk38_0) k ⟨[(V.kill h6.length t0), (V.kill h6.length t1), (V.kill h6.length uu), (V.kill h6.length uu), (V.lit (Value.bool false)), (V.lit (Value.int .i64 0)), (V.kill h6.length t0), (V.kill h6.length v1), (V.kill h6.length t1), (V.kill h6.length v3), (V.kill h6.length v5), .junk, .junk, .junk, .junk, .junk, .junk, .junk, .junk, .junk, .junk, .junk, .junk, .junk, .junk, .junk], cutH h6.length h6⟩) :=
  bodyV_run rfl (go_seq (go_reg0
  (go_op0 rfl rfl (st_id (v := (V.lit (Value.bool false))) (H := h) (by kernel_rfl)
  (go_end0 (by kernel_rfl)
  (go_seq (go_seq (go_reg0
  (go_op0 rfl rfl (st_id (v := t0) (H := h) (by kernel_rfl)
  (go_op0 rfl rfl (st_bp (by kernel_rfl) fun v1 h2 =>
  (go_op0 rfl rfl (st_id (v := t1) (H := h2) (by kernel_rfl)
  (go_op0 rfl rfl (st_bp (by kernel_rfl) fun v3 h4 =>
  (go_op0 rfl rfl (st_bm (by kernel_rfl) fun v5 h6 =>
  (go_end0 (by kernel_rfl)
  (go_cond (by kernel_rfl)
  (go_seq (go_reg0
  (go_op0 rfl rfl (st_id (v := (V.lit (Value.bool false))) (H := h6) (by kernel_rfl)
  (go_end0 (by kernel_rfl)
  (go_ret (rt_seq_ret (by kernel_rfl))))))))
  (go_skip (go_seq (go_seq (go_reg0
  (go_op0 rfl rfl (st_id (v := (V.lit (Value.int .i64 0))) (H := h6) (by kernel_rfl)
  (go_end0 (by kernel_rfl)
  (go_block (by kernel_rfl)))))))))))))))))))))))))))))
theorem xe38 (k wl : Nat) (t0 t1 : V) (h : Hp) : evF Try.prog xM (k + 1) wl 38 [t0, t1] h = bodyV (xX (xS k) 38 wl k false) Try.f38 [t0, t1] h := by kernel_rfl
theorem xz38 (P : Program) (t0 t1 t2 t3 t4 t5 t6 t7 t8 t9 t10 t11 t12 t13 t14 t15 t16 t17 t18 t19 t20 t21 t22 t23 t24 t25 : V) (h : Hp) : bodyK P Try.f38 .ret ⟨[t0, t1, t2, t3, t4, t5, t6, t7, t8, t9, t10, t11, t12, t13, t14, t15, t16, t17, t18, t19, t20, t21, t22, t23, t24, t25], h⟩ = some (t4, h) := by kernel_rfl
theorem xr38_0 (s : Sys) (K : Out → St → Option (V × Hp)) (k wl : Nat) (rd : Bool) (n n0 : Nat) (t0 t1 t2 t3 t4 t5 t6 t7 t8 t9 t10 t11 t12 t13 t14 t15 t16 t17 t18 t19 t20 t21 t22 t23 t24 t25 : V) (h : Hp) : itX (xX s 38 wl k rd) xl38_0 n0 K (n + 1) ⟨[t0, t1, t2, t3, t4, t5, t6, t7, t8, t9, t10, t11, t12, t13, t14, t15, t16, t17, t18, t19, t20, t21, t22, t23, t24, t25], h⟩ =
  bp (opLen s.P 43 t0 h) fun v7 h8 =>
  bm (vBin s.P .lss 3 t5 v7) h8 fun v9 h10 =>
  cnd v9 (
  bm (vIndexAddr s.P 43 t0 t5 h10) h10 fun v11 h12 =>
  bm (vLoad s.P 55 v11 h12) h12 fun v13 h14 =>
  bm (vIndexAddr s.P 43 t1 t5 h14) h14 fun v15 h16 =>
  bm (vLoad s.P 55 v15 h16) h16 fun v17 h18 =>
  bm (vBin s.P .neq 55 v13 v17) h18 fun v19 h20 =>
  cnd v19 (
  K .ret ⟨[t0, t1, t2, t3, (V.lit (Value.bool false)), t5, t6, t7, t8, t9, t10, t5, t0, v7, v9, t15, t16, t0, t5, v11, v13, t1, t5, v15, v17, v19], h20⟩) (
  bm (vBin s.P .add 3 t5 (V.lit (Value.int .i64 1))) h20 fun v21 h22 =>
  itX (xX s 38 wl k rd) xl38_0 n0 K n ⟨[(V.kill n0 t0), (V.kill n0 t1), (V.kill n0 t2), (V.kill n0 t3), (V.kill n0 t4), (V.kill n0 v21), (V.kill n0 t6), (V.kill n0 t7), (V.kill n0 t8), (V.kill n0 t9), (V.kill n0 t10), .junk, .junk, .junk, .junk, .junk, .junk, .junk, .junk, .junk, .junk, .junk, .junk, .junk, .junk, .junk], cutH n0 h22⟩)) (
  K (.exit 0) ⟨[(V.kill n0 t0), (V.kill n0 t1), (V.kill n0 t2), (V.kill n0 t3), (V.kill n0 t4), (V.kill n0 t5), (V.kill n0 t6), (V.kill n0 t7), (V.kill n0 t8), (V.kill n0 t9), (V.kill n0 t10), .junk, .junk, .junk, .junk, .junk, .junk, .junk, .junk, .junk, .junk, .junk, .junk, .junk, .junk, .junk], cutH n0 h10⟩) :=
  itX_step (go_seq (go_seq (go_reg0
  (go_op0 rfl rfl (st_id (v := t5) (H := h) (by kernel_rfl)
  (go_op0 rfl rfl (st_id (v := t0) (H := h) (by kernel_rfl)
  (go_op0 rfl rfl (st_bp (by kernel_rfl) fun v7 h8 =>
  (go_op0 rfl rfl (st_bm (by kernel_rfl) fun v9 h10 =>
  (go_end0 (by kernel_rfl)
  (go_cond (by kernel_rfl)
  (go_skip (go_seq (go_block (go_seq (go_reg1 xo38_6r
  (go_op1 xo38_6 xo38_6a rfl rfl rfl (st_no (by kernel_rfl) (st_id (v := t0) (H := h10) (by kernel_rfl)
  (go_op1 xo38_6 xo38_6a rfl rfl rfl (st_no (by kernel_rfl) (st_id (v := t5) (H := h10) (by kernel_rfl)
  (go_op1 xo38_6 xo38_6a rfl rfl rfl (st_no (by kernel_rfl) (st_bm (by kernel_rfl) fun v11 h12 =>
  (go_op1 xo38_6 xo38_6a rfl rfl rfl (st_no (by kernel_rfl) (st_bm (by kernel_rfl) fun v13 h14 =>
  (go_op1 xo38_6 xo38_6a rfl rfl rfl (st_no (by kernel_rfl) (st_id (v := t1) (H := h14) (by kernel_rfl)
  (go_op1 xo38_6 xo38_6a rfl rfl rfl (st_no (by kernel_rfl) (st_id (v := t5) (H := h14) (by kernel_rfl)
  (go_op1 xo38_6 xo38_6a rfl rfl rfl (st_no (by kernel_rfl) (st_bm (by kernel_rfl) fun v15 h16 =>
  (go_op1 xo38_6 xo38_6a rfl rfl rfl (st_no (by kernel_rfl) (st_bm (by kernel_rfl) fun v17 h18 =>
  (go_op1 xo38_6 xo38_6a rfl rfl rfl (st_no (by kernel_rfl) (st_bm (by kernel_rfl) fun v19 h20 =>
  (go_end1 xo38_6 (by kernel_rfl) xo38_6a
  (go_cond (by kernel_rfl)
  (go_seq (go_reg0
  (go_op0 rfl rfl (st_id (v := (V.lit (Value.bool false))) (H := h20) (by kernel_rfl)
  (go_end0 (by kernel_rfl)
  (go_ret (rt_block_ret (rt_seq_ret (by kernel_rfl)))))))))
  (go_skip (rt_block_norm (go_reg0
  (go_op0 rfl rfl (st_id (v := t5) (H := h20) (by kernel_rfl)
  (go_op0 rfl rfl (st_bm (by kernel_rfl) fun v21 h22 =>
  (go_op0 rfl rfl (st_id (v := v21) (H := h22) (by kernel_rfl)
  (go_end0 (by kernel_rfl)
  (by kernel_rfl)))))))))))))))))))))))))))))))))))))))))))))
  (go_exit (rt_seq_exit (by kernel_rfl))))))))))))))))
theorem xj38_0 (s : Sys) (k wl : Nat) (t0 t1 t2 t3 t4 t5 t6 t7 t8 t9 t10 t11 t12 t13 t14 t15 t16 t17 t18 t19 t20 t21 t22 t23 t24 t25 : V) (h : Hp) : runK (xX s 38 wl k false) (bodyK s.P Try.f38) xk38_0 (.exit 0) ⟨[t0, t1, t2, t3, t4, t5, t6, t7, t8, t9, t10, t11, t12, t13, t14, t15, t16, t17, t18, t19, t20, t21, t22, t23, t24, t25], h⟩ =
  some ((V.lit (Value.bool true)), h) :=
  (rt_block_eq (go_seq (go_reg0
  (go_op0 rfl rfl (st_id (v := (V.lit (Value.bool true))) (H := h) (by kernel_rfl)
  (go_end0 (by kernel_rfl)
  (go_ret (by kernel_rfl))))))))
theorem xk38_0_ret (cx : Cx) (K : Out → St → Option (V × Hp)) (s : St) : runK cx K xk38_0 .ret s = K .ret s := by kernel_rfl
-- names: xb38, xz38, xr38_0, xj38_0, xk38_0_ret
/-! 39 poacher/think.Do: 0 t, 1 s, 2 t, 3 s, 5 own, 6 way, 7 is -/

theorem xb39 (s : Sys) (k wl : Nat) (t0 t1 : V) (h : Hp) : bodyV (xX s 39 wl k false) Try.f39 [t0, t1] h =
  bp (some (.own h.length 0 0, h ++ [.rows 0 [] 0 true])) fun v1 h2 =>
  bp (callV (xX s 39 wl k false) false true (.fn (.func 71) [] []) [t1] h2) fun v3 h4 =>
  bp (callV (xX s 39 wl k false) false true (.fn (.func 72) [] []) [] h4) fun v5 h6 =>
  bp (callV (xX s 39 wl k false) false true (.fn (.func 44) [] []) [t0, t1] h6) fun v7 h8 =>
  bm (vField s.P 49 v7 0) h8 fun v9 h10 =>
  bm (vLookup s.P 80 v5 v9 true h10) h10 fun v11 h12 =>
  bm (vExtract v11 0) h12 fun v13 h14 =>
  bm (vExtract v11 1) h14 fun v15 h16 =>
  cnd v15 (
  bp (callV (xX s 39 wl k false) false true v13 [v3] h16) fun v17 h18 =>
  some (v17, h18)) (
  some (v3, h16)) :=
  bodyV_run rfl (go_seq (go_reg0
  (go_op0 rfl rfl (st_bp (by kernel_rfl) fun v1 h2 =>
  (go_end0 (by kernel_rfl)
  (go_seq (go_reg0
  (go_op0 rfl rfl (st_id (v := t1) (H := h2) (by kernel_rfl)
  (go_op0 rfl rfl (st_bp (by kernel_rfl) fun v3 h4 =>
  (go_op0 rfl rfl (st_id (v := v3) (H := h4) (by kernel_rfl)
  (go_end0 (by kernel_rfl)
  (go_seq (go_seq (go_reg0
  (go_op0 rfl rfl (st_bp (by kernel_rfl) fun v5 h6 =>
  (go_op0 rfl rfl (st_id (v := t0) (H := h6) (by kernel_rfl)
  (go_op0 rfl rfl (st_id (v := t1) (H := h6) (by kernel_rfl)
  (go_op0 rfl rfl (st_bp (by kernel_rfl) fun v7 h8 =>
  (go_op0 rfl rfl (st_bm (by kernel_rfl) fun v9 h10 =>
  (go_op0 rfl rfl (st_bm (by kernel_rfl) fun v11 h12 =>
  (go_op0 rfl rfl (st_id (v := v11) (H := h12) (by kernel_rfl)
  (go_op0 rfl rfl (st_bm (by kernel_rfl) fun v13 h14 =>
  (go_op0 rfl rfl (st_bm (by kernel_rfl) fun v15 h16 =>
  (go_op0 rfl rfl (st_id (v := v13) (H := h16) (by kernel_rfl)
  (go_op0 rfl rfl (st_id (v := v15) (H := h16) (by kernel_rfl)
  (go_end0 (by kernel_rfl)
  (go_seq (go_reg0
  (go_op0 rfl rfl (st_id (v := v15) (H := h16) (by kernel_rfl)
  (go_end0 (by kernel_rfl)
  (go_cond (by kernel_rfl)
  (go_seq (go_reg0
  (go_op0 rfl rfl (st_id (v := v13) (H := h16) (by kernel_rfl)
  (go_op0 rfl rfl (st_id (v := v3) (H := h16) (by kernel_rfl)
  (go_op0 rfl rfl (st_bp (by kernel_rfl) fun v17 h18 =>
  (go_op0 rfl rfl (st_id (v := v17) (H := h18) (by kernel_rfl)
  (go_end0 (by kernel_rfl)
  (go_ret (rt_seq_ret (by kernel_rfl))))))))))))))
  (go_skip (go_seq (go_reg0
  (go_op0 rfl rfl (st_id (v := v3) (H := h16) (by kernel_rfl)
  (go_op0 rfl rfl (st_id (v := v3) (H := h16) (by kernel_rfl)
  (go_end0 (by kernel_rfl)
  (go_ret (by kernel_rfl))))))))))))))))))))))))))))))))))))))))))))))))))))))))
theorem xe39 (k wl : Nat) (t0 t1 : V) (h : Hp) : evF Try.prog xM (k + 1) wl 39 [t0, t1] h = bodyV (xX (xS k) 39 wl k false) Try.f39 [t0, t1] h := by kernel_rfl
-- names: xb39, 
/-! 40 poacher/poacherref17.Do: 0 t, 1 s, 2 t, 3 s, 5 a, 6 out, 7 x -/
noncomputable def xk40_0 : List Fr := [.seq (codeAt (bodyOf Try.f40) [1, 1, 1, 1, 1, 1])]
noncomputable def xk40_1 : List Fr := [.seq (codeAt (bodyOf Try.f40) [1, 1, 1, 1, 1, 1, 1])]
theorem xb40 (s : Sys) (k wl : Nat) (t0 t1 : V) (h : Hp) : bodyV (xX s 40 wl k false) Try.f40 [t0, t1] h =
  bp (some (.own h.length 0 0, h ++ [.rows 0 [] 0 true])) fun v1 h2 =>
  bp (callV (xX s 40 wl k false) false true (.fn (.func 45) [] []) [t0, t1] h2) fun v3 h4 =>
  bp (opAlloc s.P 49 h4) fun v5 h6 =>
  bs (vStore s.P wl 49 v5 v3 h6) fun h7 =>
  bm (vFieldAddr s.P 49 v5 0) h7 fun v8 h9 =>
  bm (vLoad s.P 3 v8 h9) h9 fun v10 h11 =>
  bm (vBin s.P .eql 3 v10 (V.lit (Value.int .i64 0))) h11 fun v12 h13 =>
  cnd v12 (
  some (t1, h13)) (
  bp (opLen s.P 43 t1 h13) fun v14 h15 =>
  bm (vBin s.P .sub 3 v14 (V.lit (Value.int .i64 1))) h15 fun v16 h17 =>
  bp (vSlice s.P wl false 43 t1 none (some v16) none h17) fun v18 h19 =>
  bp (opApp s.P wl 43 43 .nil v18 h19) fun v20 h21 =>
  bp (opLen s.P 43 t1 h21) fun v22 h23 =>
  bm (vBin s.P .sub 3 v22 (V.lit (Value.int .i64 1))) h23 fun v24 h25 =>
  bm (vIndexAddr s.P 43 t1 v24 h25) h25 fun v26 h27 =>
  bm (vLoad s.P 55 v26 h27) h27 fun v28 h29 =>
  bp (opAlloc s.P 55 h29) fun v30 h31 =>
  bs (vStore s.P wl 55 v30 v28 h31) fun h32 =>
  bm (vFieldAddr s.P 49 v5 0) h32 fun v33 h34 =>
  bm (vLoad s.P 3 v33 h34) h34 fun v35 h36 =>
  bm (vBin s.P .eql 3 v35 (V.lit (Value.int .i64 1))) h36 fun v37 h38 =>
  cnd v37 (
  bm (vFieldAddr s.P 55 v30 1) h38 fun v39 h40 =>
  bm (vLoad s.P 3 v39 h40) h40 fun v41 h42 =>
  bm (vBin s.P .add 3 v41 (V.lit (Value.int .i64 1))) h42 fun v43 h44 =>
  bm (vFieldAddr s.P 55 v30 1) h44 fun v45 h46 =>
  bs (vStore s.P wl 3 v45 v43 h46) fun h47 =>
  runK (xX s 40 wl k false) (bodyK s.P Try.f40) xk40_0 .norm ⟨[t0, t1, uu, uu, v1, v5, v20, v30, t0, t1, v3, v8, v10, v12, uu, t1, t1, v14, v16, v18, v20, t1, t1, v22, v24, v26, v28, v33, v35, v37, v39, v41, v43, v45, uu, uu, uu, uu, uu, uu, uu, uu, uu, uu, uu, uu, uu, uu, uu], h47⟩) (
  runK (xX s 40 wl k false) (bodyK s.P Try.f40) xk40_0 .norm ⟨[t0, t1, uu, uu, v1, v5, v20, v30, t0, t1, v3, v8, v10, v12, uu, t1, t1, v14, v16, v18, v20, t1, t1, v22, v24, v26, v28, v33, v35, v37, uu, uu, uu, uu, uu, uu, uu, uu, uu, uu, uu, uu, uu, uu, uu, uu, uu, uu, uu], h38⟩)) :=
  bodyV_run rfl (go_seq (go_reg0
  (go_op0 rfl rfl (st_bp (by kernel_rfl) fun v1 h2 =>
  (go_end0 (by kernel_rfl)
  (go_seq (go_reg0
  (go_op0 rfl rfl (st_id (v := t0) (H := h2) (by kernel_rfl)
  (go_op0 rfl rfl (st_id (v := t1) (H := h2) (by kernel_rfl)
  (go_op0 rfl rfl (st_bp (by kernel_rfl) fun v3 h4 =>
  (go_op0 rfl rfl (st_bp (by kernel_rfl) fun v5 h6 =>
  (go_op0 rfl rfl (st_bs (by kernel_rfl) fun h7 =>
  (go_end0 (by kernel_rfl)
  (go_seq (go_seq (go_reg0
  (go_op0 rfl rfl (st_bm (by kernel_rfl) fun v8 h9 =>
  (go_op0 rfl rfl (st_bm (by kernel_rfl) fun v10 h11 =>
  (go_op0 rfl rfl (st_bm (by kernel_rfl) fun v12 h13 =>
  (go_end0 (by kernel_rfl)
  (go_cond (by kernel_rfl)
  (go_seq (go_reg0
  (go_op0 rfl rfl (st_id (v := t1) (H := h13) (by kernel_rfl)
  (go_op0 rfl rfl (st_id (v := t1) (H := h13) (by kernel_rfl)
  (go_end0 (by kernel_rfl)
  (go_ret (rt_seq_ret (by kernel_rfl))))))))))
  (go_skip (go_seq (go_reg0
  (go_op0 rfl rfl (st_id (v := t1) (H := h13) (by kernel_rfl)
  (go_op0 rfl rfl (st_id (v := t1) (H := h13) (by kernel_rfl)
  (go_op0 rfl rfl (st_bp (by kernel_rfl) fun v14 h15 =>
  (go_op0 rfl rfl (st_bm (by kernel_rfl) fun v16 h17 =>
  (go_op0 rfl rfl (st_bp (by kernel_rfl) fun v18 h19 =>
  (go_op0 rfl rfl (st_bp (by kernel_rfl) fun v20 h21 =>
  (go_op0 rfl rfl (st_id (v := v20) (H := h21) (by kernel_rfl)
  (go_end0 (by kernel_rfl)
  (go_seq (go_reg0
  (go_op0 rfl rfl (st_id (v := t1) (H := h21) (by kernel_rfl)
  (go_op0 rfl rfl (st_id (v := t1) (H := h21) (by kernel_rfl)
  (go_op0 rfl rfl (st_bp (by kernel_rfl) fun v22 h23 =>
  (go_op0 rfl rfl (st_bm (by kernel_rfl) fun v24 h25 =>
  (go_op0 rfl rfl (st_bm (by kernel_rfl) fun v26 h27 =>
  (go_op0 rfl rfl (st_bm (by kernel_rfl) fun v28 h29 =>
  (go_op0 rfl rfl (st_bp (by kernel_rfl) fun v30 h31 =>
  (go_op0 rfl rfl (st_bs (by kernel_rfl) fun h32 =>
  (go_end0 (by kernel_rfl)
  (go_seq (go_seq (go_reg0
  (go_op0 rfl rfl (st_bm (by kernel_rfl) fun v33 h34 =>
  (go_op0 rfl rfl (st_bm (by kernel_rfl) fun v35 h36 =>
  (go_op0 rfl rfl (st_bm (by kernel_rfl) fun v37 h38 =>
  (go_end0 (by kernel_rfl)
  (go_cond (by kernel_rfl)
  (go_reg0
  (go_op0 rfl rfl (st_bm (by kernel_rfl) fun v39 h40 =>
  (go_op0 rfl rfl (st_bm (by kernel_rfl) fun v41 h42 =>
  (go_op0 rfl rfl (st_bm (by kernel_rfl) fun v43 h44 =>
  (go_op0 rfl rfl (st_bm (by kernel_rfl) fun v45 h46 =>
  (go_op0 rfl rfl (st_bs (by kernel_rfl) fun h47 =>
  (go_end0 (by kernel_rfl)
  (by kernel_rfl)))))))))))))
  (go_skip (by kernel_rfl)))))))))))))))))))))))))))))))))))))))))))))))))))))))))))))))))))))))))))))))
theorem xe40 (k wl : Nat) (t0 t1 : V) (h : Hp) : evF Try.prog xM (k + 1) wl 40 [t0, t1] h = bodyV (xX (xS k) 40 wl k false) Try.f40 [t0, t1] h := by kernel_rfl
theorem xj40_0 (s : Sys) (k wl : Nat) (t0 t1 t2 t3 t4 t5 t6 t7 t8 t9 t10 t11 t12 t13 t14 t15 t16 t17 t18 t19 t20 t21 t22 t23 t24 t25 t26 t27 t28 t29 t30 t31 t32 t33 t34 t35 t36 t37 t38 t39 t40 t41 t42 t43 t44 t45 t46 t47 t48 : V) (h : Hp) : runK (xX s 40 wl k false) (bodyK s.P Try.f40) xk40_0 .norm ⟨[t0, t1, t2, t3, t4, t5, t6, t7, t8, t9, t10, t11, t12, t13, t14, t15, t16, t17, t18, t19, t20, t21, t22, t23, t24, t25, t26, t27, t28, t29, t30, t31, t32, t33, t34, t35, t36, t37, t38, t39, t40, t41, t42, t43, t44, t45, t46, t47, t48], h⟩ =
  bm (vFieldAddr s.P 49 t5 0) h fun v48 h49 =>
  bm (vLoad s.P 3 v48 h49) h49 fun v50 h51 =>
  bm (vBin s.P .eql 3 v50 (V.lit (Value.int .i64 2))) h51 fun v52 h53 =>
  cnd v52 (
  bm (vFieldAddr s.P 55 t7 2) h53 fun v54 h55 =>
  bm (vLoad s.P 3 v54 h55) h55 fun v56 h57 =>
  bm (vBin s.P .add 3 v56 (V.lit (Value.int .i64 1))) h57 fun v58 h59 =>
  bm (vFieldAddr s.P 55 t7 2) h59 fun v60 h61 =>
  bs (vStore s.P wl 3 v60 v58 h61) fun h62 =>
  runK (xX s 40 wl k false) (bodyK s.P Try.f40) xk40_1 .norm ⟨[t0, t1, t2, t3, t4, t5, t6, t7, t8, t9, t10, t11, t12, t13, t14, t15, t16, t17, t18, t19, t20, t21, t22, t23, t24, t25, t26, t27, t28, t29, t30, t31, t32, t33, v48, v50, v52, v54, v56, v58, v60, t41, t42, t43, t44, t45, t46, t47, t48], h62⟩) (
  runK (xX s 40 wl k false) (bodyK s.P Try.f40) xk40_1 .norm ⟨[t0, t1, t2, t3, t4, t5, t6, t7, t8, t9, t10, t11, t12, t13, t14, t15, t16, t17, t18, t19, t20, t21, t22, t23, t24, t25, t26, t27, t28, t29, t30, t31, t32, t33, v48, v50, v52, t37, t38, t39, t40, t41, t42, t43, t44, t45, t46, t47, t48], h53⟩) :=
  (go_seq (go_seq (go_reg0
  (go_op0 rfl rfl (st_bm (by kernel_rfl) fun v48 h49 =>
  (go_op0 rfl rfl (st_bm (by kernel_rfl) fun v50 h51 =>
  (go_op0 rfl rfl (st_bm (by kernel_rfl) fun v52 h53 =>
  (go_end0 (by kernel_rfl)
  (go_cond (by kernel_rfl)
  (go_reg0
  (go_op0 rfl rfl (st_bm (by kernel_rfl) fun v54 h55 =>
  (go_op0 rfl rfl (st_bm (by kernel_rfl) fun v56 h57 =>
  (go_op0 rfl rfl (st_bm (by kernel_rfl) fun v58 h59 =>
  (go_op0 rfl rfl (st_bm (by kernel_rfl) fun v60 h61 =>
  (go_op0 rfl rfl (st_bs (by kernel_rfl) fun h62 =>
  (go_end0 (by kernel_rfl)
  (by kernel_rfl)))))))))))))
  (go_skip (by kernel_rfl)))))))))))))
theorem xj40_1 (s : Sys) (k wl : Nat) (t0 t1 t2 t3 t4 t5 t6 t7 t8 t9 t10 t11 t12 t13 t14 t15 t16 t17 t18 t19 t20 t21 t22 t23 t24 t25 t26 t27 t28 t29 t30 t31 t32 t33 t34 t35 t36 t37 t38 t39 t40 t41 t42 t43 t44 t45 t46 t47 t48 : V) (h : Hp) : runK (xX s 40 wl k false) (bodyK s.P Try.f40) xk40_1 .norm ⟨[t0, t1, t2, t3, t4, t5, t6, t7, t8, t9, t10, t11, t12, t13, t14, t15, t16, t17, t18, t19, t20, t21, t22, t23, t24, t25, t26, t27, t28, t29, t30, t31, t32, t33, t34, t35, t36, t37, t38, t39, t40, t41, t42, t43, t44, t45, t46, t47, t48], h⟩ =
  bm (vFieldAddr s.P 49 t5 0) h fun v63 h64 =>
  bm (vLoad s.P 3 v63 h64) h64 fun v65 h66 =>
  bm (vBin s.P .eql 3 v65 (V.lit (Value.int .i64 3))) h66 fun v67 h68 =>
  cnd v67 (
  some (t6, h68)) (
  bm (vLoad s.P 55 t7 h68) h68 fun v69 h70 =>
  bp (vBuildSlice s.P wl 43 1 [(0, v69)] h70) fun v71 h72 =>
  bp (opApp s.P wl 43 43 t6 v71 h72) fun v73 h74 =>
  some (v73, h74)) :=
  (go_seq (go_seq (go_reg0
  (go_op0 rfl rfl (st_bm (by kernel_rfl) fun v63 h64 =>
  (go_op0 rfl rfl (st_bm (by kernel_rfl) fun v65 h66 =>
  (go_op0 rfl rfl (st_bm (by kernel_rfl) fun v67 h68 =>
  (go_end0 (by kernel_rfl)
  (go_cond (by kernel_rfl)
  (go_seq (go_reg0
  (go_op0 rfl rfl (st_id (v := t6) (H := h68) (by kernel_rfl)
  (go_op0 rfl rfl (st_id (v := t6) (H := h68) (by kernel_rfl)
  (go_end0 (by kernel_rfl)
  (go_ret (rt_seq_ret (by kernel_rfl))))))))))
  (go_skip (go_seq (go_reg0
  (go_op0 rfl rfl (st_id (v := t6) (H := h68) (by kernel_rfl)
  (go_op0 rfl rfl (st_bm (by kernel_rfl) fun v69 h70 =>
  (go_op0 rfl rfl (st_bp (by kernel_rfl) fun v71 h72 =>
  (go_op0 rfl rfl (st_bp (by kernel_rfl) fun v73 h74 =>
  (go_op0 rfl rfl (st_id (v := v73) (H := h74) (by kernel_rfl)
  (go_end0 (by kernel_rfl)
  (go_ret (by kernel_rfl)))))))))))))))))))))))))))
theorem xk40_0_ret (cx : Cx) (K : Out → St → Option (V × Hp)) (s : St) : runK cx K xk40_0 .ret s = K .ret s := by kernel_rfl
theorem xk40_1_ret (cx : Cx) (K : Out → St → Option (V × Hp)) (s : St) : runK cx K xk40_1 .ret s = K .ret s := by kernel_rfl
-- names: xb40, xj40_0, xj40_1, xk40_0_ret, xk40_1_ret
/-! 41 poacher/think.Start: 0 t, 1 s, 2 k, 3 t, 4 s, 5 k, 7 own -/
noncomputable def xg41_0 : Code := codeAt (bodyOf Try.f41) [1, 1, 0, 0]
noncomputable def xk41_0 : List Fr := [.seq (codeAt (bodyOf Try.f41) [1, 1, 0, 1]), .seq (codeAt (bodyOf Try.f41) [1, 1, 1])]
theorem xb41 (s : Sys) (k wl : Nat) (t0 t1 t2 : V) (h : Hp) : bodyV (xX s 41 wl k false) Try.f41 [t0, t1, t2] h =
  bp (some (.own h.length 0 0, h ++ [.rows 0 [] 0 true])) fun v1 h2 =>
  bp (callV (xX s 41 wl k false) false true (.fn (.func 71) [] []) [t1] h2) fun v3 h4 =>
  bp (callV (xX s 41 wl k false) false true (.fn (.func 48) [] []) [t0, t1] h4) fun v5 h6 =>
  bm (vUn .not v5) h6 fun v7 h8 =>
  gd v7 (
  opsP (xX s 41 wl k false) xg41_0 11 h4.length ([], []) (runK (xX s 41 wl k false) (bodyK s.P Try.f41) xk41_0) ⟨[t0, t1, t2, uu, uu, uu, v1, v3, t1, v3, t0, t1, v5, v7, (V.lit (Value.bool true)), uu, uu, uu, uu, uu, uu, uu, uu, uu, uu, uu, uu, uu], h8⟩) (
  bp (opLen s.P 22 t0 h8) fun v9 h10 =>
  bm (vBin s.P .sub 3 v9 (V.lit (Value.int .i64 1))) h10 fun v11 h12 =>
  bp (callV (xX s 41 wl k false) false true (.fn (.func 73) [] []) [t2, v11] h12) fun v13 h14 =>
  bm (vUn .not v13) h14 fun v15 h16 =>
  opsP (xX s 41 wl k false) xg41_0 11 h4.length ([], []) (runK (xX s 41 wl k false) (bodyK s.P Try.f41) xk41_0) ⟨[t0, t1, t2, uu, uu, uu, v1, v3, t1, v3, t0, t1, v5, v7, (V.lit (Value.bool false)), t2, t0, v9, v11, v13, v15, uu, uu, uu, uu, uu, uu, uu], h16⟩) (
  opsP (xX s 41 wl k false) xg41_0 6 h4.length ([], []) (runK (xX s 41 wl k false) (bodyK s.P Try.f41) xk41_0) ⟨[t0, t1, t2, uu, uu, uu, v1, v3, t1, v3, t0, t1, v5, v7, v7, uu, uu, uu, uu, uu, uu, uu, uu, uu, uu, uu, uu, uu], h8⟩) :=
  bodyV_run rfl (go_seq (go_reg0
  (go_op0 rfl rfl (st_bp (by kernel_rfl) fun v1 h2 =>
  (go_end0 (by kernel_rfl)
  (go_seq (go_reg0
  (go_op0 rfl rfl (st_id (v := t1) (H := h2) (by kernel_rfl)
  (go_op0 rfl rfl (st_bp (by kernel_rfl) fun v3 h4 =>
  (go_op0 rfl rfl (st_id (v := v3) (H := h4) (by kernel_rfl)
  (go_end0 (by kernel_rfl)
  (go_seq (go_seq (go_reg0
  (go_op0 rfl rfl (st_id (v := t0) (H := h4) (by kernel_rfl)
  (go_op0 rfl rfl (st_id (v := t1) (H := h4) (by kernel_rfl)
  (go_op0 rfl rfl (st_bp (by kernel_rfl) fun v5 h6 =>
  (go_op0 rfl rfl (st_bm (by kernel_rfl) fun v7 h8 =>
  (go_op0 rfl rfl (st_id (v := v7) (H := h8) (by kernel_rfl)
  (go_gdF0 rfl rfl rfl (by kernel_rfl)
  (go_skip0 rfl rfl rfl (by kernel_rfl)
  (go_skip0 rfl rfl rfl (by kernel_rfl)
  (go_skip0 rfl rfl rfl (by kernel_rfl)
  (go_skip0 rfl rfl rfl (by kernel_rfl)
  (go_skip0 rfl rfl rfl (by kernel_rfl)
  (by kernel_rfl))))))
  (st_id (v := t2) (H := h8) (by kernel_rfl)
  (go_run0 rfl rfl rfl (by kernel_rfl) (st_id (v := t0) (H := h8) (by kernel_rfl)
  (go_run0 rfl rfl rfl (by kernel_rfl) (st_bp (by kernel_rfl) fun v9 h10 =>
  (go_run0 rfl rfl rfl (by kernel_rfl) (st_bm (by kernel_rfl) fun v11 h12 =>
  (go_run0 rfl rfl rfl (by kernel_rfl) (st_bp (by kernel_rfl) fun v13 h14 =>
  (go_run0 rfl rfl rfl (by kernel_rfl) (st_bm (by kernel_rfl) fun v15 h16 =>
  (by kernel_rfl))))))))))))
  (by kernel_rfl)))))))))))))))))))))))))))))
theorem xe41 (k wl : Nat) (t0 t1 t2 : V) (h : Hp) : evF Try.prog xM (k + 1) wl 41 [t0, t1, t2] h = bodyV (xX (xS k) 41 wl k false) Try.f41 [t0, t1, t2] h := by kernel_rfl
theorem xm41_0 (s : Sys) (k wl : Nat) (m0 : Nat) (ac : List Nat × List Nat) (t0 t1 t2 t3 t4 t5 t6 t7 t8 t9 t10 t11 t12 t13 t14 t15 t16 t17 t18 t19 t20 t21 t22 t23 t24 t25 t26 t27 : V) (h : Hp) : opsP (xX s 41 wl k false) xg41_0 11 m0 ac (runK (xX s 41 wl k false) (bodyK s.P Try.f41) xk41_0) ⟨[t0, t1, t2, t3, t4, t5, t6, t7, t8, t9, t10, t11, t12, t13, t14, t15, t16, t17, t18, t19, t20, t21, t22, t23, t24, t25, t26, t27], h⟩ =
  bm (vPick t14 (V.lit (Value.bool true)) t20) h fun v17 h18 =>
  cnd v17 (
  some (t7, h18)) (
  bm (vBuild s.P 55 [(0, t2)]) h18 fun v19 h20 =>
  bp (vBuildSlice s.P wl 43 1 [(0, v19)] h20) fun v21 h22 =>
  bp (opApp s.P wl 43 43 t7 v21 h22) fun v23 h24 =>
  some (v23, h24)) :=
  (go_op0 rfl rfl (st_bm (by kernel_rfl) fun v17 h18 =>
  (go_end0 (by kernel_rfl)
  (go_cond (by kernel_rfl)
  (go_seq (go_reg0
  (go_op0 rfl rfl (st_id (v := t7) (H := h18) (by kernel_rfl)
  (go_op0 rfl rfl (st_id (v := t7) (H := h18) (by kernel_rfl)
  (go_end0 (by kernel_rfl)
  (go_ret (rt_seq_ret (by kernel_rfl))))))))))
  (go_skip (go_seq (go_reg0
  (go_op0 rfl rfl (st_id (v := t7) (H := h18) (by kernel_rfl)
  (go_op0 rfl rfl (st_id (v := t2) (H := h18) (by kernel_rfl)
  (go_op0 rfl rfl (st_bm (by kernel_rfl) fun v19 h20 =>
  (go_op0 rfl rfl (st_bp (by kernel_rfl) fun v21 h22 =>
  (go_op0 rfl rfl (st_bp (by kernel_rfl) fun v23 h24 =>
  (go_op0 rfl rfl (st_id (v := v23) (H := h24) (by kernel_rfl)
  (go_end0 (by kernel_rfl)
  (go_ret (by kernel_rfl))))))))))))))))))))))
theorem xk41_0_ret (cx : Cx) (K : Out → St → Option (V × Hp)) (s : St) : runK cx K xk41_0 .ret s = K .ret s := by kernel_rfl
-- names: xb41, xm41_0, xk41_0_ret
/-! 42 poacher/poacherref17.Start: 0 t, 1 s, 2 k, 3 t, 4 s, 5 k, 7 may -/
noncomputable def xg42_0 : Code := codeAt (bodyOf Try.f42) [1, 1, 0, 0]
noncomputable def xk42_0 : List Fr := [.seq (codeAt (bodyOf Try.f42) [1, 1, 0, 1]), .seq (codeAt (bodyOf Try.f42) [1, 1, 1])]
theorem xb42 (s : Sys) (k wl : Nat) (t0 t1 t2 : V) (h : Hp) : bodyV (xX s 42 wl k false) Try.f42 [t0, t1, t2] h =
  bp (some (.own h.length 0 0, h ++ [.rows 0 [] 0 true])) fun v1 h2 =>
  bp (callV (xX s 42 wl k false) false true (.fn (.func 43) [] []) [t0, t1] h2) fun v3 h4 =>
  bm (vUn .not v3) h4 fun v5 h6 =>
  gd v5 (
  opsP (xX s 42 wl k false) xg42_0 5 h4.length ([], []) (runK (xX s 42 wl k false) (bodyK s.P Try.f42) xk42_0) ⟨[t0, t1, t2, uu, uu, uu, v1, v3, t0, t1, v3, v3, v5, (V.lit (Value.bool true)), uu, uu, uu, uu, uu, uu, uu, uu, uu, uu, uu, uu, uu, uu, uu, uu], h6⟩) (
  bm (vBin s.P .lss 3 t2 (V.lit (Value.int .i64 0))) h6 fun v7 h8 =>
  opsP (xX s 42 wl k false) xg42_0 5 h4.length ([], []) (runK (xX s 42 wl k false) (bodyK s.P Try.f42) xk42_0) ⟨[t0, t1, t2, uu, uu, uu, v1, v3, t0, t1, v3, v3, v5, (V.lit (Value.bool false)), t2, v7, uu, uu, uu, uu, uu, uu, uu, uu, uu, uu, uu, uu, uu, uu], h8⟩) (
  opsP (xX s 42 wl k false) xg42_0 4 h4.length ([], []) (runK (xX s 42 wl k false) (bodyK s.P Try.f42) xk42_0) ⟨[t0, t1, t2, uu, uu, uu, v1, v3, t0, t1, v3, v3, v5, v5, uu, uu, uu, uu, uu, uu, uu, uu, uu, uu, uu, uu, uu, uu, uu, uu], h6⟩) :=
  bodyV_run rfl (go_seq (go_reg0
  (go_op0 rfl rfl (st_bp (by kernel_rfl) fun v1 h2 =>
  (go_end0 (by kernel_rfl)
  (go_seq (go_reg0
  (go_op0 rfl rfl (st_id (v := t0) (H := h2) (by kernel_rfl)
  (go_op0 rfl rfl (st_id (v := t1) (H := h2) (by kernel_rfl)
  (go_op0 rfl rfl (st_bp (by kernel_rfl) fun v3 h4 =>
  (go_op0 rfl rfl (st_id (v := v3) (H := h4) (by kernel_rfl)
  (go_end0 (by kernel_rfl)
  (go_seq (go_seq (go_reg0
  (go_op0 rfl rfl (st_id (v := v3) (H := h4) (by kernel_rfl)
  (go_op0 rfl rfl (st_bm (by kernel_rfl) fun v5 h6 =>
  (go_op0 rfl rfl (st_id (v := v5) (H := h6) (by kernel_rfl)
  (go_gdF0 rfl rfl rfl (by kernel_rfl)
  (go_skip0 rfl rfl rfl (by kernel_rfl)
  (by kernel_rfl))
  (st_id (v := t2) (H := h6) (by kernel_rfl)
  (go_run0 rfl rfl rfl (by kernel_rfl) (st_bm (by kernel_rfl) fun v7 h8 =>
  (by kernel_rfl))))
  (by kernel_rfl)))))))))))))))))))))))))))
theorem xe42 (k wl : Nat) (t0 t1 t2 : V) (h : Hp) : evF Try.prog xM (k + 1) wl 42 [t0, t1, t2] h = bodyV (xX (xS k) 42 wl k false) Try.f42 [t0, t1, t2] h := by kernel_rfl
theorem xm42_0 (s : Sys) (k wl : Nat) (m0 : Nat) (ac : List Nat × List Nat) (t0 t1 t2 t3 t4 t5 t6 t7 t8 t9 t10 t11 t12 t13 t14 t15 t16 t17 t18 t19 t20 t21 t22 t23 t24 t25 t26 t27 t28 t29 : V) (h : Hp) : opsP (xX s 42 wl k false) xg42_0 5 m0 ac (runK (xX s 42 wl k false) (bodyK s.P Try.f42) xk42_0) ⟨[t0, t1, t2, t3, t4, t5, t6, t7, t8, t9, t10, t11, t12, t13, t14, t15, t16, t17, t18, t19, t20, t21, t22, t23, t24, t25, t26, t27, t28, t29], h⟩ =
  bm (vPick t13 (V.lit (Value.bool true)) t15) h fun v9 h10 =>
  gd v9 (
  opsP (xX s 42 wl k false) xg42_0 11 m0 ac (runK (xX s 42 wl k false) (bodyK s.P Try.f42) xk42_0) ⟨[t0, t1, t2, t3, t4, t5, t6, t7, t8, t9, t10, t11, t12, t13, t14, t15, v9, (V.lit (Value.bool true)), uu, uu, uu, uu, t22, t23, t24, t25, t26, t27, t28, t29], h10⟩) (
  bp (opLen s.P 22 t0 h10) fun v11 h12 =>
  bm (vBin s.P .geq 3 t2 v11) h12 fun v13 h14 =>
  opsP (xX s 42 wl k false) xg42_0 11 m0 ac (runK (xX s 42 wl k false) (bodyK s.P Try.f42) xk42_0) ⟨[t0, t1, t2, t3, t4, t5, t6, t7, t8, t9, t10, t11, t12, t13, t14, t15, v9, (V.lit (Value.bool false)), t2, t0, v11, v13, t22, t23, t24, t25, t26, t27, t28, t29], h14⟩) (
  opsP (xX s 42 wl k false) xg42_0 8 m0 ac (runK (xX s 42 wl k false) (bodyK s.P Try.f42) xk42_0) ⟨[t0, t1, t2, t3, t4, t5, t6, t7, t8, t9, t10, t11, t12, t13, t14, t15, v9, v9, uu, t19, t20, t21, t22, t23, t24, t25, t26, t27, t28, t29], h10⟩) :=
  (go_op0 rfl rfl (st_bm (by kernel_rfl) fun v9 h10 =>
  (go_op0 rfl rfl (st_id (v := v9) (H := h10) (by kernel_rfl)
  (go_gdF0 rfl rfl rfl (by kernel_rfl)
  (go_skip0 rfl rfl rfl (by kernel_rfl)
  (go_skip0 rfl rfl rfl (by kernel_rfl)
  (go_skip0 rfl rfl rfl (by kernel_rfl)
  (by kernel_rfl))))
  (st_id (v := t2) (H := h10) (by kernel_rfl)
  (go_run0 rfl rfl rfl (by kernel_rfl) (st_id (v := t0) (H := h10) (by kernel_rfl)
  (go_run0 rfl rfl rfl (by kernel_rfl) (st_bp (by kernel_rfl) fun v11 h12 =>
  (go_run0 rfl rfl rfl (by kernel_rfl) (st_bm (by kernel_rfl) fun v13 h14 =>
  (by kernel_rfl))))))))
  (by kernel_rfl))))))
theorem xm42_1 (s : Sys) (k wl : Nat) (m0 : Nat) (ac : List Nat × List Nat) (t0 t1 t2 t3 t4 t5 t6 t7 t8 t9 t10 t11 t12 t13 t14 t15 t16 t17 t18 t19 t20 t21 t22 t23 t24 t25 t26 t27 t28 t29 : V) (h : Hp) : opsP (xX s 42 wl k false) xg42_0 11 m0 ac (runK (xX s 42 wl k false) (bodyK s.P Try.f42) xk42_0) ⟨[t0, t1, t2, t3, t4, t5, t6, t7, t8, t9, t10, t11, t12, t13, t14, t15, t16, t17, t18, t19, t20, t21, t22, t23, t24, t25, t26, t27, t28, t29], h⟩ =
  bm (vPick t17 (V.lit (Value.bool true)) t21) h fun v15 h16 =>
  cnd v15 (
  some (t1, h16)) (
  bp (opApp s.P wl 43 43 .nil t1 h16) fun v17 h18 =>
  bm (vBuild s.P 55 [(0, t2)]) h18 fun v19 h20 =>
  bp (vBuildSlice s.P wl 43 1 [(0, v19)] h20) fun v21 h22 =>
  bp (opApp s.P wl 43 43 v17 v21 h22) fun v23 h24 =>
  some (v23, h24)) :=
  (go_op0 rfl rfl (st_bm (by kernel_rfl) fun v15 h16 =>
  (go_end0 (by kernel_rfl)
  (go_cond (by kernel_rfl)
  (go_seq (go_reg0
  (go_op0 rfl rfl (st_id (v := t1) (H := h16) (by kernel_rfl)
  (go_op0 rfl rfl (st_id (v := t1) (H := h16) (by kernel_rfl)
  (go_end0 (by kernel_rfl)
  (go_ret (rt_seq_ret (by kernel_rfl))))))))))
  (go_skip (go_seq (go_reg0
  (go_op0 rfl rfl (st_id (v := t1) (H := h16) (by kernel_rfl)
  (go_op0 rfl rfl (st_bp (by kernel_rfl) fun v17 h18 =>
  (go_op0 rfl rfl (st_id (v := t2) (H := h18) (by kernel_rfl)
  (go_op0 rfl rfl (st_bm (by kernel_rfl) fun v19 h20 =>
  (go_op0 rfl rfl (st_bp (by kernel_rfl) fun v21 h22 =>
  (go_op0 rfl rfl (st_bp (by kernel_rfl) fun v23 h24 =>
  (go_op0 rfl rfl (st_id (v := v23) (H := h24) (by kernel_rfl)
  (go_end0 (by kernel_rfl)
  (go_ret (by kernel_rfl))))))))))))))))))))))))
theorem xk42_0_ret (cx : Cx) (K : Out → St → Option (V × Hp)) (s : St) : runK cx K xk42_0 .ret s = K .ret s := by kernel_rfl
-- names: xb42, xm42_0, xm42_1, xk42_0_ret
/-! 43 poacher/poacherref17.May: 0 t, 1 s, 2 t, 3 s, 5 may, 6 i, 7 k -/
noncomputable def xl43_0 : Code := codeAt (bodyOf Try.f43) [1, 1, 1, 0, 1, 0, 0]
noncomputable def xk43_0 : List Fr := [.block 0, .seq (codeAt (bodyOf Try.f43) [1, 1, 1, 1])]
noncomputable def xg43_0 : Code := codeAt (bodyOf Try.f43) [1, 1, 1, 0, 1, 0, 0, 1, 0, 0, 1, 0, 0]
noncomputable def xk43_1 : List Fr := [.seq (codeAt (bodyOf Try.f43) [1, 1, 1, 0, 1, 0, 0, 1, 0, 0, 1, 0, 1]), .seq (codeAt (bodyOf Try.f43) [1, 1, 1, 0, 1, 0, 0, 1, 0, 0, 1, 1]), .block 1, .seq (codeAt (bodyOf Try.f43) [1, 1, 1, 0, 1, 0, 0, 1, 1])]
noncomputable def xg43_1 : Code := codeAt (bodyOf Try.f43) [1, 1, 1, 0, 1, 0, 0, 1, 0, 0, 1, 1, 0]
noncomputable def xk43_2 : List Fr := [.seq (codeAt (bodyOf Try.f43) [1, 1, 1, 0, 1, 0, 0, 1, 0, 0, 1, 1, 1]), .block 1, .seq (codeAt (bodyOf Try.f43) [1, 1, 1, 0, 1, 0, 0, 1, 1])]
theorem xo43_8 : orderIx (opsOf xg43_0) = [0, 1, 2, 3, 4, 5, 6, 7, 8, 9, 10, 11, 12, 13, 14, 15, 16, 17, 18, 19, 20, 21, 22, 23, 24, 25, 26, 27, 28, 29, 30, 31, 32, 33, 34, 35, 36, 37, 38, 39, 40, 41, 42, 43, 44, 45, 46, 47, 48, 49, 50] := by kernel_rfl
theorem xo43_8a : (rgOf (opsOf xg43_0)).any = false := by kernel_rfl
theorem xo43_8r : regOk (opsOf xg43_0) = true := by kernel_rfl
theorem xo43_10 : orderIx (opsOf xg43_1) = [0, 1, 2, 3, 4, 5, 6, 7, 8, 9, 10, 11, 12, 13, 14, 15, 16, 17, 18] := by kernel_rfl
theorem xo43_10a : (rgOf (opsOf xg43_1)).any = false := by kernel_rfl
theorem xo43_10r : regOk (opsOf xg43_1) = true := by kernel_rfl
theorem xb43 (s : Sys) (k wl : Nat) (t0 t1 : V) (h : Hp) : bodyV (xX s 43 wl k false) Try.f43 [t0, t1] h =
  bp (callV (xX s 43 wl k false) false true (.fn (.func 54) [] []) [t0] h) fun v1 h2 =>
  bm (vUn .not v1) h2 fun v3 h4 =>
  cnd v3 (
  some ((V.lit (Value.bool false)), h4)) (
  itX (xX s 43 wl k false) xl43_0 h4.length (runK (xX s 43 wl k false) (bodyK s.P Try.f43) xk43_0) k ⟨((V.kill h4.length t0) :: (V.kill h4.length t1) :: (V.kill h4.length uu) :: (V.kill h4.length uu) :: (V.lit (Value.bool false)) :: (V.kill h4.length v1) :: (V.lit (Value.int .i64 0)) :: (V.kill h4.length uu) :: (V.kill h4.length t0) :: (V.kill h4.length v1) :: (V.kill h4.length v1) :: (V.kill h4.length v3) :: .junk :: .junk :: .junk :: .junk :: .junk :: .junk :: .junk :: .junk :: .junk :: .junk :: .junk :: .junk :: .junk :: .junk :: .junk :: .junk :: .junk :: .junk :: .junk :: .junk :: .junk :: .junk :: .junk :: .junk :: .junk :: .junk :: .junk :: .junk :: .junk :: .junk :: .junk :: .junk :: .junk :: .junk :: .junk :: .junk :: .junk :: .junk :: .junk :: .junk :: .junk :: .junk :: .junk :: .junk :: .junk :: .junk :: .junk :: .junk :: .junk :: .junk :: .junk :: .junk :: .junk :: .junk :: .junk :: .junk :: .junk :: .junk :: .junk :: .junk :: .junk :: .junk :: .junk :: .junk :: .junk :: .junk :: .junk :: .junk :: .junk :: .junk :: .junk :: .junk :: .junk :: .junk :: .junk :: .junk :: .junk :: .junk :: .junk :: .junk :: .junk :: []), cutH h4.length h4⟩) :=
  bodyV_run rfl (go_seq (go_reg0
  (go_op0 rfl rfl (st_id (v := (V.lit (Value.bool false))) (H := h) (by kernel_rfl)
  (go_end0 (by kernel_rfl)
  (go_seq (go_reg0
  (go_op0 rfl rfl (st_id (v := t0) (H := h) (by kernel_rfl)
  (go_op0 rfl rfl (st_bp (by kernel_rfl) fun v1 h2 =>
  (go_op0 rfl rfl (st_id (v := v1) (H := h2) (by kernel_rfl)
  (go_end0 (by kernel_rfl)
  (go_seq (go_seq (go_reg0
  (go_op0 rfl rfl (st_id (v := v1) (H := h2) (by kernel_rfl)
  (go_op0 rfl rfl (st_bm (by kernel_rfl) fun v3 h4 =>
  (go_end0 (by kernel_rfl)
  (go_cond (by kernel_rfl)
  (go_seq (go_reg0
  (go_op0 rfl rfl (st_id (v := (V.lit (Value.bool false))) (H := h4) (by kernel_rfl)
  (go_end0 (by kernel_rfl)
  (go_ret (rt_seq_ret (by kernel_rfl))))))))
  (go_skip (go_seq (go_seq (go_reg0
  (go_op0 rfl rfl (st_id (v := (V.lit (Value.int .i64 0))) (H := h4) (by kernel_rfl)
  (go_end0 (by kernel_rfl)
  (go_block (by kernel_rfl))))))))))))))))))))))))))))))))
theorem xe43 (k wl : Nat) (t0 t1 : V) (h : Hp) : evF Try.prog xM (k + 1) wl 43 [t0, t1] h = bodyV (xX (xS k) 43 wl k false) Try.f43 [t0, t1] h := by kernel_rfl
theorem xz43 (P : Program) (t0 t1 t2 t3 t4 t5 t6 t7 t8 t9 t10 t11 t12 t13 t14 t15 t16 t17 t18 t19 t20 t21 t22 t23 t24 t25 t26 t27 t28 t29 t30 t31 t32 t33 t34 t35 t36 t37 t38 t39 t40 t41 t42 t43 t44 t45 t46 t47 t48 t49 t50 t51 t52 t53 t54 t55 t56 t57 t58 t59 t60 t61 t62 t63 t64 t65 t66 t67 t68 t69 t70 t71 t72 t73 t74 t75 t76 t77 t78 t79 t80 t81 t82 t83 t84 t85 t86 t87 t88 t89 t90 t91 t92 : V) (h : Hp) : bodyK P Try.f43 .ret ⟨(t0 :: t1 :: t2 :: t3 :: t4 :: t5 :: t6 :: t7 :: t8 :: t9 :: t10 :: t11 :: t12 :: t13 :: t14 :: t15 :: t16 :: t17 :: t18 :: t19 :: t20 :: t21 :: t22 :: t23 :: t24 :: t25 :: t26 :: t27 :: t28 :: t29 :: t30 :: t31 :: t32 :: t33 :: t34 :: t35 :: t36 :: t37 :: t38 :: t39 :: t40 :: t41 :: t42 :: t43 :: t44 :: t45 :: t46 :: t47 :: t48 :: t49 :: t50 :: t51 :: t52 :: t53 :: t54 :: t55 :: t56 :: t57 :: t58 :: t59 :: t60 :: t61 :: t62 :: t63 :: t64 :: t65 :: t66 :: t67 :: t68 :: t69 :: t70 :: t71 :: t72 :: t73 :: t74 :: t75 :: t76 :: t77 :: t78 :: t79 :: t80 :: t81 :: t82 :: t83 :: t84 :: t85 :: t86 :: t87 :: t88 :: t89 :: t90 :: t91 :: t92 :: []), h⟩ = some (t4, h) := by kernel_rfl
theorem xr43_0 (s : Sys) (K : Out → St → Option (V × Hp)) (k wl : Nat) (rd : Bool) (n n0 : Nat) (t0 t1 t2 t3 t4 t5 t6 t7 t8 t9 t10 t11 t12 t13 t14 t15 t16 t17 t18 t19 t20 t21 t22 t23 t24 t25 t26 t27 t28 t29 t30 t31 t32 t33 t34 t35 t36 t37 t38 t39 t40 t41 t42 t43 t44 t45 t46 t47 t48 t49 t50 t51 t52 t53 t54 t55 t56 t57 t58 t59 t60 t61 t62 t63 t64 t65 t66 t67 t68 t69 t70 t71 t72 t73 t74 t75 t76 t77 t78 t79 t80 t81 t82 t83 t84 t85 t86 t87 t88 t89 t90 t91 t92 : V) (h : Hp) : itX (xX s 43 wl k rd) xl43_0 n0 K (n + 1) ⟨(t0 :: t1 :: t2 :: t3 :: t4 :: t5 :: t6 :: t7 :: t8 :: t9 :: t10 :: t11 :: t12 :: t13 :: t14 :: t15 :: t16 :: t17 :: t18 :: t19 :: t20 :: t21 :: t22 :: t23 :: t24 :: t25 :: t26 :: t27 :: t28 :: t29 :: t30 :: t31 :: t32 :: t33 :: t34 :: t35 :: t36 :: t37 :: t38 :: t39 :: t40 :: t41 :: t42 :: t43 :: t44 :: t45 :: t46 :: t47 :: t48 :: t49 :: t50 :: t51 :: t52 :: t53 :: t54 :: t55 :: t56 :: t57 :: t58 :: t59 :: t60 :: t61 :: t62 :: t63 :: t64 :: t65 :: t66 :: t67 :: t68 :: t69 :: t70 :: t71 :: t72 :: t73 :: t74 :: t75 :: t76 :: t77 :: t78 :: t79 :: t80 :: t81 :: t82 :: t83 :: t84 :: t85 :: t86 :: t87 :: t88 :: t89 :: t90 :: t91 :: t92 :: []), h⟩ =
  bp (opLen s.P 43 t1 h) fun v5 h6 =>
  bm (vBin s.P .lss 3 t6 v5) h6 fun v7 h8 =>
  cnd v7 (
  bm (vIndexAddr s.P 43 t1 t6 h8) h8 fun v9 h10 =>
  bm (vFieldAddr s.P 55 v9 0) h10 fun v11 h12 =>
  bm (vLoad s.P 3 v11 h12) h12 fun v13 h14 =>
  bm (vBin s.P .lss 3 v13 (V.lit (Value.int .i64 0))) h14 fun v15 h16 =>
  gd v15 (
  opsP (xX s 43 wl k rd) xg43_0 7 h14.length ([], []) (runK (xX s 43 wl k rd) (nextK (xX s 43 wl k rd) xl43_0 n0 K n) xk43_1) ⟨(t0 :: t1 :: t2 :: t3 :: t4 :: t5 :: t6 :: v13 :: t8 :: t9 :: t10 :: t11 :: t6 :: t1 :: v5 :: v7 :: t16 :: t17 :: t1 :: t6 :: v9 :: v11 :: v13 :: v13 :: v15 :: (V.lit (Value.bool true)) :: uu :: uu :: uu :: uu :: t30 :: t31 :: t32 :: t33 :: t34 :: t35 :: t36 :: t37 :: t38 :: t39 :: t40 :: t41 :: t42 :: t43 :: t44 :: t45 :: t46 :: t47 :: t48 :: t49 :: t50 :: t51 :: t52 :: t53 :: t54 :: t55 :: t56 :: t57 :: t58 :: t59 :: t60 :: t61 :: t62 :: t63 :: t64 :: t65 :: t66 :: t67 :: t68 :: t69 :: t70 :: t71 :: t72 :: t73 :: t74 :: t75 :: t76 :: t77 :: t78 :: t79 :: t80 :: t81 :: t82 :: t83 :: t84 :: t85 :: t86 :: t87 :: t88 :: t89 :: t90 :: t91 :: t92 :: []), h16⟩) (
  bp (opLen s.P 22 t0 h16) fun v17 h18 =>
  bm (vBin s.P .geq 3 v13 v17) h18 fun v19 h20 =>
  opsP (xX s 43 wl k rd) xg43_0 7 h14.length ([], []) (runK (xX s 43 wl k rd) (nextK (xX s 43 wl k rd) xl43_0 n0 K n) xk43_1) ⟨(t0 :: t1 :: t2 :: t3 :: t4 :: t5 :: t6 :: v13 :: t8 :: t9 :: t10 :: t11 :: t6 :: t1 :: v5 :: v7 :: t16 :: t17 :: t1 :: t6 :: v9 :: v11 :: v13 :: v13 :: v15 :: (V.lit (Value.bool false)) :: v13 :: t0 :: v17 :: v19 :: t30 :: t31 :: t32 :: t33 :: t34 :: t35 :: t36 :: t37 :: t38 :: t39 :: t40 :: t41 :: t42 :: t43 :: t44 :: t45 :: t46 :: t47 :: t48 :: t49 :: t50 :: t51 :: t52 :: t53 :: t54 :: t55 :: t56 :: t57 :: t58 :: t59 :: t60 :: t61 :: t62 :: t63 :: t64 :: t65 :: t66 :: t67 :: t68 :: t69 :: t70 :: t71 :: t72 :: t73 :: t74 :: t75 :: t76 :: t77 :: t78 :: t79 :: t80 :: t81 :: t82 :: t83 :: t84 :: t85 :: t86 :: t87 :: t88 :: t89 :: t90 :: t91 :: t92 :: []), h20⟩) (
  opsP (xX s 43 wl k rd) xg43_0 4 h14.length ([], []) (runK (xX s 43 wl k rd) (nextK (xX s 43 wl k rd) xl43_0 n0 K n) xk43_1) ⟨(t0 :: t1 :: t2 :: t3 :: t4 :: t5 :: t6 :: v13 :: t8 :: t9 :: t10 :: t11 :: t6 :: t1 :: v5 :: v7 :: t16 :: t17 :: t1 :: t6 :: v9 :: v11 :: v13 :: v13 :: v15 :: v15 :: uu :: t27 :: t28 :: t29 :: t30 :: t31 :: t32 :: t33 :: t34 :: t35 :: t36 :: t37 :: t38 :: t39 :: t40 :: t41 :: t42 :: t43 :: t44 :: t45 :: t46 :: t47 :: t48 :: t49 :: t50 :: t51 :: t52 :: t53 :: t54 :: t55 :: t56 :: t57 :: t58 :: t59 :: t60 :: t61 :: t62 :: t63 :: t64 :: t65 :: t66 :: t67 :: t68 :: t69 :: t70 :: t71 :: t72 :: t73 :: t74 :: t75 :: t76 :: t77 :: t78 :: t79 :: t80 :: t81 :: t82 :: t83 :: t84 :: t85 :: t86 :: t87 :: t88 :: t89 :: t90 :: t91 :: t92 :: []), h16⟩)) (
  K (.exit 0) ⟨((V.kill n0 t0) :: (V.kill n0 t1) :: (V.kill n0 t2) :: (V.kill n0 t3) :: (V.kill n0 t4) :: (V.kill n0 t5) :: (V.kill n0 t6) :: (V.kill n0 t7) :: (V.kill n0 t8) :: (V.kill n0 t9) :: (V.kill n0 t10) :: (V.kill n0 t11) :: .junk :: .junk :: .junk :: .junk :: .junk :: .junk :: .junk :: .junk :: .junk :: .junk :: .junk :: .junk :: .junk :: .junk :: .junk :: .junk :: .junk :: .junk :: .junk :: .junk :: .junk :: .junk :: .junk :: .junk :: .junk :: .junk :: .junk :: .junk :: .junk :: .junk :: .junk :: .junk :: .junk :: .junk :: .junk :: .junk :: .junk :: .junk :: .junk :: .junk :: .junk :: .junk :: .junk :: .junk :: .junk :: .junk :: .junk :: .junk :: .junk :: .junk :: .junk :: .junk :: .junk :: .junk :: .junk :: .junk :: .junk :: .junk :: .junk :: .junk :: .junk :: .junk :: .junk :: .junk :: .junk :: .junk :: .junk :: .junk :: .junk :: .junk :: .junk :: .junk :: .junk :: .junk :: .junk :: .junk :: .junk :: .junk :: .junk :: .junk :: .junk :: []), cutH n0 h8⟩) :=
  itX_step (go_seq (go_seq (go_reg0
  (go_op0 rfl rfl (st_id (v := t6) (H := h) (by kernel_rfl)
  (go_op0 rfl rfl (st_id (v := t1) (H := h) (by kernel_rfl)
  (go_op0 rfl rfl (st_bp (by kernel_rfl) fun v5 h6 =>
  (go_op0 rfl rfl (st_bm (by kernel_rfl) fun v7 h8 =>
  (go_end0 (by kernel_rfl)
  (go_cond (by kernel_rfl)
  (go_skip (go_seq (go_block (go_seq (go_reg0
  (go_op0 rfl rfl (st_id (v := t1) (H := h8) (by kernel_rfl)
  (go_op0 rfl rfl (st_id (v := t6) (H := h8) (by kernel_rfl)
  (go_op0 rfl rfl (st_bm (by kernel_rfl) fun v9 h10 =>
  (go_op0 rfl rfl (st_bm (by kernel_rfl) fun v11 h12 =>
  (go_op0 rfl rfl (st_bm (by kernel_rfl) fun v13 h14 =>
  (go_op0 rfl rfl (st_id (v := v13) (H := h14) (by kernel_rfl)
  (go_end0 (by kernel_rfl)
  (go_seq (go_seq (go_reg1 xo43_8r
  (go_op1 xo43_8 xo43_8a rfl rfl rfl (st_no (by kernel_rfl) (st_id (v := v13) (H := h14) (by kernel_rfl)
  (go_op1 xo43_8 xo43_8a rfl rfl rfl (st_no (by kernel_rfl) (st_bm (by kernel_rfl) fun v15 h16 =>
  (go_op1 xo43_8 xo43_8a rfl rfl rfl (st_no (by kernel_rfl) (st_id (v := v15) (H := h16) (by kernel_rfl)
  (go_gdF1 xo43_8 xo43_8a rfl rfl rfl rfl (by kernel_rfl)
  (go_skip1 xo43_8 rfl rfl rfl rfl (by kernel_rfl)
  (go_skip1 xo43_8 rfl rfl rfl rfl (by kernel_rfl)
  (go_skip1 xo43_8 rfl rfl rfl rfl (by kernel_rfl)
  (by kernel_rfl))))
  (st_no (by kernel_rfl) (st_id (v := v13) (H := h16) (by kernel_rfl)
  (go_run1 xo43_8 xo43_8a rfl rfl rfl rfl (by kernel_rfl) (st_no (by kernel_rfl) (st_id (v := t0) (H := h16) (by kernel_rfl)
  (go_run1 xo43_8 xo43_8a rfl rfl rfl rfl (by kernel_rfl) (st_no (by kernel_rfl) (st_bp (by kernel_rfl) fun v17 h18 =>
  (go_run1 xo43_8 xo43_8a rfl rfl rfl rfl (by kernel_rfl) (st_no (by kernel_rfl) (st_bm (by kernel_rfl) fun v19 h20 =>
  (by kernel_rfl))))))))))))
  (by kernel_rfl))))))))))))))))))))))))))))))))
  (go_exit (rt_seq_exit (by kernel_rfl))))))))))))))))
theorem xj43_0 (s : Sys) (k wl : Nat) (t0 t1 t2 t3 t4 t5 t6 t7 t8 t9 t10 t11 t12 t13 t14 t15 t16 t17 t18 t19 t20 t21 t22 t23 t24 t25 t26 t27 t28 t29 t30 t31 t32 t33 t34 t35 t36 t37 t38 t39 t40 t41 t42 t43 t44 t45 t46 t47 t48 t49 t50 t51 t52 t53 t54 t55 t56 t57 t58 t59 t60 t61 t62 t63 t64 t65 t66 t67 t68 t69 t70 t71 t72 t73 t74 t75 t76 t77 t78 t79 t80 t81 t82 t83 t84 t85 t86 t87 t88 t89 t90 t91 t92 : V) (h : Hp) : runK (xX s 43 wl k false) (bodyK s.P Try.f43) xk43_0 (.exit 0) ⟨(t0 :: t1 :: t2 :: t3 :: t4 :: t5 :: t6 :: t7 :: t8 :: t9 :: t10 :: t11 :: t12 :: t13 :: t14 :: t15 :: t16 :: t17 :: t18 :: t19 :: t20 :: t21 :: t22 :: t23 :: t24 :: t25 :: t26 :: t27 :: t28 :: t29 :: t30 :: t31 :: t32 :: t33 :: t34 :: t35 :: t36 :: t37 :: t38 :: t39 :: t40 :: t41 :: t42 :: t43 :: t44 :: t45 :: t46 :: t47 :: t48 :: t49 :: t50 :: t51 :: t52 :: t53 :: t54 :: t55 :: t56 :: t57 :: t58 :: t59 :: t60 :: t61 :: t62 :: t63 :: t64 :: t65 :: t66 :: t67 :: t68 :: t69 :: t70 :: t71 :: t72 :: t73 :: t74 :: t75 :: t76 :: t77 :: t78 :: t79 :: t80 :: t81 :: t82 :: t83 :: t84 :: t85 :: t86 :: t87 :: t88 :: t89 :: t90 :: t91 :: t92 :: []), h⟩ =
  some ((V.lit (Value.bool true)), h) :=
  (rt_block_eq (go_seq (go_reg0
  (go_op0 rfl rfl (st_id (v := (V.lit (Value.bool true))) (H := h) (by kernel_rfl)
  (go_end0 (by kernel_rfl)
  (go_ret (by kernel_rfl))))))))
theorem xm43_1 (s : Sys) (K : Out → St → Option (V × Hp)) (k wl : Nat) (rd : Bool) (n n0 : Nat) (m0 : Nat) (ac : List Nat × List Nat) (t0 t1 t2 t3 t4 t5 t6 t7 t8 t9 t10 t11 t12 t13 t14 t15 t16 t17 t18 t19 t20 t21 t22 t23 t24 t25 t26 t27 t28 t29 t30 t31 t32 t33 t34 t35 t36 t37 t38 t39 t40 t41 t42 t43 t44 t45 t46 t47 t48 t49 t50 t51 t52 t53 t54 t55 t56 t57 t58 t59 t60 t61 t62 t63 t64 t65 t66 t67 t68 t69 t70 t71 t72 t73 t74 t75 t76 t77 t78 t79 t80 t81 t82 t83 t84 t85 t86 t87 t88 t89 t90 t91 t92 : V) (h : Hp) : opsP (xX s 43 wl k rd) xg43_0 7 m0 ac (runK (xX s 43 wl k rd) (nextK (xX s 43 wl k rd) xl43_0 n0 K n) xk43_1) ⟨(t0 :: t1 :: t2 :: t3 :: t4 :: t5 :: t6 :: t7 :: t8 :: t9 :: t10 :: t11 :: t12 :: t13 :: t14 :: t15 :: t16 :: t17 :: t18 :: t19 :: t20 :: t21 :: t22 :: t23 :: t24 :: t25 :: t26 :: t27 :: t28 :: t29 :: t30 :: t31 :: t32 :: t33 :: t34 :: t35 :: t36 :: t37 :: t38 :: t39 :: t40 :: t41 :: t42 :: t43 :: t44 :: t45 :: t46 :: t47 :: t48 :: t49 :: t50 :: t51 :: t52 :: t53 :: t54 :: t55 :: t56 :: t57 :: t58 :: t59 :: t60 :: t61 :: t62 :: t63 :: t64 :: t65 :: t66 :: t67 :: t68 :: t69 :: t70 :: t71 :: t72 :: t73 :: t74 :: t75 :: t76 :: t77 :: t78 :: t79 :: t80 :: t81 :: t82 :: t83 :: t84 :: t85 :: t86 :: t87 :: t88 :: t89 :: t90 :: t91 :: t92 :: []), h⟩ =
  bm (vPick t25 (V.lit (Value.bool true)) t29) h fun v21 h22 =>
  gd v21 (
  opsP (xX s 43 wl k rd) xg43_0 15 m0 ac (runK (xX s 43 wl k rd) (nextK (xX s 43 wl k rd) xl43_0 n0 K n) xk43_1) ⟨(t0 :: t1 :: t2 :: t3 :: t4 :: t5 :: t6 :: t7 :: t8 :: t9 :: t10 :: t11 :: t12 :: t13 :: t14 :: t15 :: t16 :: t17 :: t18 :: t19 :: t20 :: t21 :: t22 :: t23 :: t24 :: t25 :: t26 :: t27 :: t28 :: t29 :: v21 :: (V.lit (Value.bool true)) :: uu :: uu :: uu :: uu :: uu :: uu :: t38 :: t39 :: t40 :: t41 :: t42 :: t43 :: t44 :: t45 :: t46 :: t47 :: t48 :: t49 :: t50 :: t51 :: t52 :: t53 :: t54 :: t55 :: t56 :: t57 :: t58 :: t59 :: t60 :: t61 :: t62 :: t63 :: t64 :: t65 :: t66 :: t67 :: t68 :: t69 :: t70 :: t71 :: t72 :: t73 :: t74 :: t75 :: t76 :: t77 :: t78 :: t79 :: t80 :: t81 :: t82 :: t83 :: t84 :: t85 :: t86 :: t87 :: t88 :: t89 :: t90 :: t91 :: t92 :: []), h22⟩) (
  bm (vIndexAddr s.P 43 t1 t6 h22) h22 fun v23 h24 =>
  bm (vFieldAddr s.P 55 v23 1) h24 fun v25 h26 =>
  bm (vLoad s.P 3 v25 h26) h26 fun v27 h28 =>
  bm (vBin s.P .lss 3 v27 (V.lit (Value.int .i64 0))) h28 fun v29 h30 =>
  opsP (xX s 43 wl k rd) xg43_0 15 m0 ac (runK (xX s 43 wl k rd) (nextK (xX s 43 wl k rd) xl43_0 n0 K n) xk43_1) ⟨(t0 :: t1 :: t2 :: t3 :: t4 :: t5 :: t6 :: t7 :: t8 :: t9 :: t10 :: t11 :: t12 :: t13 :: t14 :: t15 :: t16 :: t17 :: t18 :: t19 :: t20 :: t21 :: t22 :: t23 :: t24 :: t25 :: t26 :: t27 :: t28 :: t29 :: v21 :: (V.lit (Value.bool false)) :: t1 :: t6 :: v23 :: v25 :: v27 :: v29 :: t38 :: t39 :: t40 :: t41 :: t42 :: t43 :: t44 :: t45 :: t46 :: t47 :: t48 :: t49 :: t50 :: t51 :: t52 :: t53 :: t54 :: t55 :: t56 :: t57 :: t58 :: t59 :: t60 :: t61 :: t62 :: t63 :: t64 :: t65 :: t66 :: t67 :: t68 :: t69 :: t70 :: t71 :: t72 :: t73 :: t74 :: t75 :: t76 :: t77 :: t78 :: t79 :: t80 :: t81 :: t82 :: t83 :: t84 :: t85 :: t86 :: t87 :: t88 :: t89 :: t90 :: t91 :: t92 :: []), h30⟩) (
  opsP (xX s 43 wl k rd) xg43_0 10 m0 ac (runK (xX s 43 wl k rd) (nextK (xX s 43 wl k rd) xl43_0 n0 K n) xk43_1) ⟨(t0 :: t1 :: t2 :: t3 :: t4 :: t5 :: t6 :: t7 :: t8 :: t9 :: t10 :: t11 :: t12 :: t13 :: t14 :: t15 :: t16 :: t17 :: t18 :: t19 :: t20 :: t21 :: t22 :: t23 :: t24 :: t25 :: t26 :: t27 :: t28 :: t29 :: v21 :: v21 :: uu :: t33 :: t34 :: t35 :: t36 :: t37 :: t38 :: t39 :: t40 :: t41 :: t42 :: t43 :: t44 :: t45 :: t46 :: t47 :: t48 :: t49 :: t50 :: t51 :: t52 :: t53 :: t54 :: t55 :: t56 :: t57 :: t58 :: t59 :: t60 :: t61 :: t62 :: t63 :: t64 :: t65 :: t66 :: t67 :: t68 :: t69 :: t70 :: t71 :: t72 :: t73 :: t74 :: t75 :: t76 :: t77 :: t78 :: t79 :: t80 :: t81 :: t82 :: t83 :: t84 :: t85 :: t86 :: t87 :: t88 :: t89 :: t90 :: t91 :: t92 :: []), h22⟩) :=
  (go_op1 xo43_8 xo43_8a rfl rfl rfl (st_no (by kernel_rfl) (st_bm (by kernel_rfl) fun v21 h22 =>
  (go_op1 xo43_8 xo43_8a rfl rfl rfl (st_no (by kernel_rfl) (st_id (v := v21) (H := h22) (by kernel_rfl)
  (go_gdF1 xo43_8 xo43_8a rfl rfl rfl rfl (by kernel_rfl)
  (go_skip1 xo43_8 rfl rfl rfl rfl (by kernel_rfl)
  (go_skip1 xo43_8 rfl rfl rfl rfl (by kernel_rfl)
  (go_skip1 xo43_8 rfl rfl rfl rfl (by kernel_rfl)
  (go_skip1 xo43_8 rfl rfl rfl rfl (by kernel_rfl)
  (go_skip1 xo43_8 rfl rfl rfl rfl (by kernel_rfl)
  (by kernel_rfl))))))
  (st_no (by kernel_rfl) (st_id (v := t1) (H := h22) (by kernel_rfl)
  (go_run1 xo43_8 xo43_8a rfl rfl rfl rfl (by kernel_rfl) (st_no (by kernel_rfl) (st_id (v := t6) (H := h22) (by kernel_rfl)
  (go_run1 xo43_8 xo43_8a rfl rfl rfl rfl (by kernel_rfl) (st_no (by kernel_rfl) (st_bm (by kernel_rfl) fun v23 h24 =>
  (go_run1 xo43_8 xo43_8a rfl rfl rfl rfl (by kernel_rfl) (st_no (by kernel_rfl) (st_bm (by kernel_rfl) fun v25 h26 =>
  (go_run1 xo43_8 xo43_8a rfl rfl rfl rfl (by kernel_rfl) (st_no (by kernel_rfl) (st_bm (by kernel_rfl) fun v27 h28 =>
  (go_run1 xo43_8 xo43_8a rfl rfl rfl rfl (by kernel_rfl) (st_no (by kernel_rfl) (st_bm (by kernel_rfl) fun v29 h30 =>
  (by kernel_rfl))))))))))))))))))
  (by kernel_rfl))))))))
theorem xm43_2 (s : Sys) (K : Out → St → Option (V × Hp)) (k wl : Nat) (rd : Bool) (n n0 : Nat) (m0 : Nat) (ac : List Nat × List Nat) (t0 t1 t2 t3 t4 t5 t6 t7 t8 t9 t10 t11 t12 t13 t14 t15 t16 t17 t18 t19 t20 t21 t22 t23 t24 t25 t26 t27 t28 t29 t30 t31 t32 t33 t34 t35 t36 t37 t38 t39 t40 t41 t42 t43 t44 t45 t46 t47 t48 t49 t50 t51 t52 t53 t54 t55 t56 t57 t58 t59 t60 t61 t62 t63 t64 t65 t66 t67 t68 t69 t70 t71 t72 t73 t74 t75 t76 t77 t78 t79 t80 t81 t82 t83 t84 t85 t86 t87 t88 t89 t90 t91 t92 : V) (h : Hp) : opsP (xX s 43 wl k rd) xg43_0 15 m0 ac (runK (xX s 43 wl k rd) (nextK (xX s 43 wl k rd) xl43_0 n0 K n) xk43_1) ⟨(t0 :: t1 :: t2 :: t3 :: t4 :: t5 :: t6 :: t7 :: t8 :: t9 :: t10 :: t11 :: t12 :: t13 :: t14 :: t15 :: t16 :: t17 :: t18 :: t19 :: t20 :: t21 :: t22 :: t23 :: t24 :: t25 :: t26 :: t27 :: t28 :: t29 :: t30 :: t31 :: t32 :: t33 :: t34 :: t35 :: t36 :: t37 :: t38 :: t39 :: t40 :: t41 :: t42 :: t43 :: t44 :: t45 :: t46 :: t47 :: t48 :: t49 :: t50 :: t51 :: t52 :: t53 :: t54 :: t55 :: t56 :: t57 :: t58 :: t59 :: t60 :: t61 :: t62 :: t63 :: t64 :: t65 :: t66 :: t67 :: t68 :: t69 :: t70 :: t71 :: t72 :: t73 :: t74 :: t75 :: t76 :: t77 :: t78 :: t79 :: t80 :: t81 :: t82 :: t83 :: t84 :: t85 :: t86 :: t87 :: t88 :: t89 :: t90 :: t91 :: t92 :: []), h⟩ =
  bm (vPick t31 (V.lit (Value.bool true)) t37) h fun v31 h32 =>
  gd v31 (
  opsP (xX s 43 wl k rd) xg43_0 28 m0 ac (runK (xX s 43 wl k rd) (nextK (xX s 43 wl k rd) xl43_0 n0 K n) xk43_1) ⟨(t0 :: t1 :: t2 :: t3 :: t4 :: t5 :: t6 :: t7 :: t8 :: t9 :: t10 :: t11 :: t12 :: t13 :: t14 :: t15 :: t16 :: t17 :: t18 :: t19 :: t20 :: t21 :: t22 :: t23 :: t24 :: t25 :: t26 :: t27 :: t28 :: t29 :: t30 :: t31 :: t32 :: t33 :: t34 :: t35 :: t36 :: t37 :: v31 :: (V.lit (Value.bool true)) :: uu :: uu :: uu :: uu :: uu :: uu :: uu :: uu :: uu :: uu :: uu :: t51 :: t52 :: t53 :: t54 :: t55 :: t56 :: t57 :: t58 :: t59 :: t60 :: t61 :: t62 :: t63 :: t64 :: t65 :: t66 :: t67 :: t68 :: t69 :: t70 :: t71 :: t72 :: t73 :: t74 :: t75 :: t76 :: t77 :: t78 :: t79 :: t80 :: t81 :: t82 :: t83 :: t84 :: t85 :: t86 :: t87 :: t88 :: t89 :: t90 :: t91 :: t92 :: []), h32⟩) (
  bm (vIndexAddr s.P 43 t1 t6 h32) h32 fun v33 h34 =>
  bm (vFieldAddr s.P 55 v33 1) h34 fun v35 h36 =>
  bm (vLoad s.P 3 v35 h36) h36 fun v37 h38 =>
  bm (vIndexAddr s.P 22 t0 t7 h38) h38 fun v39 h40 =>
  bm (vFieldAddr s.P 40 v39 0) h40 fun v41 h42 =>
  bm (vLoad s.P 3 v41 h42) h42 fun v43 h44 =>
  bm (vBin s.P .gtr 3 v37 v43) h44 fun v45 h46 =>
  opsP (xX s 43 wl k rd) xg43_0 28 m0 ac (runK (xX s 43 wl k rd) (nextK (xX s 43 wl k rd) xl43_0 n0 K n) xk43_1) ⟨(t0 :: t1 :: t2 :: t3 :: t4 :: t5 :: t6 :: t7 :: t8 :: t9 :: t10 :: t11 :: t12 :: t13 :: t14 :: t15 :: t16 :: t17 :: t18 :: t19 :: t20 :: t21 :: t22 :: t23 :: t24 :: t25 :: t26 :: t27 :: t28 :: t29 :: t30 :: t31 :: t32 :: t33 :: t34 :: t35 :: t36 :: t37 :: v31 :: (V.lit (Value.bool false)) :: t1 :: t6 :: v33 :: v35 :: v37 :: t0 :: t7 :: v39 :: v41 :: v43 :: v45 :: t51 :: t52 :: t53 :: t54 :: t55 :: t56 :: t57 :: t58 :: t59 :: t60 :: t61 :: t62 :: t63 :: t64 :: t65 :: t66 :: t67 :: t68 :: t69 :: t70 :: t71 :: t72 :: t73 :: t74 :: t75 :: t76 :: t77 :: t78 :: t79 :: t80 :: t81 :: t82 :: t83 :: t84 :: t85 :: t86 :: t87 :: t88 :: t89 :: t90 :: t91 :: t92 :: []), h46⟩) (
  opsP (xX s 43 wl k rd) xg43_0 18 m0 ac (runK (xX s 43 wl k rd) (nextK (xX s 43 wl k rd) xl43_0 n0 K n) xk43_1) ⟨(t0 :: t1 :: t2 :: t3 :: t4 :: t5 :: t6 :: t7 :: t8 :: t9 :: t10 :: t11 :: t12 :: t13 :: t14 :: t15 :: t16 :: t17 :: t18 :: t19 :: t20 :: t21 :: t22 :: t23 :: t24 :: t25 :: t26 :: t27 :: t28 :: t29 :: t30 :: t31 :: t32 :: t33 :: t34 :: t35 :: t36 :: t37 :: v31 :: v31 :: uu :: t41 :: t42 :: t43 :: t44 :: t45 :: t46 :: t47 :: t48 :: t49 :: t50 :: t51 :: t52 :: t53 :: t54 :: t55 :: t56 :: t57 :: t58 :: t59 :: t60 :: t61 :: t62 :: t63 :: t64 :: t65 :: t66 :: t67 :: t68 :: t69 :: t70 :: t71 :: t72 :: t73 :: t74 :: t75 :: t76 :: t77 :: t78 :: t79 :: t80 :: t81 :: t82 :: t83 :: t84 :: t85 :: t86 :: t87 :: t88 :: t89 :: t90 :: t91 :: t92 :: []), h32⟩) :=
  (go_op1 xo43_8 xo43_8a rfl rfl rfl (st_no (by kernel_rfl) (st_bm (by kernel_rfl) fun v31 h32 =>
  (go_op1 xo43_8 xo43_8a rfl rfl rfl (st_no (by kernel_rfl) (st_id (v := v31) (H := h32) (by kernel_rfl)
  (go_gdF1 xo43_8 xo43_8a rfl rfl rfl rfl (by kernel_rfl)
  (go_skip1 xo43_8 rfl rfl rfl rfl (by kernel_rfl)
  (go_skip1 xo43_8 rfl rfl rfl rfl (by kernel_rfl)
  (go_skip1 xo43_8 rfl rfl rfl rfl (by kernel_rfl)
  (go_skip1 xo43_8 rfl rfl rfl rfl (by kernel_rfl)
  (go_skip1 xo43_8 rfl rfl rfl rfl (by kernel_rfl)
  (go_skip1 xo43_8 rfl rfl rfl rfl (by kernel_rfl)
  (go_skip1 xo43_8 rfl rfl rfl rfl (by kernel_rfl)
  (go_skip1 xo43_8 rfl rfl rfl rfl (by kernel_rfl)
  (go_skip1 xo43_8 rfl rfl rfl rfl (by kernel_rfl)
  (go_skip1 xo43_8 rfl rfl rfl rfl (by kernel_rfl)
  (by kernel_rfl)))))))))))
  (st_no (by kernel_rfl) (st_id (v := t1) (H := h32) (by kernel_rfl)
  (go_run1 xo43_8 xo43_8a rfl rfl rfl rfl (by kernel_rfl) (st_no (by kernel_rfl) (st_id (v := t6) (H := h32) (by kernel_rfl)
  (go_run1 xo43_8 xo43_8a rfl rfl rfl rfl (by kernel_rfl) (st_no (by kernel_rfl) (st_bm (by kernel_rfl) fun v33 h34 =>
  (go_run1 xo43_8 xo43_8a rfl rfl rfl rfl (by kernel_rfl) (st_no (by kernel_rfl) (st_bm (by kernel_rfl) fun v35 h36 =>
  (go_run1 xo43_8 xo43_8a rfl rfl rfl rfl (by kernel_rfl) (st_no (by kernel_rfl) (st_bm (by kernel_rfl) fun v37 h38 =>
  (go_run1 xo43_8 xo43_8a rfl rfl rfl rfl (by kernel_rfl) (st_no (by kernel_rfl) (st_id (v := t0) (H := h38) (by kernel_rfl)
  (go_run1 xo43_8 xo43_8a rfl rfl rfl rfl (by kernel_rfl) (st_no (by kernel_rfl) (st_id (v := t7) (H := h38) (by kernel_rfl)
  (go_run1 xo43_8 xo43_8a rfl rfl rfl rfl (by kernel_rfl) (st_no (by kernel_rfl) (st_bm (by kernel_rfl) fun v39 h40 =>
  (go_run1 xo43_8 xo43_8a rfl rfl rfl rfl (by kernel_rfl) (st_no (by kernel_rfl) (st_bm (by kernel_rfl) fun v41 h42 =>
  (go_run1 xo43_8 xo43_8a rfl rfl rfl rfl (by kernel_rfl) (st_no (by kernel_rfl) (st_bm (by kernel_rfl) fun v43 h44 =>
  (go_run1 xo43_8 xo43_8a rfl rfl rfl rfl (by kernel_rfl) (st_no (by kernel_rfl) (st_bm (by kernel_rfl) fun v45 h46 =>
  (by kernel_rfl)))))))))))))))))))))))))))))))))
  (by kernel_rfl))))))))
theorem xm43_3 (s : Sys) (K : Out → St → Option (V × Hp)) (k wl : Nat) (rd : Bool) (n n0 : Nat) (m0 : Nat) (ac : List Nat × List Nat) (t0 t1 t2 t3 t4 t5 t6 t7 t8 t9 t10 t11 t12 t13 t14 t15 t16 t17 t18 t19 t20 t21 t22 t23 t24 t25 t26 t27 t28 t29 t30 t31 t32 t33 t34 t35 t36 t37 t38 t39 t40 t41 t42 t43 t44 t45 t46 t47 t48 t49 t50 t51 t52 t53 t54 t55 t56 t57 t58 t59 t60 t61 t62 t63 t64 t65 t66 t67 t68 t69 t70 t71 t72 t73 t74 t75 t76 t77 t78 t79 t80 t81 t82 t83 t84 t85 t86 t87 t88 t89 t90 t91 t92 : V) (h : Hp) : opsP (xX s 43 wl k rd) xg43_0 28 m0 ac (runK (xX s 43 wl k rd) (nextK (xX s 43 wl k rd) xl43_0 n0 K n) xk43_1) ⟨(t0 :: t1 :: t2 :: t3 :: t4 :: t5 :: t6 :: t7 :: t8 :: t9 :: t10 :: t11 :: t12 :: t13 :: t14 :: t15 :: t16 :: t17 :: t18 :: t19 :: t20 :: t21 :: t22 :: t23 :: t24 :: t25 :: t26 :: t27 :: t28 :: t29 :: t30 :: t31 :: t32 :: t33 :: t34 :: t35 :: t36 :: t37 :: t38 :: t39 :: t40 :: t41 :: t42 :: t43 :: t44 :: t45 :: t46 :: t47 :: t48 :: t49 :: t50 :: t51 :: t52 :: t53 :: t54 :: t55 :: t56 :: t57 :: t58 :: t59 :: t60 :: t61 :: t62 :: t63 :: t64 :: t65 :: t66 :: t67 :: t68 :: t69 :: t70 :: t71 :: t72 :: t73 :: t74 :: t75 :: t76 :: t77 :: t78 :: t79 :: t80 :: t81 :: t82 :: t83 :: t84 :: t85 :: t86 :: t87 :: t88 :: t89 :: t90 :: t91 :: t92 :: []), h⟩ =
  bm (vPick t39 (V.lit (Value.bool true)) t50) h fun v47 h48 =>
  gd v47 (
  opsP (xX s 43 wl k rd) xg43_0 36 m0 ac (runK (xX s 43 wl k rd) (nextK (xX s 43 wl k rd) xl43_0 n0 K n) xk43_1) ⟨(t0 :: t1 :: t2 :: t3 :: t4 :: t5 :: t6 :: t7 :: t8 :: t9 :: t10 :: t11 :: t12 :: t13 :: t14 :: t15 :: t16 :: t17 :: t18 :: t19 :: t20 :: t21 :: t22 :: t23 :: t24 :: t25 :: t26 :: t27 :: t28 :: t29 :: t30 :: t31 :: t32 :: t33 :: t34 :: t35 :: t36 :: t37 :: t38 :: t39 :: t40 :: t41 :: t42 :: t43 :: t44 :: t45 :: t46 :: t47 :: t48 :: t49 :: t50 :: v47 :: (V.lit (Value.bool true)) :: uu :: uu :: uu :: uu :: uu :: uu :: t59 :: t60 :: t61 :: t62 :: t63 :: t64 :: t65 :: t66 :: t67 :: t68 :: t69 :: t70 :: t71 :: t72 :: t73 :: t74 :: t75 :: t76 :: t77 :: t78 :: t79 :: t80 :: t81 :: t82 :: t83 :: t84 :: t85 :: t86 :: t87 :: t88 :: t89 :: t90 :: t91 :: t92 :: []), h48⟩) (
  bm (vIndexAddr s.P 43 t1 t6 h48) h48 fun v49 h50 =>
  bm (vFieldAddr s.P 55 v49 2) h50 fun v51 h52 =>
  bm (vLoad s.P 3 v51 h52) h52 fun v53 h54 =>
  bm (vBin s.P .lss 3 v53 (V.lit (Value.int .i64 0))) h54 fun v55 h56 =>
  opsP (xX s 43 wl k rd) xg43_0 36 m0 ac (runK (xX s 43 wl k rd) (nextK (xX s 43 wl k rd) xl43_0 n0 K n) xk43_1) ⟨(t0 :: t1 :: t2 :: t3 :: t4 :: t5 :: t6 :: t7 :: t8 :: t9 :: t10 :: t11 :: t12 :: t13 :: t14 :: t15 :: t16 :: t17 :: t18 :: t19 :: t20 :: t21 :: t22 :: t23 :: t24 :: t25 :: t26 :: t27 :: t28 :: t29 :: t30 :: t31 :: t32 :: t33 :: t34 :: t35 :: t36 :: t37 :: t38 :: t39 :: t40 :: t41 :: t42 :: t43 :: t44 :: t45 :: t46 :: t47 :: t48 :: t49 :: t50 :: v47 :: (V.lit (Value.bool false)) :: t1 :: t6 :: v49 :: v51 :: v53 :: v55 :: t59 :: t60 :: t61 :: t62 :: t63 :: t64 :: t65 :: t66 :: t67 :: t68 :: t69 :: t70 :: t71 :: t72 :: t73 :: t74 :: t75 :: t76 :: t77 :: t78 :: t79 :: t80 :: t81 :: t82 :: t83 :: t84 :: t85 :: t86 :: t87 :: t88 :: t89 :: t90 :: t91 :: t92 :: []), h56⟩) (
  opsP (xX s 43 wl k rd) xg43_0 31 m0 ac (runK (xX s 43 wl k rd) (nextK (xX s 43 wl k rd) xl43_0 n0 K n) xk43_1) ⟨(t0 :: t1 :: t2 :: t3 :: t4 :: t5 :: t6 :: t7 :: t8 :: t9 :: t10 :: t11 :: t12 :: t13 :: t14 :: t15 :: t16 :: t17 :: t18 :: t19 :: t20 :: t21 :: t22 :: t23 :: t24 :: t25 :: t26 :: t27 :: t28 :: t29 :: t30 :: t31 :: t32 :: t33 :: t34 :: t35 :: t36 :: t37 :: t38 :: t39 :: t40 :: t41 :: t42 :: t43 :: t44 :: t45 :: t46 :: t47 :: t48 :: t49 :: t50 :: v47 :: v47 :: uu :: t54 :: t55 :: t56 :: t57 :: t58 :: t59 :: t60 :: t61 :: t62 :: t63 :: t64 :: t65 :: t66 :: t67 :: t68 :: t69 :: t70 :: t71 :: t72 :: t73 :: t74 :: t75 :: t76 :: t77 :: t78 :: t79 :: t80 :: t81 :: t82 :: t83 :: t84 :: t85 :: t86 :: t87 :: t88 :: t89 :: t90 :: t91 :: t92 :: []), h48⟩) :=
  (go_op1 xo43_8 xo43_8a rfl rfl rfl (st_no (by kernel_rfl) (st_bm (by kernel_rfl) fun v47 h48 =>
  (go_op1 xo43_8 xo43_8a rfl rfl rfl (st_no (by kernel_rfl) (st_id (v := v47) (H := h48) (by kernel_rfl)
  (go_gdF1 xo43_8 xo43_8a rfl rfl rfl rfl (by kernel_rfl)
  (go_skip1 xo43_8 rfl rfl rfl rfl (by kernel_rfl)
  (go_skip1 xo43_8 rfl rfl rfl rfl (by kernel_rfl)
  (go_skip1 xo43_8 rfl rfl rfl rfl (by kernel_rfl)
  (go_skip1 xo43_8 rfl rfl rfl rfl (by kernel_rfl)
  (go_skip1 xo43_8 rfl rfl rfl rfl (by kernel_rfl)
  (by kernel_rfl))))))
  (st_no (by kernel_rfl) (st_id (v := t1) (H := h48) (by kernel_rfl)
  (go_run1 xo43_8 xo43_8a rfl rfl rfl rfl (by kernel_rfl) (st_no (by kernel_rfl) (st_id (v := t6) (H := h48) (by kernel_rfl)
  (go_run1 xo43_8 xo43_8a rfl rfl rfl rfl (by kernel_rfl) (st_no (by kernel_rfl) (st_bm (by kernel_rfl) fun v49 h50 =>
  (go_run1 xo43_8 xo43_8a rfl rfl rfl rfl (by kernel_rfl) (st_no (by kernel_rfl) (st_bm (by kernel_rfl) fun v51 h52 =>
  (go_run1 xo43_8 xo43_8a rfl rfl rfl rfl (by kernel_rfl) (st_no (by kernel_rfl) (st_bm (by kernel_rfl) fun v53 h54 =>
  (go_run1 xo43_8 xo43_8a rfl rfl rfl rfl (by kernel_rfl) (st_no (by kernel_rfl) (st_bm (by kernel_rfl) fun v55 h56 =>
  (by kernel_rfl))))))))))))))))))
  (by kernel_rfl))))))))
theorem xm43_4 (s : Sys) (K : Out → St → Option (V × Hp)) (k wl : Nat) (rd : Bool) (n n0 : Nat) (m0 : Nat) (ac : List Nat × List Nat) (t0 t1 t2 t3 t4 t5 t6 t7 t8 t9 t10 t11 t12 t13 t14 t15 t16 t17 t18 t19 t20 t21 t22 t23 t24 t25 t26 t27 t28 t29 t30 t31 t32 t33 t34 t35 t36 t37 t38 t39 t40 t41 t42 t43 t44 t45 t46 t47 t48 t49 t50 t51 t52 t53 t54 t55 t56 t57 t58 t59 t60 t61 t62 t63 t64 t65 t66 t67 t68 t69 t70 t71 t72 t73 t74 t75 t76 t77 t78 t79 t80 t81 t82 t83 t84 t85 t86 t87 t88 t89 t90 t91 t92 : V) (h : Hp) : opsP (xX s 43 wl k rd) xg43_0 36 m0 ac (runK (xX s 43 wl k rd) (nextK (xX s 43 wl k rd) xl43_0 n0 K n) xk43_1) ⟨(t0 :: t1 :: t2 :: t3 :: t4 :: t5 :: t6 :: t7 :: t8 :: t9 :: t10 :: t11 :: t12 :: t13 :: t14 :: t15 :: t16 :: t17 :: t18 :: t19 :: t20 :: t21 :: t22 :: t23 :: t24 :: t25 :: t26 :: t27 :: t28 :: t29 :: t30 :: t31 :: t32 :: t33 :: t34 :: t35 :: t36 :: t37 :: t38 :: t39 :: t40 :: t41 :: t42 :: t43 :: t44 :: t45 :: t46 :: t47 :: t48 :: t49 :: t50 :: t51 :: t52 :: t53 :: t54 :: t55 :: t56 :: t57 :: t58 :: t59 :: t60 :: t61 :: t62 :: t63 :: t64 :: t65 :: t66 :: t67 :: t68 :: t69 :: t70 :: t71 :: t72 :: t73 :: t74 :: t75 :: t76 :: t77 :: t78 :: t79 :: t80 :: t81 :: t82 :: t83 :: t84 :: t85 :: t86 :: t87 :: t88 :: t89 :: t90 :: t91 :: t92 :: []), h⟩ =
  bm (vPick t52 (V.lit (Value.bool true)) t58) h fun v57 h58 =>
  gd v57 (
  opsP (xX s 43 wl k rd) xg43_0 50 m0 ac (runK (xX s 43 wl k rd) (nextK (xX s 43 wl k rd) xl43_0 n0 K n) xk43_1) ⟨(t0 :: t1 :: t2 :: t3 :: t4 :: t5 :: t6 :: t7 :: t8 :: t9 :: t10 :: t11 :: t12 :: t13 :: t14 :: t15 :: t16 :: t17 :: t18 :: t19 :: t20 :: t21 :: t22 :: t23 :: t24 :: t25 :: t26 :: t27 :: t28 :: t29 :: t30 :: t31 :: t32 :: t33 :: t34 :: t35 :: t36 :: t37 :: t38 :: t39 :: t40 :: t41 :: t42 :: t43 :: t44 :: t45 :: t46 :: t47 :: t48 :: t49 :: t50 :: t51 :: t52 :: t53 :: t54 :: t55 :: t56 :: t57 :: t58 :: v57 :: (V.lit (Value.bool true)) :: uu :: uu :: uu :: uu :: uu :: uu :: uu :: uu :: uu :: uu :: uu :: uu :: t73 :: t74 :: t75 :: t76 :: t77 :: t78 :: t79 :: t80 :: t81 :: t82 :: t83 :: t84 :: t85 :: t86 :: t87 :: t88 :: t89 :: t90 :: t91 :: t92 :: []), h58⟩) (
  bm (vIndexAddr s.P 43 t1 t6 h58) h58 fun v59 h60 =>
  bm (vFieldAddr s.P 55 v59 2) h60 fun v61 h62 =>
  bm (vLoad s.P 3 v61 h62) h62 fun v63 h64 =>
  bm (vIndexAddr s.P 22 t0 t7 h64) h64 fun v65 h66 =>
  bm (vFieldAddr s.P 40 v65 1) h66 fun v67 h68 =>
  bm (vLoad s.P 23 v67 h68) h68 fun v69 h70 =>
  bp (opLen s.P 23 v69 h70) fun v71 h72 =>
  bm (vBin s.P .gtr 3 v63 v71) h72 fun v73 h74 =>
  opsP (xX s 43 wl k rd) xg43_0 50 m0 ac (runK (xX s 43 wl k rd) (nextK (xX s 43 wl k rd) xl43_0 n0 K n) xk43_1) ⟨(t0 :: t1 :: t2 :: t3 :: t4 :: t5 :: t6 :: t7 :: t8 :: t9 :: t10 :: t11 :: t12 :: t13 :: t14 :: t15 :: t16 :: t17 :: t18 :: t19 :: t20 :: t21 :: t22 :: t23 :: t24 :: t25 :: t26 :: t27 :: t28 :: t29 :: t30 :: t31 :: t32 :: t33 :: t34 :: t35 :: t36 :: t37 :: t38 :: t39 :: t40 :: t41 :: t42 :: t43 :: t44 :: t45 :: t46 :: t47 :: t48 :: t49 :: t50 :: t51 :: t52 :: t53 :: t54 :: t55 :: t56 :: t57 :: t58 :: v57 :: (V.lit (Value.bool false)) :: t1 :: t6 :: v59 :: v61 :: v63 :: t0 :: t7 :: v65 :: v67 :: v69 :: v71 :: v73 :: t73 :: t74 :: t75 :: t76 :: t77 :: t78 :: t79 :: t80 :: t81 :: t82 :: t83 :: t84 :: t85 :: t86 :: t87 :: t88 :: t89 :: t90 :: t91 :: t92 :: []), h74⟩) (
  opsP (xX s 43 wl k rd) xg43_0 39 m0 ac (runK (xX s 43 wl k rd) (nextK (xX s 43 wl k rd) xl43_0 n0 K n) xk43_1) ⟨(t0 :: t1 :: t2 :: t3 :: t4 :: t5 :: t6 :: t7 :: t8 :: t9 :: t10 :: t11 :: t12 :: t13 :: t14 :: t15 :: t16 :: t17 :: t18 :: t19 :: t20 :: t21 :: t22 :: t23 :: t24 :: t25 :: t26 :: t27 :: t28 :: t29 :: t30 :: t31 :: t32 :: t33 :: t34 :: t35 :: t36 :: t37 :: t38 :: t39 :: t40 :: t41 :: t42 :: t43 :: t44 :: t45 :: t46 :: t47 :: t48 :: t49 :: t50 :: t51 :: t52 :: t53 :: t54 :: t55 :: t56 :: t57 :: t58 :: v57 :: v57 :: uu :: t62 :: t63 :: t64 :: t65 :: t66 :: t67 :: t68 :: t69 :: t70 :: t71 :: t72 :: t73 :: t74 :: t75 :: t76 :: t77 :: t78 :: t79 :: t80 :: t81 :: t82 :: t83 :: t84 :: t85 :: t86 :: t87 :: t88 :: t89 :: t90 :: t91 :: t92 :: []), h58⟩) :=
  (go_op1 xo43_8 xo43_8a rfl rfl rfl (st_no (by kernel_rfl) (st_bm (by kernel_rfl) fun v57 h58 =>
  (go_op1 xo43_8 xo43_8a rfl rfl rfl (st_no (by kernel_rfl) (st_id (v := v57) (H := h58) (by kernel_rfl)
  (go_gdF1 xo43_8 xo43_8a rfl rfl rfl rfl (by kernel_rfl)
  (go_skip1 xo43_8 rfl rfl rfl rfl (by kernel_rfl)
  (go_skip1 xo43_8 rfl rfl rfl rfl (by kernel_rfl)
  (go_skip1 xo43_8 rfl rfl rfl rfl (by kernel_rfl)
  (go_skip1 xo43_8 rfl rfl rfl rfl (by kernel_rfl)
  (go_skip1 xo43_8 rfl rfl rfl rfl (by kernel_rfl)
  (go_skip1 xo43_8 rfl rfl rfl rfl (by kernel_rfl)
  (go_skip1 xo43_8 rfl rfl rfl rfl (by kernel_rfl)
  (go_skip1 xo43_8 rfl rfl rfl rfl (by kernel_rfl)
  (go_skip1 xo43_8 rfl rfl rfl rfl (by kernel_rfl)
  (go_skip1 xo43_8 rfl rfl rfl rfl (by kernel_rfl)
  (go_skip1 xo43_8 rfl rfl rfl rfl (by kernel_rfl)
  (by kernel_rfl))))))))))))
  (st_no (by kernel_rfl) (st_id (v := t1) (H := h58) (by kernel_rfl)
  (go_run1 xo43_8 xo43_8a rfl rfl rfl rfl (by kernel_rfl) (st_no (by kernel_rfl) (st_id (v := t6) (H := h58) (by kernel_rfl)
  (go_run1 xo43_8 xo43_8a rfl rfl rfl rfl (by kernel_rfl) (st_no (by kernel_rfl) (st_bm (by kernel_rfl) fun v59 h60 =>
  (go_run1 xo43_8 xo43_8a rfl rfl rfl rfl (by kernel_rfl) (st_no (by kernel_rfl) (st_bm (by kernel_rfl) fun v61 h62 =>
  (go_run1 xo43_8 xo43_8a rfl rfl rfl rfl (by kernel_rfl) (st_no (by kernel_rfl) (st_bm (by kernel_rfl) fun v63 h64 =>
  (go_run1 xo43_8 xo43_8a rfl rfl rfl rfl (by kernel_rfl) (st_no (by kernel_rfl) (st_id (v := t0) (H := h64) (by kernel_rfl)
  (go_run1 xo43_8 xo43_8a rfl rfl rfl rfl (by kernel_rfl) (st_no (by kernel_rfl) (st_id (v := t7) (H := h64) (by kernel_rfl)
  (go_run1 xo43_8 xo43_8a rfl rfl rfl rfl (by kernel_rfl) (st_no (by kernel_rfl) (st_bm (by kernel_rfl) fun v65 h66 =>
  (go_run1 xo43_8 xo43_8a rfl rfl rfl rfl (by kernel_rfl) (st_no (by kernel_rfl) (st_bm (by kernel_rfl) fun v67 h68 =>
  (go_run1 xo43_8 xo43_8a rfl rfl rfl rfl (by kernel_rfl) (st_no (by kernel_rfl) (st_bm (by kernel_rfl) fun v69 h70 =>
  (go_run1 xo43_8 xo43_8a rfl rfl rfl rfl (by kernel_rfl) (st_no (by kernel_rfl) (st_bp (by kernel_rfl) fun v71 h72 =>
  (go_run1 xo43_8 xo43_8a rfl rfl rfl rfl (by kernel_rfl) (st_no (by kernel_rfl) (st_bm (by kernel_rfl) fun v73 h74 =>
  (by kernel_rfl))))))))))))))))))))))))))))))))))))
  (by kernel_rfl))))))))
theorem xm43_5 (s : Sys) (K : Out → St → Option (V × Hp)) (k wl : Nat) (rd : Bool) (n n0 : Nat) (m0 : Nat) (ac : List Nat × List Nat) (t0 t1 t2 t3 t4 t5 t6 t7 t8 t9 t10 t11 t12 t13 t14 t15 t16 t17 t18 t19 t20 t21 t22 t23 t24 t25 t26 t27 t28 t29 t30 t31 t32 t33 t34 t35 t36 t37 t38 t39 t40 t41 t42 t43 t44 t45 t46 t47 t48 t49 t50 t51 t52 t53 t54 t55 t56 t57 t58 t59 t60 t61 t62 t63 t64 t65 t66 t67 t68 t69 t70 t71 t72 t73 t74 t75 t76 t77 t78 t79 t80 t81 t82 t83 t84 t85 t86 t87 t88 t89 t90 t91 t92 : V) (h : Hp) : opsP (xX s 43 wl k rd) xg43_0 50 m0 ac (runK (xX s 43 wl k rd) (nextK (xX s 43 wl k rd) xl43_0 n0 K n) xk43_1) ⟨(t0 :: t1 :: t2 :: t3 :: t4 :: t5 :: t6 :: t7 :: t8 :: t9 :: t10 :: t11 :: t12 :: t13 :: t14 :: t15 :: t16 :: t17 :: t18 :: t19 :: t20 :: t21 :: t22 :: t23 :: t24 :: t25 :: t26 :: t27 :: t28 :: t29 :: t30 :: t31 :: t32 :: t33 :: t34 :: t35 :: t36 :: t37 :: t38 :: t39 :: t40 :: t41 :: t42 :: t43 :: t44 :: t45 :: t46 :: t47 :: t48 :: t49 :: t50 :: t51 :: t52 :: t53 :: t54 :: t55 :: t56 :: t57 :: t58 :: t59 :: t60 :: t61 :: t62 :: t63 :: t64 :: t65 :: t66 :: t67 :: t68 :: t69 :: t70 :: t71 :: t72 :: t73 :: t74 :: t75 :: t76 :: t77 :: t78 :: t79 :: t80 :: t81 :: t82 :: t83 :: t84 :: t85 :: t86 :: t87 :: t88 :: t89 :: t90 :: t91 :: t92 :: []), h⟩ =
  bm (vPick t60 (V.lit (Value.bool true)) t72) h fun v75 h76 =>
  cnd v75 (
  K .ret ⟨(t0 :: t1 :: t2 :: t3 :: (V.lit (Value.bool false)) :: t5 :: t6 :: t7 :: t8 :: t9 :: t10 :: t11 :: t12 :: t13 :: t14 :: t15 :: t16 :: t17 :: t18 :: t19 :: t20 :: t21 :: t22 :: t23 :: t24 :: t25 :: t26 :: t27 :: t28 :: t29 :: t30 :: t31 :: t32 :: t33 :: t34 :: t35 :: t36 :: t37 :: t38 :: t39 :: t40 :: t41 :: t42 :: t43 :: t44 :: t45 :: t46 :: t47 :: t48 :: t49 :: t50 :: t51 :: t52 :: t53 :: t54 :: t55 :: t56 :: t57 :: t58 :: t59 :: t60 :: t61 :: t62 :: t63 :: t64 :: t65 :: t66 :: t67 :: t68 :: t69 :: t70 :: t71 :: t72 :: v75 :: t74 :: t75 :: t76 :: t77 :: t78 :: t79 :: t80 :: t81 :: t82 :: t83 :: t84 :: t85 :: t86 :: t87 :: t88 :: t89 :: t90 :: t91 :: t92 :: []), h76⟩) (
  bm (vIndexAddr s.P 43 t1 t6 h76) h76 fun v77 h78 =>
  bm (vFieldAddr s.P 55 v77 1) h78 fun v79 h80 =>
  bm (vLoad s.P 3 v79 h80) h80 fun v81 h82 =>
  bm (vIndexAddr s.P 22 t0 t7 h82) h82 fun v83 h84 =>
  bm (vFieldAddr s.P 40 v83 0) h84 fun v85 h86 =>
  bm (vLoad s.P 3 v85 h86) h86 fun v87 h88 =>
  bm (vBin s.P .lss 3 v81 v87) h88 fun v89 h90 =>
  gd v89 (
  bm (vIndexAddr s.P 43 t1 t6 h90) h90 fun v91 h92 =>
  bm (vFieldAddr s.P 55 v91 2) h92 fun v93 h94 =>
  bm (vLoad s.P 3 v93 h94) h94 fun v95 h96 =>
  bm (vBin s.P .neq 3 v95 (V.lit (Value.int .i64 0))) h96 fun v97 h98 =>
  opsP (xX s 43 wl k rd) xg43_1 18 h76.length ([], []) (runK (xX s 43 wl k rd) (nextK (xX s 43 wl k rd) xl43_0 n0 K n) xk43_2) ⟨(t0 :: t1 :: t2 :: t3 :: t4 :: t5 :: t6 :: t7 :: t8 :: t9 :: t10 :: t11 :: t12 :: t13 :: t14 :: t15 :: t16 :: t17 :: t18 :: t19 :: t20 :: t21 :: t22 :: t23 :: t24 :: t25 :: t26 :: t27 :: t28 :: t29 :: t30 :: t31 :: t32 :: t33 :: t34 :: t35 :: t36 :: t37 :: t38 :: t39 :: t40 :: t41 :: t42 :: t43 :: t44 :: t45 :: t46 :: t47 :: t48 :: t49 :: t50 :: t51 :: t52 :: t53 :: t54 :: t55 :: t56 :: t57 :: t58 :: t59 :: t60 :: t61 :: t62 :: t63 :: t64 :: t65 :: t66 :: t67 :: t68 :: t69 :: t70 :: t71 :: t72 :: v75 :: t1 :: t6 :: v77 :: v79 :: v81 :: t0 :: t7 :: v83 :: v85 :: v87 :: v89 :: (V.lit (Value.bool true)) :: t1 :: t6 :: v91 :: v93 :: v95 :: v97 :: t92 :: []), h98⟩) (
  opsP (xX s 43 wl k rd) xg43_1 18 h76.length ([], []) (runK (xX s 43 wl k rd) (nextK (xX s 43 wl k rd) xl43_0 n0 K n) xk43_2) ⟨(t0 :: t1 :: t2 :: t3 :: t4 :: t5 :: t6 :: t7 :: t8 :: t9 :: t10 :: t11 :: t12 :: t13 :: t14 :: t15 :: t16 :: t17 :: t18 :: t19 :: t20 :: t21 :: t22 :: t23 :: t24 :: t25 :: t26 :: t27 :: t28 :: t29 :: t30 :: t31 :: t32 :: t33 :: t34 :: t35 :: t36 :: t37 :: t38 :: t39 :: t40 :: t41 :: t42 :: t43 :: t44 :: t45 :: t46 :: t47 :: t48 :: t49 :: t50 :: t51 :: t52 :: t53 :: t54 :: t55 :: t56 :: t57 :: t58 :: t59 :: t60 :: t61 :: t62 :: t63 :: t64 :: t65 :: t66 :: t67 :: t68 :: t69 :: t70 :: t71 :: t72 :: v75 :: t1 :: t6 :: v77 :: v79 :: v81 :: t0 :: t7 :: v83 :: v85 :: v87 :: v89 :: (V.lit (Value.bool false)) :: uu :: uu :: uu :: uu :: uu :: uu :: t92 :: []), h90⟩) (
  opsP (xX s 43 wl k rd) xg43_1 13 h76.length ([], []) (runK (xX s 43 wl k rd) (nextK (xX s 43 wl k rd) xl43_0 n0 K n) xk43_2) ⟨(t0 :: t1 :: t2 :: t3 :: t4 :: t5 :: t6 :: t7 :: t8 :: t9 :: t10 :: t11 :: t12 :: t13 :: t14 :: t15 :: t16 :: t17 :: t18 :: t19 :: t20 :: t21 :: t22 :: t23 :: t24 :: t25 :: t26 :: t27 :: t28 :: t29 :: t30 :: t31 :: t32 :: t33 :: t34 :: t35 :: t36 :: t37 :: t38 :: t39 :: t40 :: t41 :: t42 :: t43 :: t44 :: t45 :: t46 :: t47 :: t48 :: t49 :: t50 :: t51 :: t52 :: t53 :: t54 :: t55 :: t56 :: t57 :: t58 :: t59 :: t60 :: t61 :: t62 :: t63 :: t64 :: t65 :: t66 :: t67 :: t68 :: t69 :: t70 :: t71 :: t72 :: v75 :: t1 :: t6 :: v77 :: v79 :: v81 :: t0 :: t7 :: v83 :: v85 :: v87 :: v89 :: v89 :: uu :: t87 :: t88 :: t89 :: t90 :: t91 :: t92 :: []), h90⟩)) :=
  (go_op1 xo43_8 xo43_8a rfl rfl rfl (st_no (by kernel_rfl) (st_bm (by kernel_rfl) fun v75 h76 =>
  (go_end1 xo43_8 (by kernel_rfl) xo43_8a
  (go_cond (by kernel_rfl)
  (go_seq (go_reg0
  (go_op0 rfl rfl (st_id (v := (V.lit (Value.bool false))) (H := h76) (by kernel_rfl)
  (go_end0 (by kernel_rfl)
  (go_ret (rt_seq_ret (rt_block_ret (rt_seq_ret (by kernel_rfl))))))))))
  (go_skip (go_seq (go_reg1 xo43_10r
  (go_op1 xo43_10 xo43_10a rfl rfl rfl (st_no (by kernel_rfl) (st_id (v := t1) (H := h76) (by kernel_rfl)
  (go_op1 xo43_10 xo43_10a rfl rfl rfl (st_no (by kernel_rfl) (st_id (v := t6) (H := h76) (by kernel_rfl)
  (go_op1 xo43_10 xo43_10a rfl rfl rfl (st_no (by kernel_rfl) (st_bm (by kernel_rfl) fun v77 h78 =>
  (go_op1 xo43_10 xo43_10a rfl rfl rfl (st_no (by kernel_rfl) (st_bm (by kernel_rfl) fun v79 h80 =>
  (go_op1 xo43_10 xo43_10a rfl rfl rfl (st_no (by kernel_rfl) (st_bm (by kernel_rfl) fun v81 h82 =>
  (go_op1 xo43_10 xo43_10a rfl rfl rfl (st_no (by kernel_rfl) (st_id (v := t0) (H := h82) (by kernel_rfl)
  (go_op1 xo43_10 xo43_10a rfl rfl rfl (st_no (by kernel_rfl) (st_id (v := t7) (H := h82) (by kernel_rfl)
  (go_op1 xo43_10 xo43_10a rfl rfl rfl (st_no (by kernel_rfl) (st_bm (by kernel_rfl) fun v83 h84 =>
  (go_op1 xo43_10 xo43_10a rfl rfl rfl (st_no (by kernel_rfl) (st_bm (by kernel_rfl) fun v85 h86 =>
  (go_op1 xo43_10 xo43_10a rfl rfl rfl (st_no (by kernel_rfl) (st_bm (by kernel_rfl) fun v87 h88 =>
  (go_op1 xo43_10 xo43_10a rfl rfl rfl (st_no (by kernel_rfl) (st_bm (by kernel_rfl) fun v89 h90 =>
  (go_op1 xo43_10 xo43_10a rfl rfl rfl (st_no (by kernel_rfl) (st_id (v := v89) (H := h90) (by kernel_rfl)
  (go_gdT1 xo43_10 xo43_10a rfl rfl rfl rfl (by kernel_rfl)
  (st_no (by kernel_rfl) (st_id (v := t1) (H := h90) (by kernel_rfl)
  (go_run1 xo43_10 xo43_10a rfl rfl rfl rfl (by kernel_rfl) (st_no (by kernel_rfl) (st_id (v := t6) (H := h90) (by kernel_rfl)
  (go_run1 xo43_10 xo43_10a rfl rfl rfl rfl (by kernel_rfl) (st_no (by kernel_rfl) (st_bm (by kernel_rfl) fun v91 h92 =>
  (go_run1 xo43_10 xo43_10a rfl rfl rfl rfl (by kernel_rfl) (st_no (by kernel_rfl) (st_bm (by kernel_rfl) fun v93 h94 =>
  (go_run1 xo43_10 xo43_10a rfl rfl rfl rfl (by kernel_rfl) (st_no (by kernel_rfl) (st_bm (by kernel_rfl) fun v95 h96 =>
  (go_run1 xo43_10 xo43_10a rfl rfl rfl rfl (by kernel_rfl) (st_no (by kernel_rfl) (st_bm (by kernel_rfl) fun v97 h98 =>
  (by kernel_rfl))))))))))))))))))
  (go_skip1 xo43_10 rfl rfl rfl rfl (by kernel_rfl)
  (go_skip1 xo43_10 rfl rfl rfl rfl (by kernel_rfl)
  (go_skip1 xo43_10 rfl rfl rfl rfl (by kernel_rfl)
  (go_skip1 xo43_10 rfl rfl rfl rfl (by kernel_rfl)
  (go_skip1 xo43_10 rfl rfl rfl rfl (by kernel_rfl)
  (by kernel_rfl))))))
  (by kernel_rfl))))))))))))))))))))))))))))))))))))))))))))))
theorem xm43_6 (s : Sys) (K : Out → St → Option (V × Hp)) (k wl : Nat) (rd : Bool) (n n0 : Nat) (m0 : Nat) (ac : List Nat × List Nat) (t0 t1 t2 t3 t4 t5 t6 t7 t8 t9 t10 t11 t12 t13 t14 t15 t16 t17 t18 t19 t20 t21 t22 t23 t24 t25 t26 t27 t28 t29 t30 t31 t32 t33 t34 t35 t36 t37 t38 t39 t40 t41 t42 t43 t44 t45 t46 t47 t48 t49 t50 t51 t52 t53 t54 t55 t56 t57 t58 t59 t60 t61 t62 t63 t64 t65 t66 t67 t68 t69 t70 t71 t72 t73 t74 t75 t76 t77 t78 t79 t80 t81 t82 t83 t84 t85 t86 t87 t88 t89 t90 t91 t92 : V) (h : Hp) : opsP (xX s 43 wl k rd) xg43_1 18 m0 ac (runK (xX s 43 wl k rd) (nextK (xX s 43 wl k rd) xl43_0 n0 K n) xk43_2) ⟨(t0 :: t1 :: t2 :: t3 :: t4 :: t5 :: t6 :: t7 :: t8 :: t9 :: t10 :: t11 :: t12 :: t13 :: t14 :: t15 :: t16 :: t17 :: t18 :: t19 :: t20 :: t21 :: t22 :: t23 :: t24 :: t25 :: t26 :: t27 :: t28 :: t29 :: t30 :: t31 :: t32 :: t33 :: t34 :: t35 :: t36 :: t37 :: t38 :: t39 :: t40 :: t41 :: t42 :: t43 :: t44 :: t45 :: t46 :: t47 :: t48 :: t49 :: t50 :: t51 :: t52 :: t53 :: t54 :: t55 :: t56 :: t57 :: t58 :: t59 :: t60 :: t61 :: t62 :: t63 :: t64 :: t65 :: t66 :: t67 :: t68 :: t69 :: t70 :: t71 :: t72 :: t73 :: t74 :: t75 :: t76 :: t77 :: t78 :: t79 :: t80 :: t81 :: t82 :: t83 :: t84 :: t85 :: t86 :: t87 :: t88 :: t89 :: t90 :: t91 :: t92 :: []), h⟩ =
  bm (vPick t85 t91 (V.lit (Value.bool false))) h fun v99 h100 =>
  cnd v99 (
  K .ret ⟨(t0 :: t1 :: t2 :: t3 :: (V.lit (Value.bool false)) :: t5 :: t6 :: t7 :: t8 :: t9 :: t10 :: t11 :: t12 :: t13 :: t14 :: t15 :: t16 :: t17 :: t18 :: t19 :: t20 :: t21 :: t22 :: t23 :: t24 :: t25 :: t26 :: t27 :: t28 :: t29 :: t30 :: t31 :: t32 :: t33 :: t34 :: t35 :: t36 :: t37 :: t38 :: t39 :: t40 :: t41 :: t42 :: t43 :: t44 :: t45 :: t46 :: t47 :: t48 :: t49 :: t50 :: t51 :: t52 :: t53 :: t54 :: t55 :: t56 :: t57 :: t58 :: t59 :: t60 :: t61 :: t62 :: t63 :: t64 :: t65 :: t66 :: t67 :: t68 :: t69 :: t70 :: t71 :: t72 :: t73 :: t74 :: t75 :: t76 :: t77 :: t78 :: t79 :: t80 :: t81 :: t82 :: t83 :: t84 :: t85 :: t86 :: t87 :: t88 :: t89 :: t90 :: t91 :: v99 :: []), h100⟩) (
  bm (vBin s.P .add 3 t6 (V.lit (Value.int .i64 1))) h100 fun v101 h102 =>
  itX (xX s 43 wl k rd) xl43_0 n0 K n ⟨((V.kill n0 t0) :: (V.kill n0 t1) :: (V.kill n0 t2) :: (V.kill n0 t3) :: (V.kill n0 t4) :: (V.kill n0 t5) :: (V.kill n0 v101) :: (V.kill n0 t7) :: (V.kill n0 t8) :: (V.kill n0 t9) :: (V.kill n0 t10) :: (V.kill n0 t11) :: .junk :: .junk :: .junk :: .junk :: .junk :: .junk :: .junk :: .junk :: .junk :: .junk :: .junk :: .junk :: .junk :: .junk :: .junk :: .junk :: .junk :: .junk :: .junk :: .junk :: .junk :: .junk :: .junk :: .junk :: .junk :: .junk :: .junk :: .junk :: .junk :: .junk :: .junk :: .junk :: .junk :: .junk :: .junk :: .junk :: .junk :: .junk :: .junk :: .junk :: .junk :: .junk :: .junk :: .junk :: .junk :: .junk :: .junk :: .junk :: .junk :: .junk :: .junk :: .junk :: .junk :: .junk :: .junk :: .junk :: .junk :: .junk :: .junk :: .junk :: .junk :: .junk :: .junk :: .junk :: .junk :: .junk :: .junk :: .junk :: .junk :: .junk :: .junk :: .junk :: .junk :: .junk :: .junk :: .junk :: .junk :: .junk :: .junk :: .junk :: .junk :: []), cutH n0 h102⟩) :=
  (go_op1 xo43_10 xo43_10a rfl rfl rfl (st_no (by kernel_rfl) (st_bm (by kernel_rfl) fun v99 h100 =>
  (go_end1 xo43_10 (by kernel_rfl) xo43_10a
  (go_cond (by kernel_rfl)
  (go_seq (go_reg0
  (go_op0 rfl rfl (st_id (v := (V.lit (Value.bool false))) (H := h100) (by kernel_rfl)
  (go_end0 (by kernel_rfl)
  (go_ret (rt_block_ret (rt_seq_ret (by kernel_rfl)))))))))
  (go_skip (rt_block_norm (go_reg0
  (go_op0 rfl rfl (st_id (v := t6) (H := h100) (by kernel_rfl)
  (go_op0 rfl rfl (st_bm (by kernel_rfl) fun v101 h102 =>
  (go_op0 rfl rfl (st_id (v := v101) (H := h102) (by kernel_rfl)
  (go_end0 (by kernel_rfl)
  (by kernel_rfl))))))))))))))))
theorem xk43_0_ret (cx : Cx) (K : Out → St → Option (V × Hp)) (s : St) : runK cx K xk43_0 .ret s = K .ret s := by kernel_rfl
theorem xk43_1_ret (cx : Cx) (K : Out → St → Option (V × Hp)) (s : St) : runK cx K xk43_1 .ret s = K .ret s := by kernel_rfl
theorem xk43_2_ret (cx : Cx) (K : Out → St → Option (V × Hp)) (s : St) : runK cx K xk43_2 .ret s = K .ret s := by kernel_rfl
-- names: xb43, xz43, xr43_0, xj43_0, xm43_1, xm43_2, xm43_3, xm43_4, xm43_5, xm43_6, xk43_0_ret, xk43_1_ret, xk43_2_ret
/-! 44 poacher/think.Next: 0 t, 1 s, 2 t, 3 s, 5 x, 6 own -/
noncomputable def xg44_0 : Code := codeAt (bodyOf Try.f44) [1, 0, 0]
noncomputable def xk44_0 : List Fr := [.seq (codeAt (bodyOf Try.f44) [1, 0, 1]), .seq (codeAt (bodyOf Try.f44) [1, 1])]
theorem xb44 (s : Sys) (k wl : Nat) (t0 t1 : V) (h : Hp) : bodyV (xX s 44 wl k false) Try.f44 [t0, t1] h =
  bp (opAlloc s.P 49 h) fun v1 h2 =>
  bp (opLen s.P 43 t1 h2) fun v3 h4 =>
  bm (vBin s.P .eql 3 v3 (V.lit (Value.int .i64 0))) h4 fun v5 h6 =>
  gd v5 (
  opsP (xX s 44 wl k false) xg44_0 8 h2.length ([], []) (runK (xX s 44 wl k false) (bodyK s.P Try.f44) xk44_0) ⟨[t0, t1, uu, uu, v1, uu, uu, t1, v3, v5, (V.lit (Value.bool true)), uu, uu, uu, uu, uu, uu, uu, uu, uu, uu, uu, uu, uu, uu, uu, uu, uu, uu, uu, uu, uu, uu, uu, uu, uu, uu, uu, uu, uu, uu, uu, uu, uu, uu, uu, uu, uu, uu, uu, uu, uu, uu, uu], h6⟩) (
  bp (callV (xX s 44 wl k false) false true (.fn (.func 48) [] []) [t0, t1] h6) fun v7 h8 =>
  bm (vUn .not v7) h8 fun v9 h10 =>
  opsP (xX s 44 wl k false) xg44_0 8 h2.length ([], []) (runK (xX s 44 wl k false) (bodyK s.P Try.f44) xk44_0) ⟨[t0, t1, uu, uu, v1, uu, uu, t1, v3, v5, (V.lit (Value.bool false)), t0, t1, v7, v9, uu, uu, uu, uu, uu, uu, uu, uu, uu, uu, uu, uu, uu, uu, uu, uu, uu, uu, uu, uu, uu, uu, uu, uu, uu, uu, uu, uu, uu, uu, uu, uu, uu, uu, uu, uu, uu, uu, uu], h10⟩) (
  opsP (xX s 44 wl k false) xg44_0 5 h2.length ([], []) (runK (xX s 44 wl k false) (bodyK s.P Try.f44) xk44_0) ⟨[t0, t1, uu, uu, v1, uu, uu, t1, v3, v5, v5, uu, uu, uu, uu, uu, uu, uu, uu, uu, uu, uu, uu, uu, uu, uu, uu, uu, uu, uu, uu, uu, uu, uu, uu, uu, uu, uu, uu, uu, uu, uu, uu, uu, uu, uu, uu, uu, uu, uu, uu, uu, uu, uu], h6⟩) :=
  bodyV_run rfl (go_seq (go_reg0
  (go_op0 rfl rfl (st_bp (by kernel_rfl) fun v1 h2 =>
  (go_end0 (by kernel_rfl)
  (go_seq (go_seq (go_reg0
  (go_op0 rfl rfl (st_id (v := t1) (H := h2) (by kernel_rfl)
  (go_op0 rfl rfl (st_bp (by kernel_rfl) fun v3 h4 =>
  (go_op0 rfl rfl (st_bm (by kernel_rfl) fun v5 h6 =>
  (go_op0 rfl rfl (st_id (v := v5) (H := h6) (by kernel_rfl)
  (go_gdF0 rfl rfl rfl (by kernel_rfl)
  (go_skip0 rfl rfl rfl (by kernel_rfl)
  (go_skip0 rfl rfl rfl (by kernel_rfl)
  (go_skip0 rfl rfl rfl (by kernel_rfl)
  (by kernel_rfl))))
  (st_id (v := t0) (H := h6) (by kernel_rfl)
  (go_run0 rfl rfl rfl (by kernel_rfl) (st_id (v := t1) (H := h6) (by kernel_rfl)
  (go_run0 rfl rfl rfl (by kernel_rfl) (st_bp (by kernel_rfl) fun v7 h8 =>
  (go_run0 rfl rfl rfl (by kernel_rfl) (st_bm (by kernel_rfl) fun v9 h10 =>
  (by kernel_rfl))))))))
  (by kernel_rfl))))))))))))))))))
theorem xe44 (k wl : Nat) (t0 t1 : V) (h : Hp) : evF Try.prog xM (k + 1) wl 44 [t0, t1] h = bodyV (xX (xS k) 44 wl k false) Try.f44 [t0, t1] h := by kernel_rfl
theorem xm44_0 (s : Sys) (k wl : Nat) (m0 : Nat) (ac : List Nat × List Nat) (t0 t1 t2 t3 t4 t5 t6 t7 t8 t9 t10 t11 t12 t13 t14 t15 t16 t17 t18 t19 t20 t21 t22 t23 t24 t25 t26 t27 t28 t29 t30 t31 t32 t33 t34 t35 t36 t37 t38 t39 t40 t41 t42 t43 t44 t45 t46 t47 t48 t49 t50 t51 t52 t53 : V) (h : Hp) : opsP (xX s 44 wl k false) xg44_0 8 m0 ac (runK (xX s 44 wl k false) (bodyK s.P Try.f44) xk44_0) ⟨[t0, t1, t2, t3, t4, t5, t6, t7, t8, t9, t10, t11, t12, t13, t14, t15, t16, t17, t18, t19, t20, t21, t22, t23, t24, t25, t26, t27, t28, t29, t30, t31, t32, t33, t34, t35, t36, t37, t38, t39, t40, t41, t42, t43, t44, t45, t46, t47, t48, t49, t50, t51, t52, t53], h⟩ =
  bm (vPick t10 (V.lit (Value.bool true)) t14) h fun v11 h12 =>
  cnd v11 (
  bm (vBuild s.P 49 []) h12 fun v13 h14 =>
  bs (vStore s.P wl 49 t4 v13 h14) fun h15 =>
  resO [vLoad s.P 49 t4 h15] h15) (
  bp (opLen s.P 43 t1 h12) fun v16 h17 =>
  bm (vBin s.P .sub 3 v16 (V.lit (Value.int .i64 1))) h17 fun v18 h19 =>
  bm (vIndexAddr s.P 43 t1 v18 h19) h19 fun v20 h21 =>
  bm (vLoad s.P 55 v20 h21) h21 fun v22 h23 =>
  bp (opAlloc s.P 55 h23) fun v24 h25 =>
  bs (vStore s.P wl 55 v24 v22 h25) fun h26 =>
  bm (vFieldAddr s.P 55 v24 0) h26 fun v27 h28 =>
  bm (vLoad s.P 3 v27 h28) h28 fun v29 h30 =>
  bm (vIndexAddr s.P 22 t0 v29 h30) h30 fun v31 h32 =>
  bm (vLoad s.P 40 v31 h32) h32 fun v33 h34 =>
  bp (opAlloc s.P 40 h34) fun v35 h36 =>
  bs (vStore s.P wl 40 v35 v33 h36) fun h37 =>
  bm (vFieldAddr s.P 55 v24 1) h37 fun v38 h39 =>
  bm (vLoad s.P 3 v38 h39) h39 fun v40 h41 =>
  bm (vFieldAddr s.P 40 v35 0) h41 fun v42 h43 =>
  bm (vLoad s.P 3 v42 h43) h43 fun v44 h45 =>
  bm (vBin s.P .lss 3 v40 v44) h45 fun v46 h47 =>
  cnd v46 (
  bm (vFieldAddr s.P 55 v24 0) h47 fun v48 h49 =>
  bm (vLoad s.P 3 v48 h49) h49 fun v50 h51 =>
  bm (vBuild s.P 49 [(0, (V.lit (Value.int .i64 1))), (1, v50)]) h51 fun v52 h53 =>
  bs (vStore s.P wl 49 t4 v52 h53) fun h54 =>
  resO [vLoad s.P 49 t4 h54] h54) (
  bm (vFieldAddr s.P 55 v24 2) h47 fun v55 h56 =>
  bm (vLoad s.P 3 v55 h56) h56 fun v57 h58 =>
  bm (vFieldAddr s.P 40 v35 1) h58 fun v59 h60 =>
  bm (vLoad s.P 23 v59 h60) h60 fun v61 h62 =>
  bp (opLen s.P 23 v61 h62) fun v63 h64 =>
  bm (vBin s.P .lss 3 v57 v63) h64 fun v65 h66 =>
  cnd v65 (
  bm (vFieldAddr s.P 40 v35 1) h66 fun v67 h68 =>
  bm (vLoad s.P 23 v67 h68) h68 fun v69 h70 =>
  bm (vFieldAddr s.P 55 v24 2) h70 fun v71 h72 =>
  bm (vLoad s.P 3 v71 h72) h72 fun v73 h74 =>
  bm (vIndexAddr s.P 23 v69 v73 h74) h74 fun v75 h76 =>
  bm (vLoad s.P 3 v75 h76) h76 fun v77 h78 =>
  bm (vBuild s.P 49 [(0, (V.lit (Value.int .i64 2))), (1, v77)]) h78 fun v79 h80 =>
  bs (vStore s.P wl 49 t4 v79 h80) fun h81 =>
  resO [vLoad s.P 49 t4 h81] h81) (
  bm (vFieldAddr s.P 55 v24 0) h66 fun v82 h83 =>
  bm (vLoad s.P 3 v82 h83) h83 fun v84 h85 =>
  bm (vBuild s.P 49 [(0, (V.lit (Value.int .i64 3))), (1, v84)]) h85 fun v86 h87 =>
  bs (vStore s.P wl 49 t4 v86 h87) fun h88 =>
  resO [vLoad s.P 49 t4 h88] h88))) :=
  (go_op0 rfl rfl (st_bm (by kernel_rfl) fun v11 h12 =>
  (go_end0 (by kernel_rfl)
  (go_cond (by kernel_rfl)
  (go_seq (go_reg0
  (go_op0 rfl rfl (st_bm (by kernel_rfl) fun v13 h14 =>
  (go_op0 rfl rfl (st_bs (by kernel_rfl) fun h15 =>
  (go_end0 (by kernel_rfl)
  (go_ret (rt_seq_ret (by kernel_rfl))))))))))
  (go_skip (go_seq (go_reg0
  (go_op0 rfl rfl (st_id (v := t1) (H := h12) (by kernel_rfl)
  (go_op0 rfl rfl (st_id (v := t1) (H := h12) (by kernel_rfl)
  (go_op0 rfl rfl (st_bp (by kernel_rfl) fun v16 h17 =>
  (go_op0 rfl rfl (st_bm (by kernel_rfl) fun v18 h19 =>
  (go_op0 rfl rfl (st_bm (by kernel_rfl) fun v20 h21 =>
  (go_op0 rfl rfl (st_bm (by kernel_rfl) fun v22 h23 =>
  (go_op0 rfl rfl (st_bp (by kernel_rfl) fun v24 h25 =>
  (go_op0 rfl rfl (st_bs (by kernel_rfl) fun h26 =>
  (go_end0 (by kernel_rfl)
  (go_seq (go_reg0
  (go_op0 rfl rfl (st_id (v := t0) (H := h26) (by kernel_rfl)
  (go_op0 rfl rfl (st_bm (by kernel_rfl) fun v27 h28 =>
  (go_op0 rfl rfl (st_bm (by kernel_rfl) fun v29 h30 =>
  (go_op0 rfl rfl (st_bm (by kernel_rfl) fun v31 h32 =>
  (go_op0 rfl rfl (st_bm (by kernel_rfl) fun v33 h34 =>
  (go_op0 rfl rfl (st_bp (by kernel_rfl) fun v35 h36 =>
  (go_op0 rfl rfl (st_bs (by kernel_rfl) fun h37 =>
  (go_end0 (by kernel_rfl)
  (go_seq (go_block (go_seq (go_reg0
  (go_op0 rfl rfl (st_bm (by kernel_rfl) fun v38 h39 =>
  (go_op0 rfl rfl (st_bm (by kernel_rfl) fun v40 h41 =>
  (go_op0 rfl rfl (st_bm (by kernel_rfl) fun v42 h43 =>
  (go_op0 rfl rfl (st_bm (by kernel_rfl) fun v44 h45 =>
  (go_op0 rfl rfl (st_bm (by kernel_rfl) fun v46 h47 =>
  (go_op0 rfl rfl (st_id (v := v46) (H := h47) (by kernel_rfl)
  (go_end0 (by kernel_rfl)
  (go_cond (by kernel_rfl)
  (go_seq (go_reg0
  (go_op0 rfl rfl (st_bm (by kernel_rfl) fun v48 h49 =>
  (go_op0 rfl rfl (st_bm (by kernel_rfl) fun v50 h51 =>
  (go_op0 rfl rfl (st_bm (by kernel_rfl) fun v52 h53 =>
  (go_op0 rfl rfl (st_bs (by kernel_rfl) fun h54 =>
  (go_end0 (by kernel_rfl)
  (go_ret (rt_block_ret (rt_seq_ret (by kernel_rfl)))))))))))))))
  (go_seq (go_reg0
  (go_op0 rfl rfl (st_bm (by kernel_rfl) fun v55 h56 =>
  (go_op0 rfl rfl (st_bm (by kernel_rfl) fun v57 h58 =>
  (go_op0 rfl rfl (st_bm (by kernel_rfl) fun v59 h60 =>
  (go_op0 rfl rfl (st_bm (by kernel_rfl) fun v61 h62 =>
  (go_op0 rfl rfl (st_bp (by kernel_rfl) fun v63 h64 =>
  (go_op0 rfl rfl (st_bm (by kernel_rfl) fun v65 h66 =>
  (go_op0 rfl rfl (st_id (v := v65) (H := h66) (by kernel_rfl)
  (go_end0 (by kernel_rfl)
  (go_cond (by kernel_rfl)
  (go_seq (go_reg0
  (go_op0 rfl rfl (st_bm (by kernel_rfl) fun v67 h68 =>
  (go_op0 rfl rfl (st_bm (by kernel_rfl) fun v69 h70 =>
  (go_op0 rfl rfl (st_bm (by kernel_rfl) fun v71 h72 =>
  (go_op0 rfl rfl (st_bm (by kernel_rfl) fun v73 h74 =>
  (go_op0 rfl rfl (st_bm (by kernel_rfl) fun v75 h76 =>
  (go_op0 rfl rfl (st_bm (by kernel_rfl) fun v77 h78 =>
  (go_op0 rfl rfl (st_bm (by kernel_rfl) fun v79 h80 =>
  (go_op0 rfl rfl (st_bs (by kernel_rfl) fun h81 =>
  (go_end0 (by kernel_rfl)
  (go_ret (rt_block_ret (rt_seq_ret (by kernel_rfl)))))))))))))))))))))))
  (go_skip (rt_block_norm (go_seq (go_reg0
  (go_op0 rfl rfl (st_bm (by kernel_rfl) fun v82 h83 =>
  (go_op0 rfl rfl (st_bm (by kernel_rfl) fun v84 h85 =>
  (go_op0 rfl rfl (st_bm (by kernel_rfl) fun v86 h87 =>
  (go_op0 rfl rfl (st_bs (by kernel_rfl) fun h88 =>
  (go_end0 (by kernel_rfl)
  (go_ret (by kernel_rfl))))))))))))))))))))))))))))))))))))))))))))))))))))))))))))))))))))))))))))))))))))))))))))
theorem xk44_0_ret (cx : Cx) (K : Out → St → Option (V × Hp)) (s : St) : runK cx K xk44_0 .ret s = K .ret s := by kernel_rfl
-- names: xb44, xm44_0, xk44_0_ret
/-! 45 poacher/poacherref17.Next: 0 t, 1 s, 2 t, 3 s, 5 may, 6 x -/
noncomputable def xg45_0 : Code := codeAt (bodyOf Try.f45) [1, 1, 0, 0]
noncomputable def xk45_0 : List Fr := [.seq (codeAt (bodyOf Try.f45) [1, 1, 0, 1]), .seq (codeAt (bodyOf Try.f45) [1, 1, 1])]
noncomputable def xg45_1 : Code := codeAt (bodyOf Try.f45) [1, 1, 1, 1, 0, 0]
noncomputable def xg45_2 : Code := codeAt (bodyOf Try.f45) [1, 1, 1, 1, 1, 0, 0]
noncomputable def xg45_3 : Code := codeAt (bodyOf Try.f45) [1, 1, 1, 1, 1, 0, 1, 0, 0]
theorem xo45_5 : orderIx (opsOf xg45_1) = [0, 1, 2, 3, 4, 5, 6, 7, 8] := by kernel_rfl
theorem xo45_5a : (rgOf (opsOf xg45_1)).any = false := by kernel_rfl
theorem xo45_5r : regOk (opsOf xg45_1) = true := by kernel_rfl
theorem xo45_7 : orderIx (opsOf xg45_2) = [0, 1, 2, 3, 4, 5, 6, 7, 8, 9] := by kernel_rfl
theorem xo45_7a : (rgOf (opsOf xg45_2)).any = false := by kernel_rfl
theorem xo45_7r : regOk (opsOf xg45_2) = true := by kernel_rfl
theorem xo45_8 : orderIx (opsOf xg45_3) = [0, 1, 2, 3, 4, 5, 6, 7, 8, 9, 10, 11] := by kernel_rfl
theorem xo45_8a : (rgOf (opsOf xg45_3)).any = false := by kernel_rfl
theorem xo45_8r : regOk (opsOf xg45_3) = true := by kernel_rfl
theorem xb45 (s : Sys) (k wl : Nat) (t0 t1 : V) (h : Hp) : bodyV (xX s 45 wl k false) Try.f45 [t0, t1] h =
  bp (opAlloc s.P 49 h) fun v1 h2 =>
  bp (callV (xX s 45 wl k false) false true (.fn (.func 43) [] []) [t0, t1] h2) fun v3 h4 =>
  bm (vUn .not v3) h4 fun v5 h6 =>
  gd v5 (
  opsP (xX s 45 wl k false) xg45_0 6 h4.length ([], []) (runK (xX s 45 wl k false) (bodyK s.P Try.f45) xk45_0) ⟨[t0, t1, uu, uu, v1, v3, uu, t0, t1, v3, v3, v5, (V.lit (Value.bool true)), uu, uu, uu, uu, uu, uu, uu, uu, uu, uu, uu, uu, uu, uu, uu, uu, uu, uu, uu, uu, uu, uu, uu, uu, uu, uu, uu, uu, uu, uu, uu, uu, uu, uu, uu, uu, uu, uu, uu, uu, uu, uu, uu, uu, uu, uu, uu], h6⟩) (
  bp (opLen s.P 43 t1 h6) fun v7 h8 =>
  bm (vBin s.P .eql 3 v7 (V.lit (Value.int .i64 0))) h8 fun v9 h10 =>
  opsP (xX s 45 wl k false) xg45_0 6 h4.length ([], []) (runK (xX s 45 wl k false) (bodyK s.P Try.f45) xk45_0) ⟨[t0, t1, uu, uu, v1, v3, uu, t0, t1, v3, v3, v5, (V.lit (Value.bool false)), t1, v7, v9, uu, uu, uu, uu, uu, uu, uu, uu, uu, uu, uu, uu, uu, uu, uu, uu, uu, uu, uu, uu, uu, uu, uu, uu, uu, uu, uu, uu, uu, uu, uu, uu, uu, uu, uu, uu, uu, uu, uu, uu, uu, uu, uu, uu], h10⟩) (
  opsP (xX s 45 wl k false) xg45_0 4 h4.length ([], []) (runK (xX s 45 wl k false) (bodyK s.P Try.f45) xk45_0) ⟨[t0, t1, uu, uu, v1, v3, uu, t0, t1, v3, v3, v5, v5, uu, uu, uu, uu, uu, uu, uu, uu, uu, uu, uu, uu, uu, uu, uu, uu, uu, uu, uu, uu, uu, uu, uu, uu, uu, uu, uu, uu, uu, uu, uu, uu, uu, uu, uu, uu, uu, uu, uu, uu, uu, uu, uu, uu, uu, uu, uu], h6⟩) :=
  bodyV_run rfl (go_seq (go_reg0
  (go_op0 rfl rfl (st_bp (by kernel_rfl) fun v1 h2 =>
  (go_end0 (by kernel_rfl)
  (go_seq (go_reg0
  (go_op0 rfl rfl (st_id (v := t0) (H := h2) (by kernel_rfl)
  (go_op0 rfl rfl (st_id (v := t1) (H := h2) (by kernel_rfl)
  (go_op0 rfl rfl (st_bp (by kernel_rfl) fun v3 h4 =>
  (go_op0 rfl rfl (st_id (v := v3) (H := h4) (by kernel_rfl)
  (go_end0 (by kernel_rfl)
  (go_seq (go_seq (go_reg0
  (go_op0 rfl rfl (st_id (v := v3) (H := h4) (by kernel_rfl)
  (go_op0 rfl rfl (st_bm (by kernel_rfl) fun v5 h6 =>
  (go_op0 rfl rfl (st_id (v := v5) (H := h6) (by kernel_rfl)
  (go_gdF0 rfl rfl rfl (by kernel_rfl)
  (go_skip0 rfl rfl rfl (by kernel_rfl)
  (go_skip0 rfl rfl rfl (by kernel_rfl)
  (by kernel_rfl)))
  (st_id (v := t1) (H := h6) (by kernel_rfl)
  (go_run0 rfl rfl rfl (by kernel_rfl) (st_bp (by kernel_rfl) fun v7 h8 =>
  (go_run0 rfl rfl rfl (by kernel_rfl) (st_bm (by kernel_rfl) fun v9 h10 =>
  (by kernel_rfl))))))
  (by kernel_rfl)))))))))))))))))))))))))))
theorem xe45 (k wl : Nat) (t0 t1 : V) (h : Hp) : evF Try.prog xM (k + 1) wl 45 [t0, t1] h = bodyV (xX (xS k) 45 wl k false) Try.f45 [t0, t1] h := by kernel_rfl
theorem xm45_0 (s : Sys) (k wl : Nat) (m0 : Nat) (ac : List Nat × List Nat) (t0 t1 t2 t3 t4 t5 t6 t7 t8 t9 t10 t11 t12 t13 t14 t15 t16 t17 t18 t19 t20 t21 t22 t23 t24 t25 t26 t27 t28 t29 t30 t31 t32 t33 t34 t35 t36 t37 t38 t39 t40 t41 t42 t43 t44 t45 t46 t47 t48 t49 t50 t51 t52 t53 t54 t55 t56 t57 t58 t59 : V) (h : Hp) : opsP (xX s 45 wl k false) xg45_0 6 m0 ac (runK (xX s 45 wl k false) (bodyK s.P Try.f45) xk45_0) ⟨[t0, t1, t2, t3, t4, t5, t6, t7, t8, t9, t10, t11, t12, t13, t14, t15, t16, t17, t18, t19, t20, t21, t22, t23, t24, t25, t26, t27, t28, t29, t30, t31, t32, t33, t34, t35, t36, t37, t38, t39, t40, t41, t42, t43, t44, t45, t46, t47, t48, t49, t50, t51, t52, t53, t54, t55, t56, t57, t58, t59], h⟩ =
  bm (vPick t12 (V.lit (Value.bool true)) t15) h fun v11 h12 =>
  cnd v11 (
  bm (vBuild s.P 49 []) h12 fun v13 h14 =>
  bs (vStore s.P wl 49 t4 v13 h14) fun h15 =>
  resO [vLoad s.P 49 t4 h15] h15) (
  bp (opLen s.P 43 t1 h12) fun v16 h17 =>
  bm (vBin s.P .sub 3 v16 (V.lit (Value.int .i64 1))) h17 fun v18 h19 =>
  bm (vIndexAddr s.P 43 t1 v18 h19) h19 fun v20 h21 =>
  bm (vLoad s.P 55 v20 h21) h21 fun v22 h23 =>
  bp (opAlloc s.P 55 h23) fun v24 h25 =>
  bs (vStore s.P wl 55 v24 v22 h25) fun h26 =>
  bm (vFieldAddr s.P 55 v24 1) h26 fun v27 h28 =>
  bm (vLoad s.P 3 v27 h28) h28 fun v29 h30 =>
  bm (vFieldAddr s.P 55 v24 0) h30 fun v31 h32 =>
  bm (vLoad s.P 3 v31 h32) h32 fun v33 h34 =>
  bm (vIndexAddr s.P 22 t0 v33 h34) h34 fun v35 h36 =>
  bm (vFieldAddr s.P 40 v35 0) h36 fun v37 h38 =>
  bm (vLoad s.P 3 v37 h38) h38 fun v39 h40 =>
  bm (vBin s.P .lss 3 v29 v39) h40 fun v41 h42 =>
  cnd v41 (
  bm (vFieldAddr s.P 55 v24 0) h42 fun v43 h44 =>
  bm (vLoad s.P 3 v43 h44) h44 fun v45 h46 =>
  bm (vBuild s.P 49 [(0, (V.lit (Value.int .i64 1))), (1, v45)]) h46 fun v47 h48 =>
  bs (vStore s.P wl 49 t4 v47 h48) fun h49 =>
  resO [vLoad s.P 49 t4 h49] h49) (
  bm (vFieldAddr s.P 55 v24 2) h42 fun v50 h51 =>
  bm (vLoad s.P 3 v50 h51) h51 fun v52 h53 =>
  bm (vFieldAddr s.P 55 v24 0) h53 fun v54 h55 =>
  bm (vLoad s.P 3 v54 h55) h55 fun v56 h57 =>
  bm (vIndexAddr s.P 22 t0 v56 h57) h57 fun v58 h59 =>
  bm (vFieldAddr s.P 40 v58 1) h59 fun v60 h61 =>
  bm (vLoad s.P 23 v60 h61) h61 fun v62 h63 =>
  bp (opLen s.P 23 v62 h63) fun v64 h65 =>
  bm (vBin s.P .lss 3 v52 v64) h65 fun v66 h67 =>
  cnd v66 (
  bm (vFieldAddr s.P 55 v24 0) h67 fun v68 h69 =>
  bm (vLoad s.P 3 v68 h69) h69 fun v70 h71 =>
  bm (vIndexAddr s.P 22 t0 v70 h71) h71 fun v72 h73 =>
  bm (vFieldAddr s.P 40 v72 1) h73 fun v74 h75 =>
  bm (vLoad s.P 23 v74 h75) h75 fun v76 h77 =>
  bm (vFieldAddr s.P 55 v24 2) h77 fun v78 h79 =>
  bm (vLoad s.P 3 v78 h79) h79 fun v80 h81 =>
  bm (vIndexAddr s.P 23 v76 v80 h81) h81 fun v82 h83 =>
  bm (vLoad s.P 3 v82 h83) h83 fun v84 h85 =>
  bm (vBuild s.P 49 [(0, (V.lit (Value.int .i64 2))), (1, v84)]) h85 fun v86 h87 =>
  bs (vStore s.P wl 49 t4 v86 h87) fun h88 =>
  resO [vLoad s.P 49 t4 h88] h88) (
  bm (vFieldAddr s.P 55 v24 0) h67 fun v89 h90 =>
  bm (vLoad s.P 3 v89 h90) h90 fun v91 h92 =>
  bm (vBuild s.P 49 [(0, (V.lit (Value.int .i64 3))), (1, v91)]) h92 fun v93 h94 =>
  bs (vStore s.P wl 49 t4 v93 h94) fun h95 =>
  resO [vLoad s.P 49 t4 h95] h95))) :=
  (go_op0 rfl rfl (st_bm (by kernel_rfl) fun v11 h12 =>
  (go_end0 (by kernel_rfl)
  (go_cond (by kernel_rfl)
  (go_seq (go_reg0
  (go_op0 rfl rfl (st_bm (by kernel_rfl) fun v13 h14 =>
  (go_op0 rfl rfl (st_bs (by kernel_rfl) fun h15 =>
  (go_end0 (by kernel_rfl)
  (go_ret (rt_seq_ret (by kernel_rfl))))))))))
  (go_skip (go_seq (go_reg0
  (go_op0 rfl rfl (st_id (v := t1) (H := h12) (by kernel_rfl)
  (go_op0 rfl rfl (st_id (v := t1) (H := h12) (by kernel_rfl)
  (go_op0 rfl rfl (st_bp (by kernel_rfl) fun v16 h17 =>
  (go_op0 rfl rfl (st_bm (by kernel_rfl) fun v18 h19 =>
  (go_op0 rfl rfl (st_bm (by kernel_rfl) fun v20 h21 =>
  (go_op0 rfl rfl (st_bm (by kernel_rfl) fun v22 h23 =>
  (go_op0 rfl rfl (st_bp (by kernel_rfl) fun v24 h25 =>
  (go_op0 rfl rfl (st_bs (by kernel_rfl) fun h26 =>
  (go_end0 (by kernel_rfl)
  (go_seq (go_seq (go_reg1 xo45_5r
  (go_op1 xo45_5 xo45_5a rfl rfl rfl (st_no (by kernel_rfl) (st_bm (by kernel_rfl) fun v27 h28 =>
  (go_op1 xo45_5 xo45_5a rfl rfl rfl (st_no (by kernel_rfl) (st_bm (by kernel_rfl) fun v29 h30 =>
  (go_op1 xo45_5 xo45_5a rfl rfl rfl (st_no (by kernel_rfl) (st_id (v := t0) (H := h30) (by kernel_rfl)
  (go_op1 xo45_5 xo45_5a rfl rfl rfl (st_no (by kernel_rfl) (st_bm (by kernel_rfl) fun v31 h32 =>
  (go_op1 xo45_5 xo45_5a rfl rfl rfl (st_no (by kernel_rfl) (st_bm (by kernel_rfl) fun v33 h34 =>
  (go_op1 xo45_5 xo45_5a rfl rfl rfl (st_no (by kernel_rfl) (st_bm (by kernel_rfl) fun v35 h36 =>
  (go_op1 xo45_5 xo45_5a rfl rfl rfl (st_no (by kernel_rfl) (st_bm (by kernel_rfl) fun v37 h38 =>
  (go_op1 xo45_5 xo45_5a rfl rfl rfl (st_no (by kernel_rfl) (st_bm (by kernel_rfl) fun v39 h40 =>
  (go_op1 xo45_5 xo45_5a rfl rfl rfl (st_no (by kernel_rfl) (st_bm (by kernel_rfl) fun v41 h42 =>
  (go_end1 xo45_5 (by kernel_rfl) xo45_5a
  (go_cond (by kernel_rfl)
  (go_seq (go_reg0
  (go_op0 rfl rfl (st_bm (by kernel_rfl) fun v43 h44 =>
  (go_op0 rfl rfl (st_bm (by kernel_rfl) fun v45 h46 =>
  (go_op0 rfl rfl (st_bm (by kernel_rfl) fun v47 h48 =>
  (go_op0 rfl rfl (st_bs (by kernel_rfl) fun h49 =>
  (go_end0 (by kernel_rfl)
  (go_ret (rt_seq_ret (by kernel_rfl))))))))))))))
  (go_skip (go_seq (go_seq (go_reg1 xo45_7r
  (go_op1 xo45_7 xo45_7a rfl rfl rfl (st_no (by kernel_rfl) (st_bm (by kernel_rfl) fun v50 h51 =>
  (go_op1 xo45_7 xo45_7a rfl rfl rfl (st_no (by kernel_rfl) (st_bm (by kernel_rfl) fun v52 h53 =>
  (go_op1 xo45_7 xo45_7a rfl rfl rfl (st_no (by kernel_rfl) (st_id (v := t0) (H := h53) (by kernel_rfl)
  (go_op1 xo45_7 xo45_7a rfl rfl rfl (st_no (by kernel_rfl) (st_bm (by kernel_rfl) fun v54 h55 =>
  (go_op1 xo45_7 xo45_7a rfl rfl rfl (st_no (by kernel_rfl) (st_bm (by kernel_rfl) fun v56 h57 =>
  (go_op1 xo45_7 xo45_7a rfl rfl rfl (st_no (by kernel_rfl) (st_bm (by kernel_rfl) fun v58 h59 =>
  (go_op1 xo45_7 xo45_7a rfl rfl rfl (st_no (by kernel_rfl) (st_bm (by kernel_rfl) fun v60 h61 =>
  (go_op1 xo45_7 xo45_7a rfl rfl rfl (st_no (by kernel_rfl) (st_bm (by kernel_rfl) fun v62 h63 =>
  (go_op1 xo45_7 xo45_7a rfl rfl rfl (st_no (by kernel_rfl) (st_bp (by kernel_rfl) fun v64 h65 =>
  (go_op1 xo45_7 xo45_7a rfl rfl rfl (st_no (by kernel_rfl) (st_bm (by kernel_rfl) fun v66 h67 =>
  (go_end1 xo45_7 (by kernel_rfl) xo45_7a
  (go_cond (by kernel_rfl)
  (go_seq (go_reg1 xo45_8r
  (go_op1 xo45_8 xo45_8a rfl rfl rfl (st_no (by kernel_rfl) (st_id (v := t0) (H := h67) (by kernel_rfl)
  (go_op1 xo45_8 xo45_8a rfl rfl rfl (st_no (by kernel_rfl) (st_bm (by kernel_rfl) fun v68 h69 =>
  (go_op1 xo45_8 xo45_8a rfl rfl rfl (st_no (by kernel_rfl) (st_bm (by kernel_rfl) fun v70 h71 =>
  (go_op1 xo45_8 xo45_8a rfl rfl rfl (st_no (by kernel_rfl) (st_bm (by kernel_rfl) fun v72 h73 =>
  (go_op1 xo45_8 xo45_8a rfl rfl rfl (st_no (by kernel_rfl) (st_bm (by kernel_rfl) fun v74 h75 =>
  (go_op1 xo45_8 xo45_8a rfl rfl rfl (st_no (by kernel_rfl) (st_bm (by kernel_rfl) fun v76 h77 =>
  (go_op1 xo45_8 xo45_8a rfl rfl rfl (st_no (by kernel_rfl) (st_bm (by kernel_rfl) fun v78 h79 =>
  (go_op1 xo45_8 xo45_8a rfl rfl rfl (st_no (by kernel_rfl) (st_bm (by kernel_rfl) fun v80 h81 =>
  (go_op1 xo45_8 xo45_8a rfl rfl rfl (st_no (by kernel_rfl) (st_bm (by kernel_rfl) fun v82 h83 =>
  (go_op1 xo45_8 xo45_8a rfl rfl rfl (st_no (by kernel_rfl) (st_bm (by kernel_rfl) fun v84 h85 =>
  (go_op1 xo45_8 xo45_8a rfl rfl rfl (st_no (by kernel_rfl) (st_bm (by kernel_rfl) fun v86 h87 =>
  (go_op1 xo45_8 xo45_8a rfl rfl rfl (st_no (by kernel_rfl) (st_bs (by kernel_rfl) fun h88 =>
  (go_end1 xo45_8 (by kernel_rfl) xo45_8a
  (go_ret (rt_seq_ret (by kernel_rfl))))))))))))))))))))))))))))))))))))))))))
  (go_skip (go_seq (go_reg0
  (go_op0 rfl rfl (st_bm (by kernel_rfl) fun v89 h90 =>
  (go_op0 rfl rfl (st_bm (by kernel_rfl) fun v91 h92 =>
  (go_op0 rfl rfl (st_bm (by kernel_rfl) fun v93 h94 =>
  (go_op0 rfl rfl (st_bs (by kernel_rfl) fun h95 =>
  (go_end0 (by kernel_rfl)
  (go_ret (by kernel_rfl))))))))))))))))))))))))))))))))))))))))))))))))))))))))))))))))))))))))))))))))))))))))))))))))))))))))))
theorem xk45_0_ret (cx : Cx) (K : Out → St → Option (V × Hp)) (s : St) : runK cx K xk45_0 .ret s = K .ret s := by kernel_rfl
-- names: xb45, xm45_0, xk45_0_ret
/-! 46 poacher/think.Left: 0 t, 1 s, 2 t, 3 s, 5 n, 6 _, 7 x -/
noncomputable def xl46_0 : Code := codeAt (bodyOf Try.f46) [1, 1, 0, 1, 0, 1, 0, 0]
noncomputable def xk46_0 : List Fr := [.block 0, .seq (codeAt (bodyOf Try.f46) [1, 1, 1])]
noncomputable def xk46_1 : List Fr := [.seq (codeAt (bodyOf Try.f46) [1, 1, 1])]
noncomputable def xg46_0 : Code := codeAt (bodyOf Try.f46) [1, 1, 0, 1, 0, 1, 0, 0, 1, 1, 0, 0, 1]
theorem xo46_6 : orderIx (opsOf xg46_0) = [0, 1, 2, 3, 4, 5, 6, 7, 8, 9, 10, 11, 12, 13, 14, 15, 16, 17, 18, 19, 20, 21, 22, 23] := by kernel_rfl
theorem xo46_6a : (rgOf (opsOf xg46_0)).any = false := by kernel_rfl
theorem xo46_6r : regOk (opsOf xg46_0) = true := by kernel_rfl
theorem xb46 (s : Sys) (k wl : Nat) (t0 t1 : V) (h : Hp) : bodyV (xX s 46 wl k false) Try.f46 [t0, t1] h =
  bp (callV (xX s 46 wl k false) false true (.fn (.func 48) [] []) [t0, t1] h) fun v1 h2 =>
  cnd v1 (
  bp (opLen s.P 43 t1 h2) fun v3 h4 =>
  itX (xX s 46 wl k false) xl46_0 h4.length (runK (xX s 46 wl k false) (bodyK s.P Try.f46) xk46_0) k ⟨[(V.kill h4.length t0), (V.kill h4.length t1), (V.kill h4.length uu), (V.kill h4.length uu), (V.lit (Value.int .i64 0)), (V.lit (Value.int .i64 0)), (V.kill h4.length uu), (V.kill h4.length uu), (V.kill h4.length t0), (V.kill h4.length t1), (V.kill h4.length v1), (V.kill h4.length t1), (V.kill h4.length v3), (V.lit (Value.int .i64 0)), .junk, .junk, .junk, .junk, .junk, .junk, .junk, .junk, .junk, .junk, .junk, .junk, .junk, .junk, .junk, .junk, .junk, .junk, .junk, .junk, .junk, .junk, .junk, .junk, .junk, .junk, .junk, (V.kill h4.length uu)], cutH h4.length h4⟩) (
  runK (xX s 46 wl k false) (bodyK s.P Try.f46) xk46_1 .norm ⟨[t0, t1, uu, uu, (V.lit (Value.int .i64 0)), (V.lit (Value.int .i64 0)), uu, uu, t0, t1, v1, uu, uu, uu, uu, uu, uu, uu, uu, uu, uu, uu, uu, uu, uu, uu, uu, uu, uu, uu, uu, uu, uu, uu, uu, uu, uu, uu, uu, uu, uu, uu], h2⟩) :=
  bodyV_run rfl (go_seq (go_reg0
  (go_op0 rfl rfl (st_id (v := (V.lit (Value.int .i64 0))) (H := h) (by kernel_rfl)
  (go_end0 (by kernel_rfl)
  (go_seq (go_reg0
  (go_op0 rfl rfl (st_id (v := (V.lit (Value.int .i64 0))) (H := h) (by kernel_rfl)
  (go_end0 (by kernel_rfl)
  (go_seq (go_seq (go_reg0
  (go_op0 rfl rfl (st_id (v := t0) (H := h) (by kernel_rfl)
  (go_op0 rfl rfl (st_id (v := t1) (H := h) (by kernel_rfl)
  (go_op0 rfl rfl (st_bp (by kernel_rfl) fun v1 h2 =>
  (go_end0 (by kernel_rfl)
  (go_cond (by kernel_rfl)
  (go_seq (go_reg0
  (go_op0 rfl rfl (st_id (v := t1) (H := h2) (by kernel_rfl)
  (go_op0 rfl rfl (st_bp (by kernel_rfl) fun v3 h4 =>
  (go_op0 rfl rfl (st_id (v := (V.lit (Value.int .i64 0))) (H := h4) (by kernel_rfl)
  (go_end0 (by kernel_rfl)
  (go_block (by kernel_rfl)))))))))))
  (go_skip (by kernel_rfl)))))))))))))))))))))))
theorem xe46 (k wl : Nat) (t0 t1 : V) (h : Hp) : evF Try.prog xM (k + 1) wl 46 [t0, t1] h = bodyV (xX (xS k) 46 wl k false) Try.f46 [t0, t1] h := by kernel_rfl
theorem xz46 (P : Program) (t0 t1 t2 t3 t4 t5 t6 t7 t8 t9 t10 t11 t12 t13 t14 t15 t16 t17 t18 t19 t20 t21 t22 t23 t24 t25 t26 t27 t28 t29 t30 t31 t32 t33 t34 t35 t36 t37 t38 t39 t40 t41 : V) (h : Hp) : bodyK P Try.f46 .ret ⟨[t0, t1, t2, t3, t4, t5, t6, t7, t8, t9, t10, t11, t12, t13, t14, t15, t16, t17, t18, t19, t20, t21, t22, t23, t24, t25, t26, t27, t28, t29, t30, t31, t32, t33, t34, t35, t36, t37, t38, t39, t40, t41], h⟩ = some (t4, h) := by kernel_rfl
theorem xr46_0 (s : Sys) (K : Out → St → Option (V × Hp)) (k wl : Nat) (rd : Bool) (n n0 : Nat) (t0 t1 t2 t3 t4 t5 t6 t7 t8 t9 t10 t11 t12 t13 t14 t15 t16 t17 t18 t19 t20 t21 t22 t23 t24 t25 t26 t27 t28 t29 t30 t31 t32 t33 t34 t35 t36 t37 t38 t39 t40 t41 : V) (h : Hp) : itX (xX s 46 wl k rd) xl46_0 n0 K (n + 1) ⟨[t0, t1, t2, t3, t4, t5, t6, t7, t8, t9, t10, t11, t12, t13, t14, t15, t16, t17, t18, t19, t20, t21, t22, t23, t24, t25, t26, t27, t28, t29, t30, t31, t32, t33, t34, t35, t36, t37, t38, t39, t40, t41], h⟩ =
  bm (vBin s.P .lss 3 t13 t12) h fun v5 h6 =>
  cnd v5 (
  bm (vIndexAddr s.P 43 t11 t13 h6) h6 fun v7 h8 =>
  bm (vLoad s.P 55 v7 h8) h8 fun v9 h10 =>
  bp (opAlloc s.P 55 h10) fun v11 h12 =>
  bs (vStore s.P wl 55 v11 v9 h12) fun h13 =>
  bm (vFieldAddr s.P 55 v11 0) h13 fun v14 h15 =>
  bm (vLoad s.P 3 v14 h15) h15 fun v16 h17 =>
  bm (vIndexAddr s.P 22 t0 v16 h17) h17 fun v18 h19 =>
  bm (vFieldAddr s.P 40 v18 0) h19 fun v20 h21 =>
  bm (vLoad s.P 3 v20 h21) h21 fun v22 h23 =>
  bm (vFieldAddr s.P 55 v11 1) h23 fun v24 h25 =>
  bm (vLoad s.P 3 v24 h25) h25 fun v26 h27 =>
  bm (vBin s.P .sub 3 v22 v26) h27 fun v28 h29 =>
  bm (vFieldAddr s.P 55 v11 0) h29 fun v30 h31 =>
  bm (vLoad s.P 3 v30 h31) h31 fun v32 h33 =>
  bm (vIndexAddr s.P 22 t0 v32 h33) h33 fun v34 h35 =>
  bm (vFieldAddr s.P 40 v34 1) h35 fun v36 h37 =>
  bm (vLoad s.P 23 v36 h37) h37 fun v38 h39 =>
  bp (opLen s.P 23 v38 h39) fun v40 h41 =>
  bm (vBin s.P .add 3 v28 v40) h41 fun v42 h43 =>
  bm (vFieldAddr s.P 55 v11 2) h43 fun v44 h45 =>
  bm (vLoad s.P 3 v44 h45) h45 fun v46 h47 =>
  bm (vBin s.P .sub 3 v42 v46) h47 fun v48 h49 =>
  bm (vBin s.P .add 3 v48 (V.lit (Value.int .i64 1))) h49 fun v50 h51 =>
  bm (vBin s.P .add 3 t5 v50) h51 fun v52 h53 =>
  bm (vBin s.P .add 3 t13 (V.lit (Value.int .i64 1))) h53 fun v54 h55 =>
  itX (xX s 46 wl k rd) xl46_0 n0 K n ⟨[(V.kill n0 t0), (V.kill n0 t1), (V.kill n0 t2), (V.kill n0 t3), (V.kill n0 t4), (V.kill n0 v52), (V.kill n0 t6), (V.kill n0 v11), (V.kill n0 t8), (V.kill n0 t9), (V.kill n0 t10), (V.kill n0 t11), (V.kill n0 t12), (V.kill n0 v54), .junk, .junk, .junk, .junk, .junk, .junk, .junk, .junk, .junk, .junk, .junk, .junk, .junk, .junk, .junk, .junk, .junk, .junk, .junk, .junk, .junk, .junk, .junk, .junk, .junk, .junk, .junk, (V.kill n0 t41)], cutH n0 h55⟩) (
  K (.exit 0) ⟨[(V.kill n0 t0), (V.kill n0 t1), (V.kill n0 t2), (V.kill n0 t3), (V.kill n0 t4), (V.kill n0 t5), (V.kill n0 t6), (V.kill n0 t7), (V.kill n0 t8), (V.kill n0 t9), (V.kill n0 t10), (V.kill n0 t11), (V.kill n0 t12), .junk, .junk, .junk, .junk, .junk, .junk, .junk, .junk, .junk, .junk, .junk, .junk, .junk, .junk, .junk, .junk, .junk, .junk, .junk, .junk, .junk, .junk, .junk, .junk, .junk, .junk, .junk, .junk, (V.kill n0 t41)], cutH n0 h6⟩) :=
  itX_step (go_seq (go_reg0
  (go_op0 rfl rfl (st_bm (by kernel_rfl) fun v5 h6 =>
  (go_end0 (by kernel_rfl)
  (go_seq (go_cond (by kernel_rfl)
  (go_skip (go_seq (go_block (go_seq (go_reg0
  (go_op0 rfl rfl (st_bm (by kernel_rfl) fun v7 h8 =>
  (go_op0 rfl rfl (st_bm (by kernel_rfl) fun v9 h10 =>
  (go_op0 rfl rfl (st_bp (by kernel_rfl) fun v11 h12 =>
  (go_op0 rfl rfl (st_bs (by kernel_rfl) fun h13 =>
  (go_end0 (by kernel_rfl)
  (go_reg1 xo46_6r
  (go_op1 xo46_6 xo46_6a rfl rfl rfl (st_no (by kernel_rfl) (st_id (v := t5) (H := h13) (by kernel_rfl)
  (go_op1 xo46_6 xo46_6a rfl rfl rfl (st_no (by kernel_rfl) (st_id (v := t0) (H := h13) (by kernel_rfl)
  (go_op1 xo46_6 xo46_6a rfl rfl rfl (st_no (by kernel_rfl) (st_bm (by kernel_rfl) fun v14 h15 =>
  (go_op1 xo46_6 xo46_6a rfl rfl rfl (st_no (by kernel_rfl) (st_bm (by kernel_rfl) fun v16 h17 =>
  (go_op1 xo46_6 xo46_6a rfl rfl rfl (st_no (by kernel_rfl) (st_bm (by kernel_rfl) fun v18 h19 =>
  (go_op1 xo46_6 xo46_6a rfl rfl rfl (st_no (by kernel_rfl) (st_bm (by kernel_rfl) fun v20 h21 =>
  (go_op1 xo46_6 xo46_6a rfl rfl rfl (st_no (by kernel_rfl) (st_bm (by kernel_rfl) fun v22 h23 =>
  (go_op1 xo46_6 xo46_6a rfl rfl rfl (st_no (by kernel_rfl) (st_bm (by kernel_rfl) fun v24 h25 =>
  (go_op1 xo46_6 xo46_6a rfl rfl rfl (st_no (by kernel_rfl) (st_bm (by kernel_rfl) fun v26 h27 =>
  (go_op1 xo46_6 xo46_6a rfl rfl rfl (st_no (by kernel_rfl) (st_bm (by kernel_rfl) fun v28 h29 =>
  (go_op1 xo46_6 xo46_6a rfl rfl rfl (st_no (by kernel_rfl) (st_id (v := t0) (H := h29) (by kernel_rfl)
  (go_op1 xo46_6 xo46_6a rfl rfl rfl (st_no (by kernel_rfl) (st_bm (by kernel_rfl) fun v30 h31 =>
  (go_op1 xo46_6 xo46_6a rfl rfl rfl (st_no (by kernel_rfl) (st_bm (by kernel_rfl) fun v32 h33 =>
  (go_op1 xo46_6 xo46_6a rfl rfl rfl (st_no (by kernel_rfl) (st_bm (by kernel_rfl) fun v34 h35 =>
  (go_op1 xo46_6 xo46_6a rfl rfl rfl (st_no (by kernel_rfl) (st_bm (by kernel_rfl) fun v36 h37 =>
  (go_op1 xo46_6 xo46_6a rfl rfl rfl (st_no (by kernel_rfl) (st_bm (by kernel_rfl) fun v38 h39 =>
  (go_op1 xo46_6 xo46_6a rfl rfl rfl (st_no (by kernel_rfl) (st_bp (by kernel_rfl) fun v40 h41 =>
  (go_op1 xo46_6 xo46_6a rfl rfl rfl (st_no (by kernel_rfl) (st_bm (by kernel_rfl) fun v42 h43 =>
  (go_op1 xo46_6 xo46_6a rfl rfl rfl (st_no (by kernel_rfl) (st_bm (by kernel_rfl) fun v44 h45 =>
  (go_op1 xo46_6 xo46_6a rfl rfl rfl (st_no (by kernel_rfl) (st_bm (by kernel_rfl) fun v46 h47 =>
  (go_op1 xo46_6 xo46_6a rfl rfl rfl (st_no (by kernel_rfl) (st_bm (by kernel_rfl) fun v48 h49 =>
  (go_op1 xo46_6 xo46_6a rfl rfl rfl (st_no (by kernel_rfl) (st_bm (by kernel_rfl) fun v50 h51 =>
  (go_op1 xo46_6 xo46_6a rfl rfl rfl (st_no (by kernel_rfl) (st_bm (by kernel_rfl) fun v52 h53 =>
  (go_op1 xo46_6 xo46_6a rfl rfl rfl (st_no (by kernel_rfl) (st_id (v := v52) (H := h53) (by kernel_rfl)
  (go_end1 xo46_6 (by kernel_rfl) xo46_6a
  (rt_block_norm (go_reg0
  (go_op0 rfl rfl (st_bm (by kernel_rfl) fun v54 h55 =>
  (go_op0 rfl rfl (st_id (v := v54) (H := h55) (by kernel_rfl)
  (go_end0 (by kernel_rfl)
  (by kernel_rfl))))))))))))))))))))))))))))))))))))))))))))))))))))))))))))))))))))))))))))))))))))))))))))))))
  (go_exit (rt_seq_exit (by kernel_rfl))))))))))
theorem xj46_0 (s : Sys) (k wl : Nat) (t0 t1 t2 t3 t4 t5 t6 t7 t8 t9 t10 t11 t12 t13 t14 t15 t16 t17 t18 t19 t20 t21 t22 t23 t24 t25 t26 t27 t28 t29 t30 t31 t32 t33 t34 t35 t36 t37 t38 t39 t40 t41 : V) (h : Hp) : runK (xX s 46 wl k false) (bodyK s.P Try.f46) xk46_0 (.exit 0) ⟨[t0, t1, t2, t3, t4, t5, t6, t7, t8, t9, t10, t11, t12, t13, t14, t15, t16, t17, t18, t19, t20, t21, t22, t23, t24, t25, t26, t27, t28, t29, t30, t31, t32, t33, t34, t35, t36, t37, t38, t39, t40, t41], h⟩ =
  some (t5, h) :=
  (rt_block_eq (go_seq (go_reg0
  (go_op0 rfl rfl (st_id (v := t5) (H := h) (by kernel_rfl)
  (go_op0 rfl rfl (st_id (v := t5) (H := h) (by kernel_rfl)
  (go_end0 (by kernel_rfl)
  (go_ret (by kernel_rfl))))))))))
theorem xj46_1 (s : Sys) (k wl : Nat) (t0 t1 t2 t3 t4 t5 t6 t7 t8 t9 t10 t11 t12 t13 t14 t15 t16 t17 t18 t19 t20 t21 t22 t23 t24 t25 t26 t27 t28 t29 t30 t31 t32 t33 t34 t35 t36 t37 t38 t39 t40 t41 : V) (h : Hp) : runK (xX s 46 wl k false) (bodyK s.P Try.f46) xk46_1 .norm ⟨[t0, t1, t2, t3, t4, t5, t6, t7, t8, t9, t10, t11, t12, t13, t14, t15, t16, t17, t18, t19, t20, t21, t22, t23, t24, t25, t26, t27, t28, t29, t30, t31, t32, t33, t34, t35, t36, t37, t38, t39, t40, t41], h⟩ =
  some (t5, h) :=
  (go_seq (go_reg0
  (go_op0 rfl rfl (st_id (v := t5) (H := h) (by kernel_rfl)
  (go_op0 rfl rfl (st_id (v := t5) (H := h) (by kernel_rfl)
  (go_end0 (by kernel_rfl)
  (go_ret (by kernel_rfl)))))))))
theorem xk46_0_ret (cx : Cx) (K : Out → St → Option (V × Hp)) (s : St) : runK cx K xk46_0 .ret s = K .ret s := by kernel_rfl
theorem xk46_1_ret (cx : Cx) (K : Out → St → Option (V × Hp)) (s : St) : runK cx K xk46_1 .ret s = K .ret s := by kernel_rfl
-- names: xb46, xz46, xr46_0, xj46_0, xj46_1, xk46_0_ret, xk46_1_ret
/-! 47 poacher/poacherref17.Left: 0 t, 1 s, 2 t, 3 s, 5 may, 6 n -/
noncomputable def xl47_0 : Code := codeAt (bodyOf Try.f47) [1, 1, 1, 0, 0, 0]
noncomputable def xk47_0 : List Fr := [.block 0, .seq (codeAt (bodyOf Try.f47) [1, 1, 1, 1])]
noncomputable def xg47_0 : Code := codeAt (bodyOf Try.f47) [1, 1, 1, 0, 0, 0, 0, 0]
noncomputable def xk47_1 : List Fr := [.seq (codeAt (bodyOf Try.f47) [1, 1, 1, 0, 0, 0, 0, 1]), .seq (codeAt (bodyOf Try.f47) [1, 1, 1, 0, 0, 0, 1])]
theorem xb47 (s : Sys) (k wl : Nat) (t0 t1 : V) (h : Hp) : bodyV (xX s 47 wl k false) Try.f47 [t0, t1] h =
  bp (callV (xX s 47 wl k false) false true (.fn (.func 43) [] []) [t0, t1] h) fun v1 h2 =>
  itX (xX s 47 wl k false) xl47_0 h2.length (runK (xX s 47 wl k false) (bodyK s.P Try.f47) xk47_0) k ⟨[(V.kill h2.length t0), (V.kill h2.length t1), (V.kill h2.length uu), (V.kill h2.length uu), (V.lit (Value.int .i64 0)), (V.kill h2.length v1), (V.lit (Value.int .i64 0)), (V.kill h2.length t0), (V.kill h2.length t1), (V.kill h2.length v1), .junk, .junk, .junk, .junk, .junk, .junk, .junk, .junk, .junk, .junk, .junk, (V.kill h2.length uu)], cutH h2.length h2⟩ :=
  bodyV_run rfl (go_seq (go_reg0
  (go_op0 rfl rfl (st_id (v := (V.lit (Value.int .i64 0))) (H := h) (by kernel_rfl)
  (go_end0 (by kernel_rfl)
  (go_seq (go_reg0
  (go_op0 rfl rfl (st_id (v := t0) (H := h) (by kernel_rfl)
  (go_op0 rfl rfl (st_id (v := t1) (H := h) (by kernel_rfl)
  (go_op0 rfl rfl (st_bp (by kernel_rfl) fun v1 h2 =>
  (go_op0 rfl rfl (st_id (v := v1) (H := h2) (by kernel_rfl)
  (go_end0 (by kernel_rfl)
  (go_seq (go_reg0
  (go_op0 rfl rfl (st_id (v := (V.lit (Value.int .i64 0))) (H := h2) (by kernel_rfl)
  (go_end0 (by kernel_rfl)
  (go_seq (go_block (by kernel_rfl))))))))))))))))))))))))
theorem xe47 (k wl : Nat) (t0 t1 : V) (h : Hp) : evF Try.prog xM (k + 1) wl 47 [t0, t1] h = bodyV (xX (xS k) 47 wl k false) Try.f47 [t0, t1] h := by kernel_rfl
theorem xz47 (P : Program) (t0 t1 t2 t3 t4 t5 t6 t7 t8 t9 t10 t11 t12 t13 t14 t15 t16 t17 t18 t19 t20 t21 : V) (h : Hp) : bodyK P Try.f47 .ret ⟨[t0, t1, t2, t3, t4, t5, t6, t7, t8, t9, t10, t11, t12, t13, t14, t15, t16, t17, t18, t19, t20, t21], h⟩ = some (t4, h) := by kernel_rfl
theorem xr47_0 (s : Sys) (K : Out → St → Option (V × Hp)) (k wl : Nat) (rd : Bool) (n n0 : Nat) (t0 t1 t2 t3 t4 t5 t6 t7 t8 t9 t10 t11 t12 t13 t14 t15 t16 t17 t18 t19 t20 t21 : V) (h : Hp) : itX (xX s 47 wl k rd) xl47_0 n0 K (n + 1) ⟨[t0, t1, t2, t3, t4, t5, t6, t7, t8, t9, t10, t11, t12, t13, t14, t15, t16, t17, t18, t19, t20, t21], h⟩ =
  gd t5 (
  bp (opLen s.P 43 t1 h) fun v3 h4 =>
  bm (vBin s.P .gtr 3 v3 (V.lit (Value.int .i64 0))) h4 fun v5 h6 =>
  opsP (xX s 47 wl k rd) xg47_0 5 h.length ([], []) (runK (xX s 47 wl k rd) (nextK (xX s 47 wl k rd) xl47_0 n0 K n) xk47_1) ⟨[t0, t1, t2, t3, t4, t5, t6, t7, t8, t9, t5, (V.lit (Value.bool true)), t1, v3, v5, t15, t16, t17, t18, t19, t20, t21], h6⟩) (
  opsP (xX s 47 wl k rd) xg47_0 5 h.length ([], []) (runK (xX s 47 wl k rd) (nextK (xX s 47 wl k rd) xl47_0 n0 K n) xk47_1) ⟨[t0, t1, t2, t3, t4, t5, t6, t7, t8, t9, t5, (V.lit (Value.bool false)), uu, uu, uu, t15, t16, t17, t18, t19, t20, t21], h⟩) (
  opsP (xX s 47 wl k rd) xg47_0 3 h.length ([], []) (runK (xX s 47 wl k rd) (nextK (xX s 47 wl k rd) xl47_0 n0 K n) xk47_1) ⟨[t0, t1, t2, t3, t4, t5, t6, t7, t8, t9, t5, t5, uu, t13, t14, t15, t16, t17, t18, t19, t20, t21], h⟩) :=
  itX_step (go_seq (go_seq (go_reg0
  (go_op0 rfl rfl (st_id (v := t5) (H := h) (by kernel_rfl)
  (go_op0 rfl rfl (st_id (v := t5) (H := h) (by kernel_rfl)
  (go_gdT0 rfl rfl rfl (by kernel_rfl)
  (st_id (v := t1) (H := h) (by kernel_rfl)
  (go_run0 rfl rfl rfl (by kernel_rfl) (st_bp (by kernel_rfl) fun v3 h4 =>
  (go_run0 rfl rfl rfl (by kernel_rfl) (st_bm (by kernel_rfl) fun v5 h6 =>
  (by kernel_rfl))))))
  (go_skip0 rfl rfl rfl (by kernel_rfl)
  (go_skip0 rfl rfl rfl (by kernel_rfl)
  (by kernel_rfl)))
  (by kernel_rfl)))))))))
theorem xj47_0 (s : Sys) (k wl : Nat) (t0 t1 t2 t3 t4 t5 t6 t7 t8 t9 t10 t11 t12 t13 t14 t15 t16 t17 t18 t19 t20 t21 : V) (h : Hp) : runK (xX s 47 wl k false) (bodyK s.P Try.f47) xk47_0 (.exit 0) ⟨[t0, t1, t2, t3, t4, t5, t6, t7, t8, t9, t10, t11, t12, t13, t14, t15, t16, t17, t18, t19, t20, t21], h⟩ =
  some (t6, h) :=
  (rt_block_eq (go_seq (go_reg0
  (go_op0 rfl rfl (st_id (v := t6) (H := h) (by kernel_rfl)
  (go_op0 rfl rfl (st_id (v := t6) (H := h) (by kernel_rfl)
  (go_end0 (by kernel_rfl)
  (go_ret (by kernel_rfl))))))))))
theorem xm47_1 (s : Sys) (K : Out → St → Option (V × Hp)) (k wl : Nat) (rd : Bool) (n n0 : Nat) (m0 : Nat) (ac : List Nat × List Nat) (t0 t1 t2 t3 t4 t5 t6 t7 t8 t9 t10 t11 t12 t13 t14 t15 t16 t17 t18 t19 t20 t21 : V) (h : Hp) : opsP (xX s 47 wl k rd) xg47_0 5 m0 ac (runK (xX s 47 wl k rd) (nextK (xX s 47 wl k rd) xl47_0 n0 K n) xk47_1) ⟨[t0, t1, t2, t3, t4, t5, t6, t7, t8, t9, t10, t11, t12, t13, t14, t15, t16, t17, t18, t19, t20, t21], h⟩ =
  bm (vPick t11 t14 (V.lit (Value.bool false))) h fun v7 h8 =>
  cnd v7 (
  bp (callV (xX s 47 wl k rd) false true (.fn (.func 40) [] []) [t0, t1] h8) fun v9 h10 =>
  bm (vBin s.P .add 3 t6 (V.lit (Value.int .i64 1))) h10 fun v11 h12 =>
  itX (xX s 47 wl k rd) xl47_0 n0 K n ⟨[(V.kill n0 t0), (V.kill n0 v9), (V.kill n0 t2), (V.kill n0 t3), (V.kill n0 t4), (V.kill n0 t5), (V.kill n0 v11), (V.kill n0 t7), (V.kill n0 t8), (V.kill n0 t9), .junk, .junk, .junk, .junk, .junk, .junk, .junk, .junk, .junk, .junk, .junk, (V.kill n0 t21)], cutH n0 h12⟩) (
  K (.exit 0) ⟨[(V.kill n0 t0), (V.kill n0 t1), (V.kill n0 t2), (V.kill n0 t3), (V.kill n0 t4), (V.kill n0 t5), (V.kill n0 t6), (V.kill n0 t7), (V.kill n0 t8), (V.kill n0 t9), .junk, .junk, .junk, .junk, .junk, .junk, .junk, .junk, .junk, .junk, .junk, (V.kill n0 t21)], cutH n0 h8⟩) :=
  (go_op0 rfl rfl (st_bm (by kernel_rfl) fun v7 h8 =>
  (go_end0 (by kernel_rfl)
  (go_cond (by kernel_rfl)
  (go_skip (go_block (go_seq (go_reg0
  (go_op0 rfl rfl (st_id (v := t0) (H := h8) (by kernel_rfl)
  (go_op0 rfl rfl (st_id (v := t1) (H := h8) (by kernel_rfl)
  (go_op0 rfl rfl (st_bp (by kernel_rfl) fun v9 h10 =>
  (go_op0 rfl rfl (st_id (v := v9) (H := h10) (by kernel_rfl)
  (go_end0 (by kernel_rfl)
  (go_reg0
  (go_op0 rfl rfl (st_id (v := t6) (H := h10) (by kernel_rfl)
  (go_op0 rfl rfl (st_bm (by kernel_rfl) fun v11 h12 =>
  (go_op0 rfl rfl (st_id (v := v11) (H := h12) (by kernel_rfl)
  (go_end0 (by kernel_rfl)
  (rt_block_norm (by kernel_rfl)))))))))))))))))))))))
  (go_exit (rt_seq_exit (by kernel_rfl)))))))
theorem xk47_0_ret (cx : Cx) (K : Out → St → Option (V × Hp)) (s : St) : runK cx K xk47_0 .ret s = K .ret s := by kernel_rfl
theorem xk47_1_ret (cx : Cx) (K : Out → St → Option (V × Hp)) (s : St) : runK cx K xk47_1 .ret s = K .ret s := by kernel_rfl
-- names: xb47, xz47, xr47_0, xj47_0, xm47_1, xk47_0_ret, xk47_1_ret
/-! 48 poacher/think.May: 0 t, 1 s, 2 t, 3 s -/
noncomputable def xg48_0 : Code := codeAt (bodyOf Try.f48) [1, 0]
noncomputable def xk48_0 : List Fr := [.seq (codeAt (bodyOf Try.f48) [1, 1])]
theorem xb48 (s : Sys) (k wl : Nat) (t0 t1 : V) (h : Hp) : bodyV (xX s 48 wl k false) Try.f48 [t0, t1] h =
  bp (opBox t0 h) fun v1 h2 =>
  bm (vLoad s.P 22 v1 h2) h2 fun v3 h4 =>
  bp (callV (xX s 48 wl k false) false true (.fn (.func 50) [] []) [v3] h4) fun v5 h6 =>
  gd v5 (
  bp (callV (xX s 48 wl k false) false true (.fn (.func 74) [] []) [t1, (.fn (.func 75) [] [v1])] h6) fun v7 h8 =>
  bm (vUn .not v7) h8 fun v9 h10 =>
  opsP (xX s 48 wl k false) xg48_0 7 h2.length ([], []) (runK (xX s 48 wl k false) (bodyK s.P Try.f48) xk48_0) ⟨[t0, t1, v1, uu, (V.lit (Value.bool false)), v3, v5, (V.lit (Value.bool true)), t1, (.fn (.func 75) [] [v1]), v7, v9, uu], h10⟩) (
  opsP (xX s 48 wl k false) xg48_0 7 h2.length ([], []) (runK (xX s 48 wl k false) (bodyK s.P Try.f48) xk48_0) ⟨[t0, t1, v1, uu, (V.lit (Value.bool false)), v3, v5, (V.lit (Value.bool false)), uu, uu, uu, uu, uu], h6⟩) (
  opsP (xX s 48 wl k false) xg48_0 4 h2.length ([], []) (runK (xX s 48 wl k false) (bodyK s.P Try.f48) xk48_0) ⟨[t0, t1, v1, uu, (V.lit (Value.bool false)), v3, v5, v5, uu, uu, uu, uu, uu], h6⟩) :=
  bodyV_run rfl (go_seq (go_reg0
  (go_op0 rfl rfl (st_bp (by kernel_rfl) fun v1 h2 =>
  (go_op0 rfl rfl (st_id (v := (V.lit (Value.bool false))) (H := h2) (by kernel_rfl)
  (go_end0 (by kernel_rfl)
  (go_seq (go_reg0
  (go_op0 rfl rfl (st_bm (by kernel_rfl) fun v3 h4 =>
  (go_op0 rfl rfl (st_bp (by kernel_rfl) fun v5 h6 =>
  (go_op0 rfl rfl (st_id (v := v5) (H := h6) (by kernel_rfl)
  (go_gdT0 rfl rfl rfl (by kernel_rfl)
  (st_id (v := t1) (H := h6) (by kernel_rfl)
  (go_run0 rfl rfl rfl (by kernel_rfl) (st_id (v := (.fn (.func 75) [] [v1])) (H := h6) (by kernel_rfl)
  (go_run0 rfl rfl rfl (by kernel_rfl) (st_bp (by kernel_rfl) fun v7 h8 =>
  (go_run0 rfl rfl rfl (by kernel_rfl) (st_bm (by kernel_rfl) fun v9 h10 =>
  (by kernel_rfl))))))))
  (go_skip0 rfl rfl rfl (by kernel_rfl)
  (go_skip0 rfl rfl rfl (by kernel_rfl)
  (go_skip0 rfl rfl rfl (by kernel_rfl)
  (by kernel_rfl))))
  (by kernel_rfl)))))))))))))))))
theorem xe48 (k wl : Nat) (t0 t1 : V) (h : Hp) : evF Try.prog xM (k + 1) wl 48 [t0, t1] h = bodyV (xX (xS k) 48 wl k false) Try.f48 [t0, t1] h := by kernel_rfl
theorem xm48_0 (s : Sys) (k wl : Nat) (m0 : Nat) (ac : List Nat × List Nat) (t0 t1 t2 t3 t4 t5 t6 t7 t8 t9 t10 t11 t12 : V) (h : Hp) : opsP (xX s 48 wl k false) xg48_0 7 m0 ac (runK (xX s 48 wl k false) (bodyK s.P Try.f48) xk48_0) ⟨[t0, t1, t2, t3, t4, t5, t6, t7, t8, t9, t10, t11, t12], h⟩ =
  bm (vPick t7 t11 (V.lit (Value.bool false))) h fun v11 h12 =>
  some (v11, h12) :=
  (go_op0 rfl rfl (st_bm (by kernel_rfl) fun v11 h12 =>
  (go_op0 rfl rfl (st_id (v := v11) (H := h12) (by kernel_rfl)
  (go_end0 (by kernel_rfl)
  (go_ret (by kernel_rfl)))))))
theorem xk48_0_ret (cx : Cx) (K : Out → St → Option (V × Hp)) (s : St) : runK cx K xk48_0 .ret s = K .ret s := by kernel_rfl
-- names: xb48, xm48_0, xk48_0_ret
/-! 49 poacher/think.Same: 0 a, 1 b, 2 a, 3 b -/

theorem xb49 (s : Sys) (k wl : Nat) (t0 t1 : V) (h : Hp) : bodyV (xX s 49 wl k false) Try.f49 [t0, t1] h =
  bp (callV (xX s 49 wl k false) false true (.fn (.func 76) [] []) [t0, t1] h) fun v1 h2 =>
  some (v1, h2) :=
  bodyV_run rfl (go_seq (go_reg0
  (go_op0 rfl rfl (st_id (v := (V.lit (Value.bool false))) (H := h) (by kernel_rfl)
  (go_end0 (by kernel_rfl)
  (go_seq (go_reg0
  (go_op0 rfl rfl (st_id (v := t0) (H := h) (by kernel_rfl)
  (go_op0 rfl rfl (st_id (v := t1) (H := h) (by kernel_rfl)
  (go_op0 rfl rfl (st_bp (by kernel_rfl) fun v1 h2 =>
  (go_op0 rfl rfl (st_id (v := v1) (H := h2) (by kernel_rfl)
  (go_end0 (by kernel_rfl)
  (go_ret (by kernel_rfl))))))))))))))))))
theorem xe49 (k wl : Nat) (t0 t1 : V) (h : Hp) : evF Try.prog xM (k + 1) wl 49 [t0, t1] h = bodyV (xX (xS k) 49 wl k false) Try.f49 [t0, t1] h := by kernel_rfl
-- names: xb49, 
/-! 72 poacher/think.ways:  -/

theorem xb72 (s : Sys) (k wl : Nat) (h : Hp) : bodyV (xX s 72 wl k false) Try.f72 [] h =
  bp (some (.map h.length, h ++ [.map []])) fun v1 h2 =>
  bs (vInsert s.P wl 80 v1 (V.lit (Value.int .i64 1)) (.fn (.func 94) [] []) h2) fun h3 =>
  bs (vInsert s.P wl 80 v1 (V.lit (Value.int .i64 2)) (.fn (.func 95) [] []) h3) fun h4 =>
  bs (vInsert s.P wl 80 v1 (V.lit (Value.int .i64 3)) (.fn (.func 96) [] []) h4) fun h5 =>
  some (v1, h5) :=
  bodyV_run rfl (go_seq (go_reg0
  (go_op0 rfl rfl (st_id (v := (constV (Value.map none))) (H := h) (by kernel_rfl)
  (go_end0 (by kernel_rfl)
  (go_seq (go_reg0
  (go_op0 rfl rfl (st_bp (by kernel_rfl) fun v1 h2 =>
  (go_op0 rfl rfl (st_bs (by kernel_rfl) fun h3 =>
  (go_op0 rfl rfl (st_bs (by kernel_rfl) fun h4 =>
  (go_op0 rfl rfl (st_bs (by kernel_rfl) fun h5 =>
  (go_op0 rfl rfl (st_id (v := v1) (H := h5) (by kernel_rfl)
  (go_op0 rfl rfl (st_id (v := v1) (H := h5) (by kernel_rfl)
  (go_end0 (by kernel_rfl)
  (go_ret (by kernel_rfl))))))))))))))))))))))
theorem xe72 (k wl : Nat) (h : Hp) : evF Try.prog xM (k + 1) wl 72 [] h = bodyV (xX (xS k) 72 wl k false) Try.f72 [] h := by kernel_rfl
-- names: xb72, 
/-! 73 poacher/think.in: 0 n, 1 most, 2 n, 3 most -/
noncomputable def xg73_0 : Code := codeAt (bodyOf Try.f73) [1, 0]
noncomputable def xk73_0 : List Fr := [.seq (codeAt (bodyOf Try.f73) [1, 1])]
theorem xb73 (s : Sys) (k wl : Nat) (t0 t1 : V) (h : Hp) : bodyV (xX s 73 wl k false) Try.f73 [t0, t1] h =
  bm (vBin s.P .geq 3 t0 (V.lit (Value.int .i64 0))) h fun v1 h2 =>
  gd v1 (
  bm (vBin s.P .leq 3 t0 t1) h2 fun v3 h4 =>
  opsP (xX s 73 wl k false) xg73_0 6 h.length ([], []) (runK (xX s 73 wl k false) (bodyK s.P Try.f73) xk73_0) ⟨[t0, t1, uu, uu, (V.lit (Value.bool false)), t0, v1, (V.lit (Value.bool true)), t0, t1, v3, uu], h4⟩) (
  opsP (xX s 73 wl k false) xg73_0 6 h.length ([], []) (runK (xX s 73 wl k false) (bodyK s.P Try.f73) xk73_0) ⟨[t0, t1, uu, uu, (V.lit (Value.bool false)), t0, v1, (V.lit (Value.bool false)), uu, uu, uu, uu], h2⟩) (
  opsP (xX s 73 wl k false) xg73_0 4 h.length ([], []) (runK (xX s 73 wl k false) (bodyK s.P Try.f73) xk73_0) ⟨[t0, t1, uu, uu, (V.lit (Value.bool false)), t0, v1, v1, uu, uu, uu, uu], h2⟩) :=
  bodyV_run rfl (go_seq (go_reg0
  (go_op0 rfl rfl (st_id (v := (V.lit (Value.bool false))) (H := h) (by kernel_rfl)
  (go_end0 (by kernel_rfl)
  (go_seq (go_reg0
  (go_op0 rfl rfl (st_id (v := t0) (H := h) (by kernel_rfl)
  (go_op0 rfl rfl (st_bm (by kernel_rfl) fun v1 h2 =>
  (go_op0 rfl rfl (st_id (v := v1) (H := h2) (by kernel_rfl)
  (go_gdT0 rfl rfl rfl (by kernel_rfl)
  (st_id (v := t0) (H := h2) (by kernel_rfl)
  (go_run0 rfl rfl rfl (by kernel_rfl) (st_id (v := t1) (H := h2) (by kernel_rfl)
  (go_run0 rfl rfl rfl (by kernel_rfl) (st_bm (by kernel_rfl) fun v3 h4 =>
  (by kernel_rfl))))))
  (go_skip0 rfl rfl rfl (by kernel_rfl)
  (go_skip0 rfl rfl rfl (by kernel_rfl)
  (by kernel_rfl)))
  (by kernel_rfl)))))))))))))))
theorem xe73 (k wl : Nat) (t0 t1 : V) (h : Hp) : evF Try.prog xM (k + 1) wl 73 [t0, t1] h = bodyV (xX (xS k) 73 wl k false) Try.f73 [t0, t1] h := by kernel_rfl
theorem xm73_0 (s : Sys) (k wl : Nat) (m0 : Nat) (ac : List Nat × List Nat) (t0 t1 t2 t3 t4 t5 t6 t7 t8 t9 t10 t11 : V) (h : Hp) : opsP (xX s 73 wl k false) xg73_0 6 m0 ac (runK (xX s 73 wl k false) (bodyK s.P Try.f73) xk73_0) ⟨[t0, t1, t2, t3, t4, t5, t6, t7, t8, t9, t10, t11], h⟩ =
  bm (vPick t7 t10 (V.lit (Value.bool false))) h fun v5 h6 =>
  some (v5, h6) :=
  (go_op0 rfl rfl (st_bm (by kernel_rfl) fun v5 h6 =>
  (go_op0 rfl rfl (st_id (v := v5) (H := h6) (by kernel_rfl)
  (go_end0 (by kernel_rfl)
  (go_ret (by kernel_rfl)))))))
theorem xk73_0_ret (cx : Cx) (K : Out → St → Option (V × Hp)) (s : St) : runK cx K xk73_0 .ret s = K .ret s := by kernel_rfl
-- names: xb73, xm73_0, xk73_0_ret
/-! 74 slices.ContainsFunc[[]poacher/api.Item,poacher/api.Item]: 0 s, 1 f, 2 s, 3 f -/

theorem xb74 (s : Sys) (k wl : Nat) (t0 t1 : V) (h : Hp) : bodyV (xX s 74 wl k false) Try.f74 [t0, t1] h =
  bp (callV (xX s 74 wl k false) false true (.fn (.func 97) [] []) [t0, t1] h) fun v1 h2 =>
  bm (vBin s.P .geq 3 v1 (V.lit (Value.int .i64 0))) h2 fun v3 h4 =>
  some (v3, h4) :=
  bodyV_run rfl (go_seq (go_reg0
  (go_op0 rfl rfl (st_id (v := (V.lit (Value.bool false))) (H := h) (by kernel_rfl)
  (go_end0 (by kernel_rfl)
  (go_seq (go_reg0
  (go_op0 rfl rfl (st_id (v := t0) (H := h) (by kernel_rfl)
  (go_op0 rfl rfl (st_id (v := t1) (H := h) (by kernel_rfl)
  (go_op0 rfl rfl (st_bp (by kernel_rfl) fun v1 h2 =>
  (go_op0 rfl rfl (st_bm (by kernel_rfl) fun v3 h4 =>
  (go_op0 rfl rfl (st_id (v := v3) (H := h4) (by kernel_rfl)
  (go_end0 (by kernel_rfl)
  (go_ret (by kernel_rfl))))))))))))))))))))
theorem xe74 (k wl : Nat) (t0 t1 : V) (h : Hp) : evF Try.prog xM (k + 1) wl 74 [t0, t1] h = bodyV (xX (xS k) 74 wl k false) Try.f74 [t0, t1] h := by kernel_rfl
-- names: xb74, 
/-! 75 poacher/think.May$1: 0 x, 2 x, 4 own -/
noncomputable def xg75_0 : Code := codeAt (bodyOf Try.f75) [1, 1, 1, 0]
noncomputable def xk75_0 : List Fr := [.seq (codeAt (bodyOf Try.f75) [1, 1, 1, 1])]
theorem xb75 (s : Sys) (k wl : Nat) (t0 t1 : V) (h : Hp) : bodyV (xX s 75 wl k false) Try.f75 [t0, t1] h =
  bp (opBox t0 h) fun v1 h2 =>
  bm (vFieldAddr s.P 55 v1 0) h2 fun v3 h4 =>
  bm (vLoad s.P 3 v3 h4) h4 fun v5 h6 =>
  bm (vLoad s.P 22 t1 h6) h6 fun v7 h8 =>
  bp (opLen s.P 22 v7 h8) fun v9 h10 =>
  bm (vBin s.P .sub 3 v9 (V.lit (Value.int .i64 1))) h10 fun v11 h12 =>
  bp (callV (xX s 75 wl k false) false true (.fn (.func 73) [] []) [v5, v11] h12) fun v13 h14 =>
  bm (vUn .not v13) h14 fun v15 h16 =>
  cnd v15 (
  some ((V.lit (Value.bool true)), h16)) (
  bm (vLoad s.P 22 t1 h16) h16 fun v17 h18 =>
  bm (vFieldAddr s.P 55 v1 0) h18 fun v19 h20 =>
  bm (vLoad s.P 3 v19 h20) h20 fun v21 h22 =>
  bm (vIndexAddr s.P 22 v17 v21 h22) h22 fun v23 h24 =>
  bm (vLoad s.P 40 v23 h24) h24 fun v25 h26 =>
  bp (opAlloc s.P 40 h26) fun v27 h28 =>
  bs (vStore s.P wl 40 v27 v25 h28) fun h29 =>
  bm (vFieldAddr s.P 55 v1 1) h29 fun v30 h31 =>
  bm (vLoad s.P 3 v30 h31) h31 fun v32 h33 =>
  bm (vFieldAddr s.P 40 v27 0) h33 fun v34 h35 =>
  bm (vLoad s.P 3 v34 h35) h35 fun v36 h37 =>
  bp (callV (xX s 75 wl k false) false true (.fn (.func 73) [] []) [v32, v36] h37) fun v38 h39 =>
  bm (vUn .not v38) h39 fun v40 h41 =>
  gd v40 (
  opsP (xX s 75 wl k false) xg75_0 14 h29.length ([], []) (runK (xX s 75 wl k false) (bodyK s.P Try.f75) xk75_0) ⟨[t0, t1, v1, (V.lit (Value.bool false)), v27, v3, v5, v7, v9, v11, v13, v15, v17, v19, v21, v23, v25, v30, v32, v34, v36, v38, v40, (V.lit (Value.bool true)), uu, uu, uu, uu, uu, uu, uu, uu, uu, uu, uu, uu, uu, uu, uu, uu, uu, uu, uu, uu], h41⟩) (
  bm (vFieldAddr s.P 55 v1 2) h41 fun v42 h43 =>
  bm (vLoad s.P 3 v42 h43) h43 fun v44 h45 =>
  bm (vFieldAddr s.P 40 v27 1) h45 fun v46 h47 =>
  bm (vLoad s.P 23 v46 h47) h47 fun v48 h49 =>
  bp (opLen s.P 23 v48 h49) fun v50 h51 =>
  bp (callV (xX s 75 wl k false) false true (.fn (.func 73) [] []) [v44, v50] h51) fun v52 h53 =>
  bm (vUn .not v52) h53 fun v54 h55 =>
  opsP (xX s 75 wl k false) xg75_0 14 h29.length ([], []) (runK (xX s 75 wl k false) (bodyK s.P Try.f75) xk75_0) ⟨[t0, t1, v1, (V.lit (Value.bool false)), v27, v3, v5, v7, v9, v11, v13, v15, v17, v19, v21, v23, v25, v30, v32, v34, v36, v38, v40, (V.lit (Value.bool false)), v42, v44, v46, v48, v50, v52, v54, uu, uu, uu, uu, uu, uu, uu, uu, uu, uu, uu, uu, uu], h55⟩) (
  opsP (xX s 75 wl k false) xg75_0 8 h29.length ([], []) (runK (xX s 75 wl k false) (bodyK s.P Try.f75) xk75_0) ⟨[t0, t1, v1, (V.lit (Value.bool false)), v27, v3, v5, v7, v9, v11, v13, v15, v17, v19, v21, v23, v25, v30, v32, v34, v36, v38, v40, v40, uu, uu, uu, uu, uu, uu, uu, uu, uu, uu, uu, uu, uu, uu, uu, uu, uu, uu, uu, uu], h41⟩)) :=
  bodyV_run rfl (go_seq (go_reg0
  (go_op0 rfl rfl (st_bp (by kernel_rfl) fun v1 h2 =>
  (go_op0 rfl rfl (st_id (v := (V.lit (Value.bool false))) (H := h2) (by kernel_rfl)
  (go_end0 (by kernel_rfl)
  (go_seq (go_seq (go_reg0
  (go_op0 rfl rfl (st_bm (by kernel_rfl) fun v3 h4 =>
  (go_op0 rfl rfl (st_bm (by kernel_rfl) fun v5 h6 =>
  (go_op0 rfl rfl (st_bm (by kernel_rfl) fun v7 h8 =>
  (go_op0 rfl rfl (st_bp (by kernel_rfl) fun v9 h10 =>
  (go_op0 rfl rfl (st_bm (by kernel_rfl) fun v11 h12 =>
  (go_op0 rfl rfl (st_bp (by kernel_rfl) fun v13 h14 =>
  (go_op0 rfl rfl (st_bm (by kernel_rfl) fun v15 h16 =>
  (go_end0 (by kernel_rfl)
  (go_cond (by kernel_rfl)
  (go_seq (go_reg0
  (go_op0 rfl rfl (st_id (v := (V.lit (Value.bool true))) (H := h16) (by kernel_rfl)
  (go_end0 (by kernel_rfl)
  (go_ret (rt_seq_ret (by kernel_rfl))))))))
  (go_skip (go_seq (go_reg0
  (go_op0 rfl rfl (st_bm (by kernel_rfl) fun v17 h18 =>
  (go_op0 rfl rfl (st_bm (by kernel_rfl) fun v19 h20 =>
  (go_op0 rfl rfl (st_bm (by kernel_rfl) fun v21 h22 =>
  (go_op0 rfl rfl (st_bm (by kernel_rfl) fun v23 h24 =>
  (go_op0 rfl rfl (st_bm (by kernel_rfl) fun v25 h26 =>
  (go_op0 rfl rfl (st_bp (by kernel_rfl) fun v27 h28 =>
  (go_op0 rfl rfl (st_bs (by kernel_rfl) fun h29 =>
  (go_end0 (by kernel_rfl)
  (go_seq (go_reg0
  (go_op0 rfl rfl (st_bm (by kernel_rfl) fun v30 h31 =>
  (go_op0 rfl rfl (st_bm (by kernel_rfl) fun v32 h33 =>
  (go_op0 rfl rfl (st_bm (by kernel_rfl) fun v34 h35 =>
  (go_op0 rfl rfl (st_bm (by kernel_rfl) fun v36 h37 =>
  (go_op0 rfl rfl (st_bp (by kernel_rfl) fun v38 h39 =>
  (go_op0 rfl rfl (st_bm (by kernel_rfl) fun v40 h41 =>
  (go_op0 rfl rfl (st_id (v := v40) (H := h41) (by kernel_rfl)
  (go_gdF0 rfl rfl rfl (by kernel_rfl)
  (go_skip0 rfl rfl rfl (by kernel_rfl)
  (go_skip0 rfl rfl rfl (by kernel_rfl)
  (go_skip0 rfl rfl rfl (by kernel_rfl)
  (go_skip0 rfl rfl rfl (by kernel_rfl)
  (go_skip0 rfl rfl rfl (by kernel_rfl)
  (go_skip0 rfl rfl rfl (by kernel_rfl)
  (by kernel_rfl)))))))
  (st_bm (by kernel_rfl) fun v42 h43 =>
  (go_run0 rfl rfl rfl (by kernel_rfl) (st_bm (by kernel_rfl) fun v44 h45 =>
  (go_run0 rfl rfl rfl (by kernel_rfl) (st_bm (by kernel_rfl) fun v46 h47 =>
  (go_run0 rfl rfl rfl (by kernel_rfl) (st_bm (by kernel_rfl) fun v48 h49 =>
  (go_run0 rfl rfl rfl (by kernel_rfl) (st_bp (by kernel_rfl) fun v50 h51 =>
  (go_run0 rfl rfl rfl (by kernel_rfl) (st_bp (by kernel_rfl) fun v52 h53 =>
  (go_run0 rfl rfl rfl (by kernel_rfl) (st_bm (by kernel_rfl) fun v54 h55 =>
  (by kernel_rfl))))))))))))))
  (by kernel_rfl))))))))))))))))))))))))))))))))))))))))))))))))))))))))))))))
theorem xe75 (k wl : Nat) (t0 t1 : V) (h : Hp) : evF Try.prog xM (k + 1) wl 75 [t0, t1] h = bodyV (xX (xS k) 75 wl k false) Try.f75 [t0, t1] h := by kernel_rfl
theorem xm75_0 (s : Sys) (k wl : Nat) (m0 : Nat) (ac : List Nat × List Nat) (t0 t1 t2 t3 t4 t5 t6 t7 t8 t9 t10 t11 t12 t13 t14 t15 t16 t17 t18 t19 t20 t21 t22 t23 t24 t25 t26 t27 t28 t29 t30 t31 t32 t33 t34 t35 t36 t37 t38 t39 t40 t41 t42 t43 : V) (h : Hp) : opsP (xX s 75 wl k false) xg75_0 14 m0 ac (runK (xX s 75 wl k false) (bodyK s.P Try.f75) xk75_0) ⟨[t0, t1, t2, t3, t4, t5, t6, t7, t8, t9, t10, t11, t12, t13, t14, t15, t16, t17, t18, t19, t20, t21, t22, t23, t24, t25, t26, t27, t28, t29, t30, t31, t32, t33, t34, t35, t36, t37, t38, t39, t40, t41, t42, t43], h⟩ =
  bm (vPick t23 (V.lit (Value.bool true)) t30) h fun v56 h57 =>
  gd v56 (
  opsP (xX s 75 wl k false) xg75_0 26 m0 ac (runK (xX s 75 wl k false) (bodyK s.P Try.f75) xk75_0) ⟨[t0, t1, t2, t3, t4, t5, t6, t7, t8, t9, t10, t11, t12, t13, t14, t15, t16, t17, t18, t19, t20, t21, t22, t23, t24, t25, t26, t27, t28, t29, t30, v56, (V.lit (Value.bool true)), uu, uu, uu, uu, uu, uu, uu, uu, uu, uu, t43], h57⟩) (
  bm (vFieldAddr s.P 55 t2 1) h57 fun v58 h59 =>
  bm (vLoad s.P 3 v58 h59) h59 fun v60 h61 =>
  bm (vFieldAddr s.P 40 t4 0) h61 fun v62 h63 =>
  bm (vLoad s.P 3 v62 h63) h63 fun v64 h65 =>
  bm (vBin s.P .lss 3 v60 v64) h65 fun v66 h67 =>
  opsP (xX s 75 wl k false) xg75_0 22 m0 ac (runK (xX s 75 wl k false) (bodyK s.P Try.f75) xk75_0) ⟨[t0, t1, t2, t3, t4, t5, t6, t7, t8, t9, t10, t11, t12, t13, t14, t15, t16, t17, t18, t19, t20, t21, t22, t23, t24, t25, t26, t27, t28, t29, t30, v56, (V.lit (Value.bool false)), v58, v60, v62, v64, v66, v66, t39, t40, t41, t42, t43], h67⟩) (
  opsP (xX s 75 wl k false) xg75_0 17 m0 ac (runK (xX s 75 wl k false) (bodyK s.P Try.f75) xk75_0) ⟨[t0, t1, t2, t3, t4, t5, t6, t7, t8, t9, t10, t11, t12, t13, t14, t15, t16, t17, t18, t19, t20, t21, t22, t23, t24, t25, t26, t27, t28, t29, t30, v56, v56, uu, t34, t35, t36, t37, t38, t39, t40, t41, t42, t43], h57⟩) :=
  (go_op0 rfl rfl (st_bm (by kernel_rfl) fun v56 h57 =>
  (go_op0 rfl rfl (st_id (v := v56) (H := h57) (by kernel_rfl)
  (go_gdF0 rfl rfl rfl (by kernel_rfl)
  (go_skip0 rfl rfl rfl (by kernel_rfl)
  (go_skip0 rfl rfl rfl (by kernel_rfl)
  (go_skip0 rfl rfl rfl (by kernel_rfl)
  (go_skip0 rfl rfl rfl (by kernel_rfl)
  (go_skip0 rfl rfl rfl (by kernel_rfl)
  (go_none0 (x := #[]) rfl rfl rfl (by kernel_rfl)
  (go_none0 (x := #[]) rfl rfl rfl (by kernel_rfl)
  (go_none0 (x := #[]) rfl rfl rfl (by kernel_rfl)
  (go_skip0 rfl rfl rfl (by kernel_rfl)
  (by kernel_rfl))))))))))
  (st_bm (by kernel_rfl) fun v58 h59 =>
  (go_run0 rfl rfl rfl (by kernel_rfl) (st_bm (by kernel_rfl) fun v60 h61 =>
  (go_run0 rfl rfl rfl (by kernel_rfl) (st_bm (by kernel_rfl) fun v62 h63 =>
  (go_run0 rfl rfl rfl (by kernel_rfl) (st_bm (by kernel_rfl) fun v64 h65 =>
  (go_run0 rfl rfl rfl (by kernel_rfl) (st_bm (by kernel_rfl) fun v66 h67 =>
  (go_run0 rfl rfl rfl (by kernel_rfl) (st_id (v := v66) (H := h67) (by kernel_rfl)
  (by kernel_rfl))))))))))))
  (by kernel_rfl))))))
theorem xm75_1 (s : Sys) (k wl : Nat) (m0 : Nat) (ac : List Nat × List Nat) (t0 t1 t2 t3 t4 t5 t6 t7 t8 t9 t10 t11 t12 t13 t14 t15 t16 t17 t18 t19 t20 t21 t22 t23 t24 t25 t26 t27 t28 t29 t30 t31 t32 t33 t34 t35 t36 t37 t38 t39 t40 t41 t42 t43 : V) (h : Hp) : opsP (xX s 75 wl k false) xg75_0 26 m0 ac (runK (xX s 75 wl k false) (bodyK s.P Try.f75) xk75_0) ⟨[t0, t1, t2, t3, t4, t5, t6, t7, t8, t9, t10, t11, t12, t13, t14, t15, t16, t17, t18, t19, t20, t21, t22, t23, t24, t25, t26, t27, t28, t29, t30, t31, t32, t33, t34, t35, t36, t37, t38, t39, t40, t41, t42, t43], h⟩ =
  bm (vPick t32 (V.lit (Value.bool true)) t42) h fun v68 h69 =>
  some (v68, h69) :=
  (go_op0 rfl rfl (st_bm (by kernel_rfl) fun v68 h69 =>
  (go_op0 rfl rfl (st_id (v := v68) (H := h69) (by kernel_rfl)
  (go_end0 (by kernel_rfl)
  (go_ret (by kernel_rfl)))))))
theorem xm75_2 (s : Sys) (k wl : Nat) (m0 : Nat) (ac : List Nat × List Nat) (t0 t1 t2 t3 t4 t5 t6 t7 t8 t9 t10 t11 t12 t13 t14 t15 t16 t17 t18 t19 t20 t21 t22 t23 t24 t25 t26 t27 t28 t29 t30 t31 t32 t33 t34 t35 t36 t37 t38 t39 t40 t41 t42 t43 : V) (h : Hp) : opsP (xX s 75 wl k false) xg75_0 22 m0 ac (runK (xX s 75 wl k false) (bodyK s.P Try.f75) xk75_0) ⟨[t0, t1, t2, t3, t4, t5, t6, t7, t8, t9, t10, t11, t12, t13, t14, t15, t16, t17, t18, t19, t20, t21, t22, t23, t24, t25, t26, t27, t28, t29, t30, t31, t32, t33, t34, t35, t36, t37, t38, t39, t40, t41, t42, t43], h⟩ =
  gd t38 (
  bm (vFieldAddr s.P 55 t2 2) h fun v70 h71 =>
  bm (vLoad s.P 3 v70 h71) h71 fun v72 h73 =>
  bm (vBin s.P .gtr 3 v72 (V.lit (Value.int .i64 0))) h73 fun v74 h75 =>
  opsP (xX s 75 wl k false) xg75_0 25 m0 ac (runK (xX s 75 wl k false) (bodyK s.P Try.f75) xk75_0) ⟨[t0, t1, t2, t3, t4, t5, t6, t7, t8, t9, t10, t11, t12, t13, t14, t15, t16, t17, t18, t19, t20, t21, t22, t23, t24, t25, t26, t27, t28, t29, t30, t31, t32, t33, t34, t35, t36, t37, (V.lit (Value.bool true)), v70, v72, v74, t42, t43], h75⟩) (
  opsP (xX s 75 wl k false) xg75_0 25 m0 ac (runK (xX s 75 wl k false) (bodyK s.P Try.f75) xk75_0) ⟨[t0, t1, t2, t3, t4, t5, t6, t7, t8, t9, t10, t11, t12, t13, t14, t15, t16, t17, t18, t19, t20, t21, t22, t23, t24, t25, t26, t27, t28, t29, t30, t31, t32, t33, t34, t35, t36, t37, (V.lit (Value.bool false)), uu, uu, uu, t42, t43], h⟩) (
  opsP (xX s 75 wl k false) xg75_0 23 m0 ac (runK (xX s 75 wl k false) (bodyK s.P Try.f75) xk75_0) ⟨[t0, t1, t2, t3, t4, t5, t6, t7, t8, t9, t10, t11, t12, t13, t14, t15, t16, t17, t18, t19, t20, t21, t22, t23, t24, t25, t26, t27, t28, t29, t30, t31, t32, t33, t34, t35, t36, t37, t38, uu, t40, t41, t42, t43], h⟩) :=
  (go_gdT0 rfl rfl rfl (by kernel_rfl)
  (st_bm (by kernel_rfl) fun v70 h71 =>
  (go_run0 rfl rfl rfl (by kernel_rfl) (st_bm (by kernel_rfl) fun v72 h73 =>
  (go_run0 rfl rfl rfl (by kernel_rfl) (st_bm (by kernel_rfl) fun v74 h75 =>
  (by kernel_rfl))))))
  (go_skip0 rfl rfl rfl (by kernel_rfl)
  (go_skip0 rfl rfl rfl (by kernel_rfl)
  (by kernel_rfl)))
  (by kernel_rfl))
theorem xm75_3 (s : Sys) (k wl : Nat) (m0 : Nat) (ac : List Nat × List Nat) (t0 t1 t2 t3 t4 t5 t6 t7 t8 t9 t10 t11 t12 t13 t14 t15 t16 t17 t18 t19 t20 t21 t22 t23 t24 t25 t26 t27 t28 t29 t30 t31 t32 t33 t34 t35 t36 t37 t38 t39 t40 t41 t42 t43 : V) (h : Hp) : opsP (xX s 75 wl k false) xg75_0 25 m0 ac (runK (xX s 75 wl k false) (bodyK s.P Try.f75) xk75_0) ⟨[t0, t1, t2, t3, t4, t5, t6, t7, t8, t9, t10, t11, t12, t13, t14, t15, t16, t17, t18, t19, t20, t21, t22, t23, t24, t25, t26, t27, t28, t29, t30, t31, t32, t33, t34, t35, t36, t37, t38, t39, t40, t41, t42, t43], h⟩ =
  gd t32 (
  opsP (xX s 75 wl k false) xg75_0 26 m0 ac (runK (xX s 75 wl k false) (bodyK s.P Try.f75) xk75_0) ⟨[t0, t1, t2, t3, t4, t5, t6, t7, t8, t9, t10, t11, t12, t13, t14, t15, t16, t17, t18, t19, t20, t21, t22, t23, t24, t25, t26, t27, t28, t29, t30, t31, (V.lit (Value.bool true)), t33, t34, t35, t36, t37, t38, t39, t40, t41, uu, t43], h⟩) (
  bm (vPick t38 t41 (V.lit (Value.bool false))) h fun v76 h77 =>
  opsP (xX s 75 wl k false) xg75_0 26 m0 ac (runK (xX s 75 wl k false) (bodyK s.P Try.f75) xk75_0) ⟨[t0, t1, t2, t3, t4, t5, t6, t7, t8, t9, t10, t11, t12, t13, t14, t15, t16, t17, t18, t19, t20, t21, t22, t23, t24, t25, t26, t27, t28, t29, t30, t31, (V.lit (Value.bool false)), t33, t34, t35, t36, t37, t38, t39, t40, t41, v76, t43], h77⟩) (
  opsP (xX s 75 wl k false) xg75_0 26 m0 ac (runK (xX s 75 wl k false) (bodyK s.P Try.f75) xk75_0) ⟨[t0, t1, t2, t3, t4, t5, t6, t7, t8, t9, t10, t11, t12, t13, t14, t15, t16, t17, t18, t19, t20, t21, t22, t23, t24, t25, t26, t27, t28, t29, t30, t31, t32, t33, t34, t35, t36, t37, t38, t39, t40, t41, uu, t43], h⟩) :=
  (go_gdF0 rfl rfl rfl (by kernel_rfl)
  (by kernel_rfl)
  (st_bm (by kernel_rfl) fun v76 h77 =>
  (by kernel_rfl))
  (by kernel_rfl))
theorem xm75_4 (s : Sys) (k wl : Nat) (m0 : Nat) (ac : List Nat × List Nat) (t0 t1 t2 t3 t4 t5 t6 t7 t8 t9 t10 t11 t12 t13 t14 t15 t16 t17 t18 t19 t20 t21 t22 t23 t24 t25 t26 t27 t28 t29 t30 t31 t32 t33 t34 t35 t36 t37 t38 t39 t40 t41 t42 t43 : V) (h : Hp) : opsP (xX s 75 wl k false) xg75_0 23 m0 ac (runK (xX s 75 wl k false) (bodyK s.P Try.f75) xk75_0) ⟨[t0, t1, t2, t3, t4, t5, t6, t7, t8, t9, t10, t11, t12, t13, t14, t15, t16, t17, t18, t19, t20, t21, t22, t23, t24, t25, t26, t27, t28, t29, t30, t31, t32, t33, t34, t35, t36, t37, t38, t39, t40, t41, t42, t43], h⟩ =
  gd t38 (
  bm (vLoad s.P 3 t39 h) h fun v78 h79 =>
  bm (vBin s.P .gtr 3 v78 (V.lit (Value.int .i64 0))) h79 fun v80 h81 =>
  opsP (xX s 75 wl k false) xg75_0 25 m0 ac (runK (xX s 75 wl k false) (bodyK s.P Try.f75) xk75_0) ⟨[t0, t1, t2, t3, t4, t5, t6, t7, t8, t9, t10, t11, t12, t13, t14, t15, t16, t17, t18, t19, t20, t21, t22, t23, t24, t25, t26, t27, t28, t29, t30, t31, t32, t33, t34, t35, t36, t37, (V.lit (Value.bool true)), t39, v78, v80, t42, t43], h81⟩) (
  opsP (xX s 75 wl k false) xg75_0 25 m0 ac (runK (xX s 75 wl k false) (bodyK s.P Try.f75) xk75_0) ⟨[t0, t1, t2, t3, t4, t5, t6, t7, t8, t9, t10, t11, t12, t13, t14, t15, t16, t17, t18, t19, t20, t21, t22, t23, t24, t25, t26, t27, t28, t29, t30, t31, t32, t33, t34, t35, t36, t37, (V.lit (Value.bool false)), t39, uu, uu, t42, t43], h⟩) (
  opsP (xX s 75 wl k false) xg75_0 24 m0 ac (runK (xX s 75 wl k false) (bodyK s.P Try.f75) xk75_0) ⟨[t0, t1, t2, t3, t4, t5, t6, t7, t8, t9, t10, t11, t12, t13, t14, t15, t16, t17, t18, t19, t20, t21, t22, t23, t24, t25, t26, t27, t28, t29, t30, t31, t32, t33, t34, t35, t36, t37, t38, t39, uu, t41, t42, t43], h⟩) :=
  (go_gdT0 rfl rfl rfl (by kernel_rfl)
  (st_bm (by kernel_rfl) fun v78 h79 =>
  (go_run0 rfl rfl rfl (by kernel_rfl) (st_bm (by kernel_rfl) fun v80 h81 =>
  (by kernel_rfl))))
  (go_skip0 rfl rfl rfl (by kernel_rfl)
  (by kernel_rfl))
  (by kernel_rfl))
theorem xm75_5 (s : Sys) (k wl : Nat) (m0 : Nat) (ac : List Nat × List Nat) (t0 t1 t2 t3 t4 t5 t6 t7 t8 t9 t10 t11 t12 t13 t14 t15 t16 t17 t18 t19 t20 t21 t22 t23 t24 t25 t26 t27 t28 t29 t30 t31 t32 t33 t34 t35 t36 t37 t38 t39 t40 t41 t42 t43 : V) (h : Hp) : opsP (xX s 75 wl k false) xg75_0 24 m0 ac (runK (xX s 75 wl k false) (bodyK s.P Try.f75) xk75_0) ⟨[t0, t1, t2, t3, t4, t5, t6, t7, t8, t9, t10, t11, t12, t13, t14, t15, t16, t17, t18, t19, t20, t21, t22, t23, t24, t25, t26, t27, t28, t29, t30, t31, t32, t33, t34, t35, t36, t37, t38, t39, t40, t41, t42, t43], h⟩ =
  gd t38 (
  bm (vBin s.P .gtr 3 t40 (V.lit (Value.int .i64 0))) h fun v82 h83 =>
  opsP (xX s 75 wl k false) xg75_0 25 m0 ac (runK (xX s 75 wl k false) (bodyK s.P Try.f75) xk75_0) ⟨[t0, t1, t2, t3, t4, t5, t6, t7, t8, t9, t10, t11, t12, t13, t14, t15, t16, t17, t18, t19, t20, t21, t22, t23, t24, t25, t26, t27, t28, t29, t30, t31, t32, t33, t34, t35, t36, t37, (V.lit (Value.bool true)), t39, t40, v82, t42, t43], h83⟩) (
  opsP (xX s 75 wl k false) xg75_0 25 m0 ac (runK (xX s 75 wl k false) (bodyK s.P Try.f75) xk75_0) ⟨[t0, t1, t2, t3, t4, t5, t6, t7, t8, t9, t10, t11, t12, t13, t14, t15, t16, t17, t18, t19, t20, t21, t22, t23, t24, t25, t26, t27, t28, t29, t30, t31, t32, t33, t34, t35, t36, t37, (V.lit (Value.bool false)), t39, t40, uu, t42, t43], h⟩) (
  opsP (xX s 75 wl k false) xg75_0 25 m0 ac (runK (xX s 75 wl k false) (bodyK s.P Try.f75) xk75_0) ⟨[t0, t1, t2, t3, t4, t5, t6, t7, t8, t9, t10, t11, t12, t13, t14, t15, t16, t17, t18, t19, t20, t21, t22, t23, t24, t25, t26, t27, t28, t29, t30, t31, t32, t33, t34, t35, t36, t37, t38, t39, t40, uu, t42, t43], h⟩) :=
  (go_gdT0 rfl rfl rfl (by kernel_rfl)
  (st_bm (by kernel_rfl) fun v82 h83 =>
  (by kernel_rfl))
  (by kernel_rfl)
  (by kernel_rfl))
theorem xk75_0_ret (cx : Cx) (K : Out → St → Option (V × Hp)) (s : St) : runK cx K xk75_0 .ret s = K .ret s := by kernel_rfl
-- names: xb75, xm75_0, xm75_1, xm75_2, xm75_3, xm75_4, xm75_5, xk75_0_ret
/-! 76 slices.Equal[[]poacher/api.Item,poacher/api.Item]: 0 s1, 1 s2, 2 s1, 3 s2, 5 i -/
noncomputable def xl76_0 : Code := codeAt (bodyOf Try.f76) [1, 1, 0, 1, 0, 0]
noncomputable def xk76_0 : List Fr := [.block 0, .seq (codeAt (bodyOf Try.f76) [1, 1, 1])]
noncomputable def xg76_0 : Code := codeAt (bodyOf Try.f76) [1, 1, 0, 1, 0, 0, 1, 1, 0, 0, 1, 0]
theorem xo76_6 : orderIx (opsOf xg76_0) = [0, 1, 2, 3, 4, 5, 6, 7, 8] := by kernel_rfl
theorem xo76_6a : (rgOf (opsOf xg76_0)).any = false := by kernel_rfl
theorem xo76_6r : regOk (opsOf xg76_0) = true := by kernel_rfl
theorem xb76 (s : Sys) (k wl : Nat) (t0 t1 : V) (h : Hp) : bodyV (xX s 76 wl k false) Try.f76 [t0, t1] h =
  bp (opLen s.P 43 t0 h) fun v1 h2 =>
  bp (opLen s.P 43 t1 h2) fun v3 h4 =>
  bm (vBin s.P .neq 3 v1 v3) h4 fun v5 h6 =>
  cnd v5 (
  some ((V.lit (Value.bool false)), h6)) (
  bp (opLen s.P 43 t0 h6) fun v7 h8 =>
  itX (xX s 76 wl k false) xl76_0 h8.length (runK (xX s 76 wl k false) (bodyK s.P Try.f76) xk76_0) k ⟨[(V.kill h8.length t0), (V.kill h8.length t1), (V.kill h8.length uu), (V.kill h8.length uu), (V.lit (Value.bool false)), (V.kill h8.length uu), (V.kill h8.length t0), (V.kill h8.length v1), (V.kill h8.length t1), (V.kill h8.length v3), (V.kill h8.length v5), (V.kill h8.length t0), (V.kill h8.length v7), (V.lit (Value.int .i64 0)), .junk, .junk, .junk, .junk, .junk, .junk, .junk, .junk, .junk, .junk, .junk, .junk], cutH h8.length h8⟩) :=
  bodyV_run rfl (go_seq (go_reg0
  (go_op0 rfl rfl (st_id (v := (V.lit (Value.bool false))) (H := h) (by kernel_rfl)
  (go_end0 (by kernel_rfl)
  (go_seq (go_seq (go_reg0
  (go_op0 rfl rfl (st_id (v := t0) (H := h) (by kernel_rfl)
  (go_op0 rfl rfl (st_bp (by kernel_rfl) fun v1 h2 =>
  (go_op0 rfl rfl (st_id (v := t1) (H := h2) (by kernel_rfl)
  (go_op0 rfl rfl (st_bp (by kernel_rfl) fun v3 h4 =>
  (go_op0 rfl rfl (st_bm (by kernel_rfl) fun v5 h6 =>
  (go_end0 (by kernel_rfl)
  (go_cond (by kernel_rfl)
  (go_seq (go_reg0
  (go_op0 rfl rfl (st_id (v := (V.lit (Value.bool false))) (H := h6) (by kernel_rfl)
  (go_end0 (by kernel_rfl)
  (go_ret (rt_seq_ret (by kernel_rfl))))))))
  (go_skip (go_seq (go_seq (go_reg0
  (go_op0 rfl rfl (st_id (v := t0) (H := h6) (by kernel_rfl)
  (go_op0 rfl rfl (st_bp (by kernel_rfl) fun v7 h8 =>
  (go_op0 rfl rfl (st_id (v := (V.lit (Value.int .i64 0))) (H := h8) (by kernel_rfl)
  (go_end0 (by kernel_rfl)
  (go_block (by kernel_rfl)))))))))))))))))))))))))))))))))
theorem xe76 (k wl : Nat) (t0 t1 : V) (h : Hp) : evF Try.prog xM (k + 1) wl 76 [t0, t1] h = bodyV (xX (xS k) 76 wl k false) Try.f76 [t0, t1] h := by kernel_rfl
theorem xz76 (P : Program) (t0 t1 t2 t3 t4 t5 t6 t7 t8 t9 t10 t11 t12 t13 t14 t15 t16 t17 t18 t19 t20 t21 t22 t23 t24 t25 : V) (h : Hp) : bodyK P Try.f76 .ret ⟨[t0, t1, t2, t3, t4, t5, t6, t7, t8, t9, t10, t11, t12, t13, t14, t15, t16, t17, t18, t19, t20, t21, t22, t23, t24, t25], h⟩ = some (t4, h) := by kernel_rfl
theorem xr76_0 (s : Sys) (K : Out → St → Option (V × Hp)) (k wl : Nat) (rd : Bool) (n n0 : Nat) (t0 t1 t2 t3 t4 t5 t6 t7 t8 t9 t10 t11 t12 t13 t14 t15 t16 t17 t18 t19 t20 t21 t22 t23 t24 t25 : V) (h : Hp) : itX (xX s 76 wl k rd) xl76_0 n0 K (n + 1) ⟨[t0, t1, t2, t3, t4, t5, t6, t7, t8, t9, t10, t11, t12, t13, t14, t15, t16, t17, t18, t19, t20, t21, t22, t23, t24, t25], h⟩ =
  bm (vBin s.P .lss 3 t13 t12) h fun v9 h10 =>
  cnd v9 (
  bm (vIndexAddr s.P 43 t0 t13 h10) h10 fun v11 h12 =>
  bm (vLoad s.P 55 v11 h12) h12 fun v13 h14 =>
  bm (vIndexAddr s.P 43 t1 t13 h14) h14 fun v15 h16 =>
  bm (vLoad s.P 55 v15 h16) h16 fun v17 h18 =>
  bm (vBin s.P .neq 55 v13 v17) h18 fun v19 h20 =>
  cnd v19 (
  K .ret ⟨[t0, t1, t2, t3, (V.lit (Value.bool false)), t13, t6, t7, t8, t9, t10, t11, t12, t13, v9, t13, t0, t13, v11, v13, t1, t13, v15, v17, v19, t25], h20⟩) (
  bm (vBin s.P .add 3 t13 (V.lit (Value.int .i64 1))) h20 fun v21 h22 =>
  itX (xX s 76 wl k rd) xl76_0 n0 K n ⟨[(V.kill n0 t0), (V.kill n0 t1), (V.kill n0 t2), (V.kill n0 t3), (V.kill n0 t4), (V.kill n0 t13), (V.kill n0 t6), (V.kill n0 t7), (V.kill n0 t8), (V.kill n0 t9), (V.kill n0 t10), (V.kill n0 t11), (V.kill n0 t12), (V.kill n0 v21), .junk, .junk, .junk, .junk, .junk, .junk, .junk, .junk, .junk, .junk, .junk, .junk], cutH n0 h22⟩)) (
  K (.exit 0) ⟨[(V.kill n0 t0), (V.kill n0 t1), (V.kill n0 t2), (V.kill n0 t3), (V.kill n0 t4), (V.kill n0 t5), (V.kill n0 t6), (V.kill n0 t7), (V.kill n0 t8), (V.kill n0 t9), (V.kill n0 t10), (V.kill n0 t11), (V.kill n0 t12), .junk, .junk, .junk, .junk, .junk, .junk, .junk, .junk, .junk, .junk, .junk, .junk, .junk], cutH n0 h10⟩) :=
  itX_step (go_seq (go_reg0
  (go_op0 rfl rfl (st_bm (by kernel_rfl) fun v9 h10 =>
  (go_end0 (by kernel_rfl)
  (go_seq (go_cond (by kernel_rfl)
  (go_skip (go_seq (go_block (go_seq (go_reg0
  (go_op0 rfl rfl (st_id (v := t13) (H := h10) (by kernel_rfl)
  (go_op0 rfl rfl (st_id (v := t13) (H := h10) (by kernel_rfl)
  (go_end0 (by kernel_rfl)
  (go_seq (go_reg1 xo76_6r
  (go_op1 xo76_6 xo76_6a rfl rfl rfl (st_no (by kernel_rfl) (st_id (v := t0) (H := h10) (by kernel_rfl)
  (go_op1 xo76_6 xo76_6a rfl rfl rfl (st_no (by kernel_rfl) (st_id (v := t13) (H := h10) (by kernel_rfl)
  (go_op1 xo76_6 xo76_6a rfl rfl rfl (st_no (by kernel_rfl) (st_bm (by kernel_rfl) fun v11 h12 =>
  (go_op1 xo76_6 xo76_6a rfl rfl rfl (st_no (by kernel_rfl) (st_bm (by kernel_rfl) fun v13 h14 =>
  (go_op1 xo76_6 xo76_6a rfl rfl rfl (st_no (by kernel_rfl) (st_id (v := t1) (H := h14) (by kernel_rfl)
  (go_op1 xo76_6 xo76_6a rfl rfl rfl (st_no (by kernel_rfl) (st_id (v := t13) (H := h14) (by kernel_rfl)
  (go_op1 xo76_6 xo76_6a rfl rfl rfl (st_no (by kernel_rfl) (st_bm (by kernel_rfl) fun v15 h16 =>
  (go_op1 xo76_6 xo76_6a rfl rfl rfl (st_no (by kernel_rfl) (st_bm (by kernel_rfl) fun v17 h18 =>
  (go_op1 xo76_6 xo76_6a rfl rfl rfl (st_no (by kernel_rfl) (st_bm (by kernel_rfl) fun v19 h20 =>
  (go_end1 xo76_6 (by kernel_rfl) xo76_6a
  (go_cond (by kernel_rfl)
  (go_seq (go_reg0
  (go_op0 rfl rfl (st_id (v := (V.lit (Value.bool false))) (H := h20) (by kernel_rfl)
  (go_end0 (by kernel_rfl)
  (go_ret (rt_block_ret (rt_seq_ret (by kernel_rfl)))))))))
  (go_skip (rt_block_norm (go_reg0
  (go_op0 rfl rfl (st_bm (by kernel_rfl) fun v21 h22 =>
  (go_op0 rfl rfl (st_id (v := v21) (H := h22) (by kernel_rfl)
  (go_end0 (by kernel_rfl)
  (by kernel_rfl))))))))))))))))))))))))))))))))))))))))))))))))))
  (go_exit (rt_seq_exit (by kernel_rfl))))))))))
theorem xj76_0 (s : Sys) (k wl : Nat) (t0 t1 t2 t3 t4 t5 t6 t7 t8 t9 t10 t11 t12 t13 t14 t15 t16 t17 t18 t19 t20 t21 t22 t23 t24 t25 : V) (h : Hp) : runK (xX s 76 wl k false) (bodyK s.P Try.f76) xk76_0 (.exit 0) ⟨[t0, t1, t2, t3, t4, t5, t6, t7, t8, t9, t10, t11, t12, t13, t14, t15, t16, t17, t18, t19, t20, t21, t22, t23, t24, t25], h⟩ =
  some ((V.lit (Value.bool true)), h) :=
  (rt_block_eq (go_seq (go_reg0
  (go_op0 rfl rfl (st_id (v := (V.lit (Value.bool true))) (H := h) (by kernel_rfl)
  (go_end0 (by kernel_rfl)
  (go_ret (by kernel_rfl))))))))
theorem xk76_0_ret (cx : Cx) (K : Out → St → Option (V × Hp)) (s : St) : runK cx K xk76_0 .ret s = K .ret s := by kernel_rfl
-- names: xb76, xz76, xr76_0, xj76_0, xk76_0_ret
/-! 94 poacher/think.ways$1: 0 s, 1 s -/

theorem xb94 (s : Sys) (k wl : Nat) (t0 : V) (h : Hp) : bodyV (xX s 94 wl k false) Try.f94 [t0] h =
  bp (some (.own h.length 0 0, h ++ [.rows 0 [] 0 true])) fun v1 h2 =>
  bp (opLen s.P 43 t0 h2) fun v3 h4 =>
  bm (vBin s.P .sub 3 v3 (V.lit (Value.int .i64 1))) h4 fun v5 h6 =>
  bm (vIndexAddr s.P 43 t0 v5 h6) h6 fun v7 h8 =>
  bm (vFieldAddr s.P 55 v7 1) h8 fun v9 h10 =>
  bm (vLoad s.P 3 v9 h10) h10 fun v11 h12 =>
  bm (vBin s.P .add 3 v11 (V.lit (Value.int .i64 1))) h12 fun v13 h14 =>
  bm (vIndexAddr s.P 43 t0 v5 h14) h14 fun v15 h16 =>
  bm (vFieldAddr s.P 55 v15 1) h16 fun v17 h18 =>
  bs (vStore s.P wl 3 v17 v13 h18) fun h19 =>
  some (t0, h19) :=
  bodyV_run rfl (go_seq (go_reg0
  (go_op0 rfl rfl (st_bp (by kernel_rfl) fun v1 h2 =>
  (go_end0 (by kernel_rfl)
  (go_seq (go_reg0
  (go_op0 rfl rfl (st_id (v := t0) (H := h2) (by kernel_rfl)
  (go_op0 rfl rfl (st_id (v := t0) (H := h2) (by kernel_rfl)
  (go_op0 rfl rfl (st_bp (by kernel_rfl) fun v3 h4 =>
  (go_op0 rfl rfl (st_bm (by kernel_rfl) fun v5 h6 =>
  (go_op0 rfl rfl (st_bm (by kernel_rfl) fun v7 h8 =>
  (go_op0 rfl rfl (st_bm (by kernel_rfl) fun v9 h10 =>
  (go_op0 rfl rfl (st_bm (by kernel_rfl) fun v11 h12 =>
  (go_op0 rfl rfl (st_bm (by kernel_rfl) fun v13 h14 =>
  (go_op0 rfl rfl (st_bm (by kernel_rfl) fun v15 h16 =>
  (go_op0 rfl rfl (st_bm (by kernel_rfl) fun v17 h18 =>
  (go_op0 rfl rfl (st_bs (by kernel_rfl) fun h19 =>
  (go_end0 (by kernel_rfl)
  (go_seq (go_reg0
  (go_op0 rfl rfl (st_id (v := t0) (H := h19) (by kernel_rfl)
  (go_op0 rfl rfl (st_id (v := t0) (H := h19) (by kernel_rfl)
  (go_end0 (by kernel_rfl)
  (go_ret (by kernel_rfl)))))))))))))))))))))))))))))))))))))))
theorem xe94 (k wl : Nat) (t0 : V) (h : Hp) : evF Try.prog xM (k + 1) wl 94 [t0] h = bodyV (xX (xS k) 94 wl k false) Try.f94 [t0] h := by kernel_rfl
-- names: xb94, 
/-! 95 poacher/think.ways$2: 0 s, 1 s -/

theorem xb95 (s : Sys) (k wl : Nat) (t0 : V) (h : Hp) : bodyV (xX s 95 wl k false) Try.f95 [t0] h =
  bp (some (.own h.length 0 0, h ++ [.rows 0 [] 0 true])) fun v1 h2 =>
  bp (opLen s.P 43 t0 h2) fun v3 h4 =>
  bm (vBin s.P .sub 3 v3 (V.lit (Value.int .i64 1))) h4 fun v5 h6 =>
  bm (vIndexAddr s.P 43 t0 v5 h6) h6 fun v7 h8 =>
  bm (vFieldAddr s.P 55 v7 2) h8 fun v9 h10 =>
  bm (vLoad s.P 3 v9 h10) h10 fun v11 h12 =>
  bm (vBin s.P .add 3 v11 (V.lit (Value.int .i64 1))) h12 fun v13 h14 =>
  bm (vIndexAddr s.P 43 t0 v5 h14) h14 fun v15 h16 =>
  bm (vFieldAddr s.P 55 v15 2) h16 fun v17 h18 =>
  bs (vStore s.P wl 3 v17 v13 h18) fun h19 =>
  some (t0, h19) :=
  bodyV_run rfl (go_seq (go_reg0
  (go_op0 rfl rfl (st_bp (by kernel_rfl) fun v1 h2 =>
  (go_end0 (by kernel_rfl)
  (go_seq (go_reg0
  (go_op0 rfl rfl (st_id (v := t0) (H := h2) (by kernel_rfl)
  (go_op0 rfl rfl (st_id (v := t0) (H := h2) (by kernel_rfl)
  (go_op0 rfl rfl (st_bp (by kernel_rfl) fun v3 h4 =>
  (go_op0 rfl rfl (st_bm (by kernel_rfl) fun v5 h6 =>
  (go_op0 rfl rfl (st_bm (by kernel_rfl) fun v7 h8 =>
  (go_op0 rfl rfl (st_bm (by kernel_rfl) fun v9 h10 =>
  (go_op0 rfl rfl (st_bm (by kernel_rfl) fun v11 h12 =>
  (go_op0 rfl rfl (st_bm (by kernel_rfl) fun v13 h14 =>
  (go_op0 rfl rfl (st_bm (by kernel_rfl) fun v15 h16 =>
  (go_op0 rfl rfl (st_bm (by kernel_rfl) fun v17 h18 =>
  (go_op0 rfl rfl (st_bs (by kernel_rfl) fun h19 =>
  (go_end0 (by kernel_rfl)
  (go_seq (go_reg0
  (go_op0 rfl rfl (st_id (v := t0) (H := h19) (by kernel_rfl)
  (go_op0 rfl rfl (st_id (v := t0) (H := h19) (by kernel_rfl)
  (go_end0 (by kernel_rfl)
  (go_ret (by kernel_rfl)))))))))))))))))))))))))))))))))))))))
theorem xe95 (k wl : Nat) (t0 : V) (h : Hp) : evF Try.prog xM (k + 1) wl 95 [t0] h = bodyV (xX (xS k) 95 wl k false) Try.f95 [t0] h := by kernel_rfl
-- names: xb95, 
/-! 96 poacher/think.ways$3: 0 s, 1 s -/

theorem xb96 (s : Sys) (k wl : Nat) (t0 : V) (h : Hp) : bodyV (xX s 96 wl k false) Try.f96 [t0] h =
  bp (some (.own h.length 0 0, h ++ [.rows 0 [] 0 true])) fun v1 h2 =>
  bp (opLen s.P 43 t0 h2) fun v3 h4 =>
  bm (vBin s.P .sub 3 v3 (V.lit (Value.int .i64 1))) h4 fun v5 h6 =>
  bp (vSlice s.P wl false 43 t0 none (some v5) none h6) fun v7 h8 =>
  some (v7, h8) :=
  bodyV_run rfl (go_seq (go_reg0
  (go_op0 rfl rfl (st_bp (by kernel_rfl) fun v1 h2 =>
  (go_end0 (by kernel_rfl)
  (go_seq (go_reg0
  (go_op0 rfl rfl (st_id (v := t0) (H := h2) (by kernel_rfl)
  (go_op0 rfl rfl (st_id (v := t0) (H := h2) (by kernel_rfl)
  (go_op0 rfl rfl (st_bp (by kernel_rfl) fun v3 h4 =>
  (go_op0 rfl rfl (st_bm (by kernel_rfl) fun v5 h6 =>
  (go_op0 rfl rfl (st_bp (by kernel_rfl) fun v7 h8 =>
  (go_op0 rfl rfl (st_id (v := v7) (H := h8) (by kernel_rfl)
  (go_end0 (by kernel_rfl)
  (go_ret (by kernel_rfl))))))))))))))))))))))
theorem xe96 (k wl : Nat) (t0 : V) (h : Hp) : evF Try.prog xM (k + 1) wl 96 [t0] h = bodyV (xX (xS k) 96 wl k false) Try.f96 [t0] h := by kernel_rfl
-- names: xb96, 
/-! 97 slices.IndexFunc[[]poacher/api.Item,poacher/api.Item]: 0 s, 1 f, 2 s, 3 f, 5 i -/
noncomputable def xl97_0 : Code := codeAt (bodyOf Try.f97) [1, 0, 1, 0, 0]
noncomputable def xk97_0 : List Fr := [.block 0, .seq (codeAt (bodyOf Try.f97) [1, 1])]
theorem xb97 (s : Sys) (k wl : Nat) (t0 t1 : V) (h : Hp) : bodyV (xX s 97 wl k false) Try.f97 [t0, t1] h =
  bp (opLen s.P 43 t0 h) fun v1 h2 =>
  itX (xX s 97 wl k false) xl97_0 h2.length (runK (xX s 97 wl k false) (bodyK s.P Try.f97) xk97_0) k ⟨[(V.kill h2.length t0), (V.kill h2.length t1), (V.kill h2.length uu), (V.kill h2.length uu), (V.lit (Value.int .i64 0)), (V.kill h2.length uu), (V.kill h2.length t0), (V.kill h2.length v1), (V.lit (Value.int .i64 0)), .junk, .junk, .junk, .junk, .junk, .junk, .junk, .junk, .junk, .junk], cutH h2.length h2⟩ :=
  bodyV_run rfl (go_seq (go_reg0
  (go_op0 rfl rfl (st_id (v := (V.lit (Value.int .i64 0))) (H := h) (by kernel_rfl)
  (go_end0 (by kernel_rfl)
  (go_seq (go_seq (go_reg0
  (go_op0 rfl rfl (st_id (v := t0) (H := h) (by kernel_rfl)
  (go_op0 rfl rfl (st_bp (by kernel_rfl) fun v1 h2 =>
  (go_op0 rfl rfl (st_id (v := (V.lit (Value.int .i64 0))) (H := h2) (by kernel_rfl)
  (go_end0 (by kernel_rfl)
  (go_block (by kernel_rfl)))))))))))))))))
theorem xe97 (k wl : Nat) (t0 t1 : V) (h : Hp) : evF Try.prog xM (k + 1) wl 97 [t0, t1] h = bodyV (xX (xS k) 97 wl k false) Try.f97 [t0, t1] h := by kernel_rfl
theorem xz97 (P : Program) (t0 t1 t2 t3 t4 t5 t6 t7 t8 t9 t10 t11 t12 t13 t14 t15 t16 t17 t18 : V) (h : Hp) : bodyK P Try.f97 .ret ⟨[t0, t1, t2, t3, t4, t5, t6, t7, t8, t9, t10, t11, t12, t13, t14, t15, t16, t17, t18], h⟩ = some (t4, h) := by kernel_rfl
theorem xr97_0 (s : Sys) (K : Out → St → Option (V × Hp)) (k wl : Nat) (rd : Bool) (n n0 : Nat) (t0 t1 t2 t3 t4 t5 t6 t7 t8 t9 t10 t11 t12 t13 t14 t15 t16 t17 t18 : V) (h : Hp) : itX (xX s 97 wl k rd) xl97_0 n0 K (n + 1) ⟨[t0, t1, t2, t3, t4, t5, t6, t7, t8, t9, t10, t11, t12, t13, t14, t15, t16, t17, t18], h⟩ =
  bm (vBin s.P .lss 3 t8 t7) h fun v3 h4 =>
  cnd v3 (
  bm (vIndexAddr s.P 43 t0 t8 h4) h4 fun v5 h6 =>
  bm (vLoad s.P 55 v5 h6) h6 fun v7 h8 =>
  bp (callV (xX s 97 wl k rd) false true t1 [v7] h8) fun v9 h10 =>
  cnd v9 (
  K .ret ⟨[t0, t1, t2, t3, t8, t8, t6, t7, t8, v3, t8, t1, t0, t8, v5, v7, v9, t8, t18], h10⟩) (
  bm (vBin s.P .add 3 t8 (V.lit (Value.int .i64 1))) h10 fun v11 h12 =>
  itX (xX s 97 wl k rd) xl97_0 n0 K n ⟨[(V.kill n0 t0), (V.kill n0 t1), (V.kill n0 t2), (V.kill n0 t3), (V.kill n0 t4), (V.kill n0 t8), (V.kill n0 t6), (V.kill n0 t7), (V.kill n0 v11), .junk, .junk, .junk, .junk, .junk, .junk, .junk, .junk, .junk, .junk], cutH n0 h12⟩)) (
  K (.exit 0) ⟨[(V.kill n0 t0), (V.kill n0 t1), (V.kill n0 t2), (V.kill n0 t3), (V.kill n0 t4), (V.kill n0 t5), (V.kill n0 t6), (V.kill n0 t7), .junk, .junk, .junk, .junk, .junk, .junk, .junk, .junk, .junk, .junk, .junk], cutH n0 h4⟩) :=
  itX_step (go_seq (go_reg0
  (go_op0 rfl rfl (st_bm (by kernel_rfl) fun v3 h4 =>
  (go_end0 (by kernel_rfl)
  (go_seq (go_cond (by kernel_rfl)
  (go_skip (go_seq (go_block (go_seq (go_reg0
  (go_op0 rfl rfl (st_id (v := t8) (H := h4) (by kernel_rfl)
  (go_op0 rfl rfl (st_id (v := t8) (H := h4) (by kernel_rfl)
  (go_end0 (by kernel_rfl)
  (go_seq (go_reg0
  (go_op0 rfl rfl (st_id (v := t1) (H := h4) (by kernel_rfl)
  (go_op0 rfl rfl (st_id (v := t0) (H := h4) (by kernel_rfl)
  (go_op0 rfl rfl (st_id (v := t8) (H := h4) (by kernel_rfl)
  (go_op0 rfl rfl (st_bm (by kernel_rfl) fun v5 h6 =>
  (go_op0 rfl rfl (st_bm (by kernel_rfl) fun v7 h8 =>
  (go_op0 rfl rfl (st_bp (by kernel_rfl) fun v9 h10 =>
  (go_end0 (by kernel_rfl)
  (go_cond (by kernel_rfl)
  (go_seq (go_reg0
  (go_op0 rfl rfl (st_id (v := t8) (H := h10) (by kernel_rfl)
  (go_op0 rfl rfl (st_id (v := t8) (H := h10) (by kernel_rfl)
  (go_end0 (by kernel_rfl)
  (go_ret (rt_block_ret (rt_seq_ret (by kernel_rfl)))))))))))
  (go_skip (rt_block_norm (go_reg0
  (go_op0 rfl rfl (st_bm (by kernel_rfl) fun v11 h12 =>
  (go_op0 rfl rfl (st_id (v := v11) (H := h12) (by kernel_rfl)
  (go_end0 (by kernel_rfl)
  (by kernel_rfl)))))))))))))))))))))))))))))))))))
  (go_exit (rt_seq_exit (by kernel_rfl))))))))))
theorem xj97_0 (s : Sys) (k wl : Nat) (t0 t1 t2 t3 t4 t5 t6 t7 t8 t9 t10 t11 t12 t13 t14 t15 t16 t17 t18 : V) (h : Hp) : runK (xX s 97 wl k false) (bodyK s.P Try.f97) xk97_0 (.exit 0) ⟨[t0, t1, t2, t3, t4, t5, t6, t7, t8, t9, t10, t11, t12, t13, t14, t15, t16, t17, t18], h⟩ =
  some ((V.lit (Value.int .i64 (-1))), h) :=
  (rt_block_eq (go_seq (go_reg0
  (go_op0 rfl rfl (st_id (v := (V.lit (Value.int .i64 (-1)))) (H := h) (by kernel_rfl)
  (go_end0 (by kernel_rfl)
  (go_ret (by kernel_rfl))))))))
theorem xk97_0_ret (cx : Cx) (K : Out → St → Option (V × Hp)) (s : St) : runK cx K xk97_0 .ret s = K .ret s := by kernel_rfl
-- names: xb97, xz97, xr97_0, xj97_0, xk97_0_ret
end Go.Ab
