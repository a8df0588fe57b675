/- The program's code, point by point: printed by gen.py. -/
import Derived.Test.YtecgfaaaloameaaR1Seat
set_option maxRecDepth 100000
set_option linter.unusedVariables false
namespace Go.Ab
open Go.Proofs
/-! 77 slices.ContainsFunc[[]poacher/api.Task,poacher/api.Task]: 0 s, 1 f, 2 s, 3 f -/

theorem xb77 (s : Sys) (k wl : Nat) (t0 t1 : V) (h : Hp) : bodyV (xX s 77 wl k false) Try.f77 [t0, t1] h =
  bp (callV (xX s 77 wl k false) false true (.fn (.func 98) [] []) [t0, t1] h) fun v1 h2 =>
  bm (vBin s.P .geq 3 v1 (V.lit (Value.int .i64 0))) h2 fun v3 h4 =>
  some (v3, h4) :=
  bodyV_run rfl (go_seq (go_reg0
  (go_op0 rfl rfl (st_id (v := (V.lit (Value.bool false))) (H := h) (by kernel_rfl)
  (go_end0 (by kernel_rfl)
  (go_seq (go_reg0
  (go_op0 rfl rfl (st_id (v := t0) (H := h) (by kernel_rfl)
  (go_op0 rfl rfl (st_id (v := t1) (H := h) (by kernel_rfl)
  (go_op0 rfl rfl (st_bp (by kernel_rfl) fun v1 h2 =>
  (go_op0 rfl rfl (st_bm (by kernel_rfl) fun v3 h4 =>
  (go_op0 rfl rfl (st_id (v := v3) (H := h4) (by kernel_rfl)
  (go_end0 (by kernel_rfl)
  (go_ret (by kernel_rfl))))))))))))))))))))
theorem xe77 (k wl : Nat) (t0 t1 : V) (h : Hp) : evF Try.prog xM (k + 1) wl 77 [t0, t1] h = bodyV (xX (xS k) 77 wl k false) Try.f77 [t0, t1] h := by kernel_rfl
-- names: xb77, 
/-! 78 poacher/forest.May$1: 0 x, 1 x -/
noncomputable def xg78_0 : Code := codeAt (bodyOf Try.f78) [1, 0]
noncomputable def xk78_0 : List Fr := [.seq (codeAt (bodyOf Try.f78) [1, 1])]
theorem xb78 (s : Sys) (k wl : Nat) (t0 : V) (h : Hp) : bodyV (xX s 78 wl k false) Try.f78 [t0] h =
  bp (opBox t0 h) fun v1 h2 =>
  bm (vFieldAddr s.P 40 v1 0) h2 fun v3 h4 =>
  bm (vLoad s.P 3 v3 h4) h4 fun v5 h6 =>
  bm (vBin s.P .lss 3 v5 (V.lit (Value.int .i64 0))) h6 fun v7 h8 =>
  gd v7 (
  opsP (xX s 78 wl k false) xg78_0 7 h2.length ([], []) (runK (xX s 78 wl k false) (bodyK s.P Try.f78) xk78_0) ⟨[t0, v1, (V.lit (Value.bool false)), v3, v5, v7, (V.lit (Value.bool true)), uu, uu, uu, uu], h8⟩) (
  bm (vFieldAddr s.P 40 v1 0) h8 fun v9 h10 =>
  bm (vLoad s.P 3 v9 h10) h10 fun v11 h12 =>
  bm (vBin s.P .gtr 3 v11 (V.lit (Value.int .i64 20))) h12 fun v13 h14 =>
  opsP (xX s 78 wl k false) xg78_0 7 h2.length ([], []) (runK (xX s 78 wl k false) (bodyK s.P Try.f78) xk78_0) ⟨[t0, v1, (V.lit (Value.bool false)), v3, v5, v7, (V.lit (Value.bool false)), v9, v11, v13, uu], h14⟩) (
  opsP (xX s 78 wl k false) xg78_0 5 h2.length ([], []) (runK (xX s 78 wl k false) (bodyK s.P Try.f78) xk78_0) ⟨[t0, v1, (V.lit (Value.bool false)), v3, v5, v7, v7, uu, uu, uu, uu], h8⟩) :=
  bodyV_run rfl (go_seq (go_reg0
  (go_op0 rfl rfl (st_bp (by kernel_rfl) fun v1 h2 =>
  (go_op0 rfl rfl (st_id (v := (V.lit (Value.bool false))) (H := h2) (by kernel_rfl)
  (go_end0 (by kernel_rfl)
  (go_seq (go_reg0
  (go_op0 rfl rfl (st_bm (by kernel_rfl) fun v3 h4 =>
  (go_op0 rfl rfl (st_bm (by kernel_rfl) fun v5 h6 =>
  (go_op0 rfl rfl (st_bm (by kernel_rfl) fun v7 h8 =>
  (go_op0 rfl rfl (st_id (v := v7) (H := h8) (by kernel_rfl)
  (go_gdF0 rfl rfl rfl (by kernel_rfl)
  (go_skip0 rfl rfl rfl (by kernel_rfl)
  (go_skip0 rfl rfl rfl (by kernel_rfl)
  (by kernel_rfl)))
  (st_bm (by kernel_rfl) fun v9 h10 =>
  (go_run0 rfl rfl rfl (by kernel_rfl) (st_bm (by kernel_rfl) fun v11 h12 =>
  (go_run0 rfl rfl rfl (by kernel_rfl) (st_bm (by kernel_rfl) fun v13 h14 =>
  (by kernel_rfl))))))
  (by kernel_rfl)))))))))))))))))))
theorem xe78 (k wl : Nat) (t0 : V) (h : Hp) : evF Try.prog xM (k + 1) wl 78 [t0] h = bodyV (xX (xS k) 78 wl k false) Try.f78 [t0] h := by kernel_rfl
theorem xm78_0 (s : Sys) (k wl : Nat) (m0 : Nat) (ac : List Nat × List Nat) (t0 t1 t2 t3 t4 t5 t6 t7 t8 t9 t10 : V) (h : Hp) : opsP (xX s 78 wl k false) xg78_0 7 m0 ac (runK (xX s 78 wl k false) (bodyK s.P Try.f78) xk78_0) ⟨[t0, t1, t2, t3, t4, t5, t6, t7, t8, t9, t10], h⟩ =
  bm (vPick t6 (V.lit (Value.bool true)) t9) h fun v15 h16 =>
  some (v15, h16) :=
  (go_op0 rfl rfl (st_bm (by kernel_rfl) fun v15 h16 =>
  (go_op0 rfl rfl (st_id (v := v15) (H := h16) (by kernel_rfl)
  (go_end0 (by kernel_rfl)
  (go_ret (by kernel_rfl)))))))
theorem xk78_0_ret (cx : Cx) (K : Out → St → Option (V × Hp)) (s : St) : runK cx K xk78_0 .ret s = K .ret s := by kernel_rfl
-- names: xb78, xm78_0, xk78_0_ret
/-! 79 poacher/poacherlaw04.Five:  -/

theorem xb79 (s : Sys) (k wl : Nat) (h : Hp) : bodyV (xX s 79 wl k false) Try.f79 [] h =
  bp (some (.own h.length 0 0, h ++ [.rows 0 [] 0 true])) fun v1 h2 =>
  bp (vBuildSlice s.P wl 23 2 [(0, (V.lit (Value.int .i64 1))), (1, (V.lit (Value.int .i64 3)))] h2) fun v3 h4 =>
  bm (vBuild s.P 40 [(0, (V.lit (Value.int .i64 2))), (1, v3)]) h4 fun v5 h6 =>
  bp (vBuildSlice s.P wl 23 1 [(0, (V.lit (Value.int .i64 2)))] h6) fun v7 h8 =>
  bm (vBuild s.P 40 [(0, (V.lit (Value.int .i64 1))), (1, v7)]) h8 fun v9 h10 =>
  bm (vBuild s.P 40 [(0, (V.lit (Value.int .i64 3)))]) h10 fun v11 h12 =>
  bm (vBuild s.P 40 []) h12 fun v13 h14 =>
  bm (vBuild s.P 40 [(0, (V.lit (Value.int .i64 1)))]) h14 fun v15 h16 =>
  bp (vBuildSlice s.P wl 22 5 [(0, v5), (1, v9), (2, v11), (3, v13), (4, v15)] h16) fun v17 h18 =>
  some (v17, h18) :=
  bodyV_run rfl (go_seq (go_reg0
  (go_op0 rfl rfl (st_bp (by kernel_rfl) fun v1 h2 =>
  (go_end0 (by kernel_rfl)
  (go_seq (go_reg0
  (go_op0 rfl rfl (st_bp (by kernel_rfl) fun v3 h4 =>
  (go_op0 rfl rfl (st_bm (by kernel_rfl) fun v5 h6 =>
  (go_op0 rfl rfl (st_bp (by kernel_rfl) fun v7 h8 =>
  (go_op0 rfl rfl (st_bm (by kernel_rfl) fun v9 h10 =>
  (go_op0 rfl rfl (st_bm (by kernel_rfl) fun v11 h12 =>
  (go_op0 rfl rfl (st_bm (by kernel_rfl) fun v13 h14 =>
  (go_op0 rfl rfl (st_bm (by kernel_rfl) fun v15 h16 =>
  (go_op0 rfl rfl (st_bp (by kernel_rfl) fun v17 h18 =>
  (go_op0 rfl rfl (st_id (v := v17) (H := h18) (by kernel_rfl)
  (go_end0 (by kernel_rfl)
  (go_ret (by kernel_rfl))))))))))))))))))))))))))))
theorem xe79 (k wl : Nat) (h : Hp) : evF Try.prog xM (k + 1) wl 79 [] h = bodyV (xX (xS k) 79 wl k false) Try.f79 [] h := by kernel_rfl
-- names: xb79, 
/-! 80 slices.Collect[int]: 0 seq, 1 seq -/

theorem xb80 (s : Sys) (k wl : Nat) (t0 : V) (h : Hp) : bodyV (xX s 80 wl k false) Try.f80 [t0] h =
  bp (some (.own h.length 0 0, h ++ [.rows 0 [] 0 true])) fun v1 h2 =>
  bp (callV (xX s 80 wl k false) false true (.fn (.func 99) [] []) [.nil, t0] h2) fun v3 h4 =>
  some (v3, h4) :=
  bodyV_run rfl (go_seq (go_reg0
  (go_op0 rfl rfl (st_bp (by kernel_rfl) fun v1 h2 =>
  (go_end0 (by kernel_rfl)
  (go_seq (go_reg0
  (go_op0 rfl rfl (st_id (v := t0) (H := h2) (by kernel_rfl)
  (go_op0 rfl rfl (st_bp (by kernel_rfl) fun v3 h4 =>
  (go_op0 rfl rfl (st_id (v := v3) (H := h4) (by kernel_rfl)
  (go_end0 (by kernel_rfl)
  (go_ret (by kernel_rfl))))))))))))))))
theorem xe80 (k wl : Nat) (t0 : V) (h : Hp) : evF Try.prog xM (k + 1) wl 80 [t0] h = bodyV (xX (xS k) 80 wl k false) Try.f80 [t0] h := by kernel_rfl
-- names: xb80, 
/-! 81 poacher/forest.under: 0 t, 1 r, 2 t, 3 r -/

theorem xb81 (s : Sys) (k wl : Nat) (t0 t1 : V) (h : Hp) : bodyV (xX s 81 wl k false) Try.f81 [t0, t1] h =
  bp (opBox t0 h) fun v1 h2 =>
  bp (opBox t1 h2) fun v3 h4 =>
  some ((.fn (.func 100) [] [v1, v3]), h4) :=
  bodyV_run rfl (go_seq (go_reg0
  (go_op0 rfl rfl (st_bp (by kernel_rfl) fun v1 h2 =>
  (go_op0 rfl rfl (st_bp (by kernel_rfl) fun v3 h4 =>
  (go_op0 rfl rfl (st_id (v := (constV Value.nilFunc)) (H := h4) (by kernel_rfl)
  (go_end0 (by kernel_rfl)
  (go_seq (go_reg0
  (go_op0 rfl rfl (st_id (v := (.fn (.func 100) [] [v1, v3])) (H := h4) (by kernel_rfl)
  (go_op0 rfl rfl (st_id (v := (.fn (.func 100) [] [v1, v3])) (H := h4) (by kernel_rfl)
  (go_end0 (by kernel_rfl)
  (go_ret (by kernel_rfl))))))))))))))))))
theorem xe81 (k wl : Nat) (t0 t1 : V) (h : Hp) : evF Try.prog xM (k + 1) wl 81 [t0, t1] h = bodyV (xX (xS k) 81 wl k false) Try.f81 [t0, t1] h := by kernel_rfl
-- names: xb81, 
/-! 82 poacher/poacherref04.under: 0 t, 1 r, 2 t, 3 r, 5 out, 6 j, 7 l -/
noncomputable def xl82_0 : Code := codeAt (bodyOf Try.f82) [1, 1, 0, 1, 0, 0]
noncomputable def xk82_0 : List Fr := [.block 0, .seq (codeAt (bodyOf Try.f82) [1, 1, 1])]
theorem xb82 (s : Sys) (k wl : Nat) (t0 t1 : V) (h : Hp) : bodyV (xX s 82 wl k false) Try.f82 [t0, t1] h =
  bp (some (.own h.length 0 0, h ++ [.rows 0 [] 0 true])) fun v1 h2 =>
  bp (vBuildSlice s.P wl 23 1 [(0, t1)] h2) fun v3 h4 =>
  itX (xX s 82 wl k false) xl82_0 h4.length (runK (xX s 82 wl k false) (bodyK s.P Try.f82) xk82_0) k ⟨[(V.kill h4.length t0), (V.kill h4.length t1), (V.kill h4.length uu), (V.kill h4.length uu), (V.kill h4.length v1), (V.kill h4.length v3), (V.lit (Value.int .i64 0)), (V.kill h4.length uu), (V.kill h4.length t1), (V.kill h4.length v3), .junk, .junk, .junk, .junk, .junk, .junk, .junk, .junk, .junk, .junk, .junk, .junk, .junk, .junk, .junk, .junk, .junk, .junk, .junk, .junk, .junk, .junk, .junk, (V.kill h4.length uu)], cutH h4.length h4⟩ :=
  bodyV_run rfl (go_seq (go_reg0
  (go_op0 rfl rfl (st_bp (by kernel_rfl) fun v1 h2 =>
  (go_end0 (by kernel_rfl)
  (go_seq (go_reg0
  (go_op0 rfl rfl (st_id (v := t1) (H := h2) (by kernel_rfl)
  (go_op0 rfl rfl (st_bp (by kernel_rfl) fun v3 h4 =>
  (go_op0 rfl rfl (st_id (v := v3) (H := h4) (by kernel_rfl)
  (go_end0 (by kernel_rfl)
  (go_seq (go_seq (go_reg0
  (go_op0 rfl rfl (st_id (v := (V.lit (Value.int .i64 0))) (H := h4) (by kernel_rfl)
  (go_end0 (by kernel_rfl)
  (go_block (by kernel_rfl))))))))))))))))))))))
theorem xe82 (k wl : Nat) (t0 t1 : V) (h : Hp) : evF Try.prog xM (k + 1) wl 82 [t0, t1] h = bodyV (xX (xS k) 82 wl k false) Try.f82 [t0, t1] h := by kernel_rfl
theorem xz82 (P : Program) (t0 t1 t2 t3 t4 t5 t6 t7 t8 t9 t10 t11 t12 t13 t14 t15 t16 t17 t18 t19 t20 t21 t22 t23 t24 t25 t26 t27 t28 t29 t30 t31 t32 t33 : V) (h : Hp) : bodyK P Try.f82 .ret ⟨[t0, t1, t2, t3, t4, t5, t6, t7, t8, t9, t10, t11, t12, t13, t14, t15, t16, t17, t18, t19, t20, t21, t22, t23, t24, t25, t26, t27, t28, t29, t30, t31, t32, t33], h⟩ = some (t4, h) := by kernel_rfl
theorem xr82_0 (s : Sys) (K : Out → St → Option (V × Hp)) (k wl : Nat) (rd : Bool) (n n0 : Nat) (t0 t1 t2 t3 t4 t5 t6 t7 t8 t9 t10 t11 t12 t13 t14 t15 t16 t17 t18 t19 t20 t21 t22 t23 t24 t25 t26 t27 t28 t29 t30 t31 t32 t33 : V) (h : Hp) : itX (xX s 82 wl k rd) xl82_0 n0 K (n + 1) ⟨[t0, t1, t2, t3, t4, t5, t6, t7, t8, t9, t10, t11, t12, t13, t14, t15, t16, t17, t18, t19, t20, t21, t22, t23, t24, t25, t26, t27, t28, t29, t30, t31, t32, t33], h⟩ =
  bm (vIndexAddr s.P 22 t0 t1 h) h fun v5 h6 =>
  bm (vFieldAddr s.P 40 v5 1) h6 fun v7 h8 =>
  bm (vLoad s.P 23 v7 h8) h8 fun v9 h10 =>
  bp (opLen s.P 23 v9 h10) fun v11 h12 =>
  bm (vBin s.P .lss 3 t6 v11) h12 fun v13 h14 =>
  cnd v13 (
  bm (vIndexAddr s.P 22 t0 t1 h14) h14 fun v15 h16 =>
  bm (vFieldAddr s.P 40 v15 1) h16 fun v17 h18 =>
  bm (vLoad s.P 23 v17 h18) h18 fun v19 h20 =>
  bm (vIndexAddr s.P 23 v19 t6 h20) h20 fun v21 h22 =>
  bm (vLoad s.P 3 v21 h22) h22 fun v23 h24 =>
  bp (callV (xX s 82 wl k rd) false true (.fn (.func 82) [] []) [t0, v23] h24) fun v25 h26 =>
  bp (opApp s.P wl 23 23 t5 v25 h26) fun v27 h28 =>
  bm (vBin s.P .add 3 t6 (V.lit (Value.int .i64 1))) h28 fun v29 h30 =>
  itX (xX s 82 wl k rd) xl82_0 n0 K n ⟨[(V.kill n0 t0), (V.kill n0 t1), (V.kill n0 t2), (V.kill n0 t3), (V.kill n0 t4), (V.kill n0 v27), (V.kill n0 v29), (V.kill n0 v25), (V.kill n0 t8), (V.kill n0 t9), .junk, .junk, .junk, .junk, .junk, .junk, .junk, .junk, .junk, .junk, .junk, .junk, .junk, .junk, .junk, .junk, .junk, .junk, .junk, .junk, .junk, .junk, .junk, (V.kill n0 t33)], cutH n0 h30⟩) (
  K (.exit 0) ⟨[(V.kill n0 t0), (V.kill n0 t1), (V.kill n0 t2), (V.kill n0 t3), (V.kill n0 t4), (V.kill n0 t5), (V.kill n0 t6), (V.kill n0 t7), (V.kill n0 t8), (V.kill n0 t9), .junk, .junk, .junk, .junk, .junk, .junk, .junk, .junk, .junk, .junk, .junk, .junk, .junk, .junk, .junk, .junk, .junk, .junk, .junk, .junk, .junk, .junk, .junk, (V.kill n0 t33)], cutH n0 h14⟩) :=
  itX_step (go_seq (go_seq (go_reg0
  (go_op0 rfl rfl (st_id (v := t6) (H := h) (by kernel_rfl)
  (go_op0 rfl rfl (st_id (v := t0) (H := h) (by kernel_rfl)
  (go_op0 rfl rfl (st_id (v := t1) (H := h) (by kernel_rfl)
  (go_op0 rfl rfl (st_bm (by kernel_rfl) fun v5 h6 =>
  (go_op0 rfl rfl (st_bm (by kernel_rfl) fun v7 h8 =>
  (go_op0 rfl rfl (st_bm (by kernel_rfl) fun v9 h10 =>
  (go_op0 rfl rfl (st_bp (by kernel_rfl) fun v11 h12 =>
  (go_op0 rfl rfl (st_bm (by kernel_rfl) fun v13 h14 =>
  (go_end0 (by kernel_rfl)
  (go_cond (by kernel_rfl)
  (go_skip (go_seq (go_block (go_seq (go_reg0
  (go_op0 rfl rfl (st_id (v := t0) (H := h14) (by kernel_rfl)
  (go_op0 rfl rfl (st_id (v := t0) (H := h14) (by kernel_rfl)
  (go_op0 rfl rfl (st_id (v := t1) (H := h14) (by kernel_rfl)
  (go_op0 rfl rfl (st_bm (by kernel_rfl) fun v15 h16 =>
  (go_op0 rfl rfl (st_bm (by kernel_rfl) fun v17 h18 =>
  (go_op0 rfl rfl (st_bm (by kernel_rfl) fun v19 h20 =>
  (go_op0 rfl rfl (st_id (v := t6) (H := h20) (by kernel_rfl)
  (go_op0 rfl rfl (st_bm (by kernel_rfl) fun v21 h22 =>
  (go_op0 rfl rfl (st_bm (by kernel_rfl) fun v23 h24 =>
  (go_op0 rfl rfl (st_bp (by kernel_rfl) fun v25 h26 =>
  (go_op0 rfl rfl (st_id (v := v25) (H := h26) (by kernel_rfl)
  (go_end0 (by kernel_rfl)
  (go_reg0
  (go_op0 rfl rfl (st_id (v := t5) (H := h26) (by kernel_rfl)
  (go_op0 rfl rfl (st_id (v := v25) (H := h26) (by kernel_rfl)
  (go_op0 rfl rfl (st_bp (by kernel_rfl) fun v27 h28 =>
  (go_op0 rfl rfl (st_id (v := v27) (H := h28) (by kernel_rfl)
  (go_end0 (by kernel_rfl)
  (rt_block_norm (go_reg0
  (go_op0 rfl rfl (st_id (v := t6) (H := h28) (by kernel_rfl)
  (go_op0 rfl rfl (st_bm (by kernel_rfl) fun v29 h30 =>
  (go_op0 rfl rfl (st_id (v := v29) (H := h30) (by kernel_rfl)
  (go_end0 (by kernel_rfl)
  (by kernel_rfl))))))))))))))))))))))))))))))))))))))))))))))))
  (go_exit (rt_seq_exit (by kernel_rfl))))))))))))))))))))))))
theorem xj82_0 (s : Sys) (k wl : Nat) (t0 t1 t2 t3 t4 t5 t6 t7 t8 t9 t10 t11 t12 t13 t14 t15 t16 t17 t18 t19 t20 t21 t22 t23 t24 t25 t26 t27 t28 t29 t30 t31 t32 t33 : V) (h : Hp) : runK (xX s 82 wl k false) (bodyK s.P Try.f82) xk82_0 (.exit 0) ⟨[t0, t1, t2, t3, t4, t5, t6, t7, t8, t9, t10, t11, t12, t13, t14, t15, t16, t17, t18, t19, t20, t21, t22, t23, t24, t25, t26, t27, t28, t29, t30, t31, t32, t33], h⟩ =
  some (t5, h) :=
  (rt_block_eq (go_seq (go_reg0
  (go_op0 rfl rfl (st_id (v := t5) (H := h) (by kernel_rfl)
  (go_op0 rfl rfl (st_id (v := t5) (H := h) (by kernel_rfl)
  (go_end0 (by kernel_rfl)
  (go_ret (by kernel_rfl))))))))))
theorem xk82_0_ret (cx : Cx) (K : Out → St → Option (V × Hp)) (s : St) : runK cx K xk82_0 .ret s = K .ret s := by kernel_rfl
-- names: xb82, xz82, xr82_0, xj82_0, xk82_0_ret
/-! 83 slices.EqualFunc[[]poacher/api.Task,[]poacher/api.Task,poacher/api.Task,poacher/api.Task]: 0 s1, 1 s2, 2 eq, 3 s1, 4 s2, 5 eq, 7 i, 8 v1, 9 v2 -/
noncomputable def xl83_0 : Code := codeAt (bodyOf Try.f83) [1, 1, 0, 1, 0, 0]
noncomputable def xk83_0 : List Fr := [.block 0, .seq (codeAt (bodyOf Try.f83) [1, 1, 1])]
theorem xb83 (s : Sys) (k wl : Nat) (t0 t1 t2 : V) (h : Hp) : bodyV (xX s 83 wl k false) Try.f83 [t0, t1, t2] h =
  bp (opLen s.P 22 t0 h) fun v1 h2 =>
  bp (opLen s.P 22 t1 h2) fun v3 h4 =>
  bm (vBin s.P .neq 3 v1 v3) h4 fun v5 h6 =>
  cnd v5 (
  some ((V.lit (Value.bool false)), h6)) (
  bp (opLen s.P 22 t0 h6) fun v7 h8 =>
  itX (xX s 83 wl k false) xl83_0 h8.length (runK (xX s 83 wl k false) (bodyK s.P Try.f83) xk83_0) k ⟨[(V.kill h8.length t0), (V.kill h8.length t1), (V.kill h8.length t2), (V.kill h8.length uu), (V.kill h8.length uu), (V.kill h8.length uu), (V.lit (Value.bool false)), (V.kill h8.length uu), (V.kill h8.length uu), (V.kill h8.length uu), (V.kill h8.length t0), (V.kill h8.length v1), (V.kill h8.length t1), (V.kill h8.length v3), (V.kill h8.length v5), (V.kill h8.length t0), (V.kill h8.length v7), (V.lit (Value.int .i64 0)), .junk, .junk, .junk, .junk, .junk, .junk, .junk, .junk, .junk, .junk, .junk, .junk, .junk, .junk], cutH h8.length h8⟩) :=
  bodyV_run rfl (go_seq (go_reg0
  (go_op0 rfl rfl (st_id (v := (V.lit (Value.bool false))) (H := h) (by kernel_rfl)
  (go_end0 (by kernel_rfl)
  (go_seq (go_seq (go_reg0
  (go_op0 rfl rfl (st_id (v := t0) (H := h) (by kernel_rfl)
  (go_op0 rfl rfl (st_bp (by kernel_rfl) fun v1 h2 =>
  (go_op0 rfl rfl (st_id (v := t1) (H := h2) (by kernel_rfl)
  (go_op0 rfl rfl (st_bp (by kernel_rfl) fun v3 h4 =>
  (go_op0 rfl rfl (st_bm (by kernel_rfl) fun v5 h6 =>
  (go_end0 (by kernel_rfl)
  (go_cond (by kernel_rfl)
  (go_seq (go_reg0
  (go_op0 rfl rfl (st_id (v := (V.lit (Value.bool false))) (H := h6) (by kernel_rfl)
  (go_end0 (by kernel_rfl)
  (go_ret (rt_seq_ret (by kernel_rfl))))))))
  (go_skip (go_seq (go_seq (go_reg0
  (go_op0 rfl rfl (st_id (v := t0) (H := h6) (by kernel_rfl)
  (go_op0 rfl rfl (st_bp (by kernel_rfl) fun v7 h8 =>
  (go_op0 rfl rfl (st_id (v := (V.lit (Value.int .i64 0))) (H := h8) (by kernel_rfl)
  (go_end0 (by kernel_rfl)
  (go_block (by kernel_rfl)))))))))))))))))))))))))))))))))
theorem xe83 (k wl : Nat) (t0 t1 t2 : V) (h : Hp) : evF Try.prog xM (k + 1) wl 83 [t0, t1, t2] h = bodyV (xX (xS k) 83 wl k false) Try.f83 [t0, t1, t2] h := by kernel_rfl
theorem xz83 (P : Program) (t0 t1 t2 t3 t4 t5 t6 t7 t8 t9 t10 t11 t12 t13 t14 t15 t16 t17 t18 t19 t20 t21 t22 t23 t24 t25 t26 t27 t28 t29 t30 t31 : V) (h : Hp) : bodyK P Try.f83 .ret ⟨[t0, t1, t2, t3, t4, t5, t6, t7, t8, t9, t10, t11, t12, t13, t14, t15, t16, t17, t18, t19, t20, t21, t22, t23, t24, t25, t26, t27, t28, t29, t30, t31], h⟩ = some (t6, h) := by kernel_rfl
theorem xr83_0 (s : Sys) (K : Out → St → Option (V × Hp)) (k wl : Nat) (rd : Bool) (n n0 : Nat) (t0 t1 t2 t3 t4 t5 t6 t7 t8 t9 t10 t11 t12 t13 t14 t15 t16 t17 t18 t19 t20 t21 t22 t23 t24 t25 t26 t27 t28 t29 t30 t31 : V) (h : Hp) : itX (xX s 83 wl k rd) xl83_0 n0 K (n + 1) ⟨[t0, t1, t2, t3, t4, t5, t6, t7, t8, t9, t10, t11, t12, t13, t14, t15, t16, t17, t18, t19, t20, t21, t22, t23, t24, t25, t26, t27, t28, t29, t30, t31], h⟩ =
  bm (vBin s.P .lss 3 t17 t16) h fun v9 h10 =>
  cnd v9 (
  bm (vIndexAddr s.P 22 t15 t17 h10) h10 fun v11 h12 =>
  bm (vLoad s.P 40 v11 h12) h12 fun v13 h14 =>
  bp (opAlloc s.P 40 h14) fun v15 h16 =>
  bs (vStore s.P wl 40 v15 v13 h16) fun h17 =>
  bm (vIndexAddr s.P 22 t1 t17 h17) h17 fun v18 h19 =>
  bm (vLoad s.P 40 v18 h19) h19 fun v20 h21 =>
  bp (opAlloc s.P 40 h21) fun v22 h23 =>
  bs (vStore s.P wl 40 v22 v20 h23) fun h24 =>
  bm (vLoad s.P 40 v15 h24) h24 fun v25 h26 =>
  bm (vLoad s.P 40 v22 h26) h26 fun v27 h28 =>
  bp (callV (xX s 83 wl k rd) false true t2 [v25, v27] h28) fun v29 h30 =>
  bm (vUn .not v29) h30 fun v31 h32 =>
  cnd v31 (
  K .ret ⟨[t0, t1, t2, t3, t4, t5, (V.lit (Value.bool false)), t17, v15, v22, t10, t11, t12, t13, t14, t15, t16, t17, v9, t17, v11, v13, t1, t17, v18, v20, t2, v25, v27, v29, v31, t31], h32⟩) (
  bm (vBin s.P .add 3 t17 (V.lit (Value.int .i64 1))) h32 fun v33 h34 =>
  itX (xX s 83 wl k rd) xl83_0 n0 K n ⟨[(V.kill n0 t0), (V.kill n0 t1), (V.kill n0 t2), (V.kill n0 t3), (V.kill n0 t4), (V.kill n0 t5), (V.kill n0 t6), (V.kill n0 t17), (V.kill n0 v15), (V.kill n0 v22), (V.kill n0 t10), (V.kill n0 t11), (V.kill n0 t12), (V.kill n0 t13), (V.kill n0 t14), (V.kill n0 t15), (V.kill n0 t16), (V.kill n0 v33), .junk, .junk, .junk, .junk, .junk, .junk, .junk, .junk, .junk, .junk, .junk, .junk, .junk, .junk], cutH n0 h34⟩)) (
  K (.exit 0) ⟨[(V.kill n0 t0), (V.kill n0 t1), (V.kill n0 t2), (V.kill n0 t3), (V.kill n0 t4), (V.kill n0 t5), (V.kill n0 t6), (V.kill n0 t7), (V.kill n0 t8), (V.kill n0 t9), (V.kill n0 t10), (V.kill n0 t11), (V.kill n0 t12), (V.kill n0 t13), (V.kill n0 t14), (V.kill n0 t15), (V.kill n0 t16), .junk, .junk, .junk, .junk, .junk, .junk, .junk, .junk, .junk, .junk, .junk, .junk, .junk, .junk, .junk], cutH n0 h10⟩) :=
  itX_step (go_seq (go_reg0
  (go_op0 rfl rfl (st_bm (by kernel_rfl) fun v9 h10 =>
  (go_end0 (by kernel_rfl)
  (go_seq (go_cond (by kernel_rfl)
  (go_skip (go_seq (go_block (go_seq (go_reg0
  (go_op0 rfl rfl (st_id (v := t17) (H := h10) (by kernel_rfl)
  (go_op0 rfl rfl (st_bm (by kernel_rfl) fun v11 h12 =>
  (go_op0 rfl rfl (st_bm (by kernel_rfl) fun v13 h14 =>
  (go_op0 rfl rfl (st_bp (by kernel_rfl) fun v15 h16 =>
  (go_op0 rfl rfl (st_id (v := t17) (H := h16) (by kernel_rfl)
  (go_op0 rfl rfl (st_bs (by kernel_rfl) fun h17 =>
  (go_end0 (by kernel_rfl)
  (go_seq (go_reg0
  (go_op0 rfl rfl (st_id (v := t1) (H := h17) (by kernel_rfl)
  (go_op0 rfl rfl (st_id (v := t17) (H := h17) (by kernel_rfl)
  (go_op0 rfl rfl (st_bm (by kernel_rfl) fun v18 h19 =>
  (go_op0 rfl rfl (st_bm (by kernel_rfl) fun v20 h21 =>
  (go_op0 rfl rfl (st_bp (by kernel_rfl) fun v22 h23 =>
  (go_op0 rfl rfl (st_bs (by kernel_rfl) fun h24 =>
  (go_end0 (by kernel_rfl)
  (go_seq (go_reg0
  (go_op0 rfl rfl (st_id (v := t2) (H := h24) (by kernel_rfl)
  (go_op0 rfl rfl (st_bm (by kernel_rfl) fun v25 h26 =>
  (go_op0 rfl rfl (st_bm (by kernel_rfl) fun v27 h28 =>
  (go_op0 rfl rfl (st_bp (by kernel_rfl) fun v29 h30 =>
  (go_op0 rfl rfl (st_bm (by kernel_rfl) fun v31 h32 =>
  (go_end0 (by kernel_rfl)
  (go_cond (by kernel_rfl)
  (go_seq (go_reg0
  (go_op0 rfl rfl (st_id (v := (V.lit (Value.bool false))) (H := h32) (by kernel_rfl)
  (go_end0 (by kernel_rfl)
  (go_ret (rt_block_ret (rt_seq_ret (by kernel_rfl)))))))))
  (go_skip (rt_block_norm (go_reg0
  (go_op0 rfl rfl (st_bm (by kernel_rfl) fun v33 h34 =>
  (go_op0 rfl rfl (st_id (v := v33) (H := h34) (by kernel_rfl)
  (go_end0 (by kernel_rfl)
  (by kernel_rfl))))))))))))))))))))))))))))))))))))))))))))))))))))))))
  (go_exit (rt_seq_exit (by kernel_rfl))))))))))
theorem xj83_0 (s : Sys) (k wl : Nat) (t0 t1 t2 t3 t4 t5 t6 t7 t8 t9 t10 t11 t12 t13 t14 t15 t16 t17 t18 t19 t20 t21 t22 t23 t24 t25 t26 t27 t28 t29 t30 t31 : V) (h : Hp) : runK (xX s 83 wl k false) (bodyK s.P Try.f83) xk83_0 (.exit 0) ⟨[t0, t1, t2, t3, t4, t5, t6, t7, t8, t9, t10, t11, t12, t13, t14, t15, t16, t17, t18, t19, t20, t21, t22, t23, t24, t25, t26, t27, t28, t29, t30, t31], h⟩ =
  some ((V.lit (Value.bool true)), h) :=
  (rt_block_eq (go_seq (go_reg0
  (go_op0 rfl rfl (st_id (v := (V.lit (Value.bool true))) (H := h) (by kernel_rfl)
  (go_end0 (by kernel_rfl)
  (go_ret (by kernel_rfl))))))))
theorem xk83_0_ret (cx : Cx) (K : Out → St → Option (V × Hp)) (s : St) : runK cx K xk83_0 .ret s = K .ret s := by kernel_rfl
-- names: xb83, xz83, xr83_0, xj83_0, xk83_0_ret
/-! 84 poacher/forest.Same$1: 0 x, 1 y, 2 x, 3 y -/
noncomputable def xg84_0 : Code := codeAt (bodyOf Try.f84) [1, 0]
noncomputable def xk84_0 : List Fr := [.seq (codeAt (bodyOf Try.f84) [1, 1])]
theorem xb84 (s : Sys) (k wl : Nat) (t0 t1 : V) (h : Hp) : bodyV (xX s 84 wl k false) Try.f84 [t0, t1] h =
  bp (opBox t0 h) fun v1 h2 =>
  bp (opBox t1 h2) fun v3 h4 =>
  bm (vFieldAddr s.P 40 v1 0) h4 fun v5 h6 =>
  bm (vLoad s.P 3 v5 h6) h6 fun v7 h8 =>
  bm (vFieldAddr s.P 40 v3 0) h8 fun v9 h10 =>
  bm (vLoad s.P 3 v9 h10) h10 fun v11 h12 =>
  bm (vBin s.P .eql 3 v7 v11) h12 fun v13 h14 =>
  gd v13 (
  bm (vFieldAddr s.P 40 v1 1) h14 fun v15 h16 =>
  bm (vLoad s.P 23 v15 h16) h16 fun v17 h18 =>
  bm (vFieldAddr s.P 40 v3 1) h18 fun v19 h20 =>
  bm (vLoad s.P 23 v19 h20) h20 fun v21 h22 =>
  bp (callV (xX s 84 wl k false) false true (.fn (.func 85) [] []) [v17, v21] h22) fun v23 h24 =>
  opsP (xX s 84 wl k false) xg84_0 11 h4.length ([], []) (runK (xX s 84 wl k false) (bodyK s.P Try.f84) xk84_0) ⟨[t0, t1, v1, v3, (V.lit (Value.bool false)), v5, v7, v9, v11, v13, (V.lit (Value.bool true)), v15, v17, v19, v21, v23, uu], h24⟩) (
  opsP (xX s 84 wl k false) xg84_0 11 h4.length ([], []) (runK (xX s 84 wl k false) (bodyK s.P Try.f84) xk84_0) ⟨[t0, t1, v1, v3, (V.lit (Value.bool false)), v5, v7, v9, v11, v13, (V.lit (Value.bool false)), uu, uu, uu, uu, uu, uu], h14⟩) (
  opsP (xX s 84 wl k false) xg84_0 7 h4.length ([], []) (runK (xX s 84 wl k false) (bodyK s.P Try.f84) xk84_0) ⟨[t0, t1, v1, v3, (V.lit (Value.bool false)), v5, v7, v9, v11, v13, v13, uu, uu, uu, uu, uu, uu], h14⟩) :=
  bodyV_run rfl (go_seq (go_reg0
  (go_op0 rfl rfl (st_bp (by kernel_rfl) fun v1 h2 =>
  (go_op0 rfl rfl (st_bp (by kernel_rfl) fun v3 h4 =>
  (go_op0 rfl rfl (st_id (v := (V.lit (Value.bool false))) (H := h4) (by kernel_rfl)
  (go_end0 (by kernel_rfl)
  (go_seq (go_reg0
  (go_op0 rfl rfl (st_bm (by kernel_rfl) fun v5 h6 =>
  (go_op0 rfl rfl (st_bm (by kernel_rfl) fun v7 h8 =>
  (go_op0 rfl rfl (st_bm (by kernel_rfl) fun v9 h10 =>
  (go_op0 rfl rfl (st_bm (by kernel_rfl) fun v11 h12 =>
  (go_op0 rfl rfl (st_bm (by kernel_rfl) fun v13 h14 =>
  (go_op0 rfl rfl (st_id (v := v13) (H := h14) (by kernel_rfl)
  (go_gdT0 rfl rfl rfl (by kernel_rfl)
  (st_bm (by kernel_rfl) fun v15 h16 =>
  (go_run0 rfl rfl rfl (by kernel_rfl) (st_bm (by kernel_rfl) fun v17 h18 =>
  (go_run0 rfl rfl rfl (by kernel_rfl) (st_bm (by kernel_rfl) fun v19 h20 =>
  (go_run0 rfl rfl rfl (by kernel_rfl) (st_bm (by kernel_rfl) fun v21 h22 =>
  (go_run0 rfl rfl rfl (by kernel_rfl) (st_bp (by kernel_rfl) fun v23 h24 =>
  (by kernel_rfl))))))))))
  (go_skip0 rfl rfl rfl (by kernel_rfl)
  (go_skip0 rfl rfl rfl (by kernel_rfl)
  (go_skip0 rfl rfl rfl (by kernel_rfl)
  (go_skip0 rfl rfl rfl (by kernel_rfl)
  (by kernel_rfl)))))
  (by kernel_rfl)))))))))))))))))))))))))
theorem xe84 (k wl : Nat) (t0 t1 : V) (h : Hp) : evF Try.prog xM (k + 1) wl 84 [t0, t1] h = bodyV (xX (xS k) 84 wl k false) Try.f84 [t0, t1] h := by kernel_rfl
theorem xm84_0 (s : Sys) (k wl : Nat) (m0 : Nat) (ac : List Nat × List Nat) (t0 t1 t2 t3 t4 t5 t6 t7 t8 t9 t10 t11 t12 t13 t14 t15 t16 : V) (h : Hp) : opsP (xX s 84 wl k false) xg84_0 11 m0 ac (runK (xX s 84 wl k false) (bodyK s.P Try.f84) xk84_0) ⟨[t0, t1, t2, t3, t4, t5, t6, t7, t8, t9, t10, t11, t12, t13, t14, t15, t16], h⟩ =
  bm (vPick t10 t15 (V.lit (Value.bool false))) h fun v25 h26 =>
  some (v25, h26) :=
  (go_op0 rfl rfl (st_bm (by kernel_rfl) fun v25 h26 =>
  (go_op0 rfl rfl (st_id (v := v25) (H := h26) (by kernel_rfl)
  (go_end0 (by kernel_rfl)
  (go_ret (by kernel_rfl)))))))
theorem xk84_0_ret (cx : Cx) (K : Out → St → Option (V × Hp)) (s : St) : runK cx K xk84_0 .ret s = K .ret s := by kernel_rfl
-- names: xb84, xm84_0, xk84_0_ret
/-! 85 slices.Equal[[]int,int]: 0 s1, 1 s2, 2 s1, 3 s2, 5 i -/
noncomputable def xl85_0 : Code := codeAt (bodyOf Try.f85) [1, 1, 0, 1, 0, 0]
noncomputable def xk85_0 : List Fr := [.block 0, .seq (codeAt (bodyOf Try.f85) [1, 1, 1])]
noncomputable def xg85_0 : Code := codeAt (bodyOf Try.f85) [1, 1, 0, 1, 0, 0, 1, 1, 0, 0, 1, 0]
theorem xo85_6 : orderIx (opsOf xg85_0) = [0, 1, 2, 3, 4, 5, 6, 7, 8] := by kernel_rfl
theorem xo85_6a : (rgOf (opsOf xg85_0)).any = false := by kernel_rfl
theorem xo85_6r : regOk (opsOf xg85_0) = true := by kernel_rfl
theorem xb85 (s : Sys) (k wl : Nat) (t0 t1 : V) (h : Hp) : bodyV (xX s 85 wl k false) Try.f85 [t0, t1] h =
  bp (opLen s.P 23 t0 h) fun v1 h2 =>
  bp (opLen s.P 23 t1 h2) fun v3 h4 =>
  bm (vBin s.P .neq 3 v1 v3) h4 fun v5 h6 =>
  cnd v5 (
  some ((V.lit (Value.bool false)), h6)) (
  bp (opLen s.P 23 t0 h6) fun v7 h8 =>
  itX (xX s 85 wl k false) xl85_0 h8.length (runK (xX s 85 wl k false) (bodyK s.P Try.f85) xk85_0) k ⟨[(V.kill h8.length t0), (V.kill h8.length t1), (V.kill h8.length uu), (V.kill h8.length uu), (V.lit (Value.bool false)), (V.kill h8.length uu), (V.kill h8.length t0), (V.kill h8.length v1), (V.kill h8.length t1), (V.kill h8.length v3), (V.kill h8.length v5), (V.kill h8.length t0), (V.kill h8.length v7), (V.lit (Value.int .i64 0)), .junk, .junk, .junk, .junk, .junk, .junk, .junk, .junk, .junk, .junk, .junk, .junk], cutH h8.length h8⟩) :=
  bodyV_run rfl (go_seq (go_reg0
  (go_op0 rfl rfl (st_id (v := (V.lit (Value.bool false))) (H := h) (by kernel_rfl)
  (go_end0 (by kernel_rfl)
  (go_seq (go_seq (go_reg0
  (go_op0 rfl rfl (st_id (v := t0) (H := h) (by kernel_rfl)
  (go_op0 rfl rfl (st_bp (by kernel_rfl) fun v1 h2 =>
  (go_op0 rfl rfl (st_id (v := t1) (H := h2) (by kernel_rfl)
  (go_op0 rfl rfl (st_bp (by kernel_rfl) fun v3 h4 =>
  (go_op0 rfl rfl (st_bm (by kernel_rfl) fun v5 h6 =>
  (go_end0 (by kernel_rfl)
  (go_cond (by kernel_rfl)
  (go_seq (go_reg0
  (go_op0 rfl rfl (st_id (v := (V.lit (Value.bool false))) (H := h6) (by kernel_rfl)
  (go_end0 (by kernel_rfl)
  (go_ret (rt_seq_ret (by kernel_rfl))))))))
  (go_skip (go_seq (go_seq (go_reg0
  (go_op0 rfl rfl (st_id (v := t0) (H := h6) (by kernel_rfl)
  (go_op0 rfl rfl (st_bp (by kernel_rfl) fun v7 h8 =>
  (go_op0 rfl rfl (st_id (v := (V.lit (Value.int .i64 0))) (H := h8) (by kernel_rfl)
  (go_end0 (by kernel_rfl)
  (go_block (by kernel_rfl)))))))))))))))))))))))))))))))))
theorem xe85 (k wl : Nat) (t0 t1 : V) (h : Hp) : evF Try.prog xM (k + 1) wl 85 [t0, t1] h = bodyV (xX (xS k) 85 wl k false) Try.f85 [t0, t1] h := by kernel_rfl
theorem xz85 (P : Program) (t0 t1 t2 t3 t4 t5 t6 t7 t8 t9 t10 t11 t12 t13 t14 t15 t16 t17 t18 t19 t20 t21 t22 t23 t24 t25 : V) (h : Hp) : bodyK P Try.f85 .ret ⟨[t0, t1, t2, t3, t4, t5, t6, t7, t8, t9, t10, t11, t12, t13, t14, t15, t16, t17, t18, t19, t20, t21, t22, t23, t24, t25], h⟩ = some (t4, h) := by kernel_rfl
theorem xr85_0 (s : Sys) (K : Out → St → Option (V × Hp)) (k wl : Nat) (rd : Bool) (n n0 : Nat) (t0 t1 t2 t3 t4 t5 t6 t7 t8 t9 t10 t11 t12 t13 t14 t15 t16 t17 t18 t19 t20 t21 t22 t23 t24 t25 : V) (h : Hp) : itX (xX s 85 wl k rd) xl85_0 n0 K (n + 1) ⟨[t0, t1, t2, t3, t4, t5, t6, t7, t8, t9, t10, t11, t12, t13, t14, t15, t16, t17, t18, t19, t20, t21, t22, t23, t24, t25], h⟩ =
  bm (vBin s.P .lss 3 t13 t12) h fun v9 h10 =>
  cnd v9 (
  bm (vIndexAddr s.P 23 t0 t13 h10) h10 fun v11 h12 =>
  bm (vLoad s.P 3 v11 h12) h12 fun v13 h14 =>
  bm (vIndexAddr s.P 23 t1 t13 h14) h14 fun v15 h16 =>
  bm (vLoad s.P 3 v15 h16) h16 fun v17 h18 =>
  bm (vBin s.P .neq 3 v13 v17) h18 fun v19 h20 =>
  cnd v19 (
  K .ret ⟨[t0, t1, t2, t3, (V.lit (Value.bool false)), t13, t6, t7, t8, t9, t10, t11, t12, t13, v9, t13, t0, t13, v11, v13, t1, t13, v15, v17, v19, t25], h20⟩) (
  bm (vBin s.P .add 3 t13 (V.lit (Value.int .i64 1))) h20 fun v21 h22 =>
  itX (xX s 85 wl k rd) xl85_0 n0 K n ⟨[(V.kill n0 t0), (V.kill n0 t1), (V.kill n0 t2), (V.kill n0 t3), (V.kill n0 t4), (V.kill n0 t13), (V.kill n0 t6), (V.kill n0 t7), (V.kill n0 t8), (V.kill n0 t9), (V.kill n0 t10), (V.kill n0 t11), (V.kill n0 t12), (V.kill n0 v21), .junk, .junk, .junk, .junk, .junk, .junk, .junk, .junk, .junk, .junk, .junk, .junk], cutH n0 h22⟩)) (
  K (.exit 0) ⟨[(V.kill n0 t0), (V.kill n0 t1), (V.kill n0 t2), (V.kill n0 t3), (V.kill n0 t4), (V.kill n0 t5), (V.kill n0 t6), (V.kill n0 t7), (V.kill n0 t8), (V.kill n0 t9), (V.kill n0 t10), (V.kill n0 t11), (V.kill n0 t12), .junk, .junk, .junk, .junk, .junk, .junk, .junk, .junk, .junk, .junk, .junk, .junk, .junk], cutH n0 h10⟩) :=
  itX_step (go_seq (go_reg0
  (go_op0 rfl rfl (st_bm (by kernel_rfl) fun v9 h10 =>
  (go_end0 (by kernel_rfl)
  (go_seq (go_cond (by kernel_rfl)
  (go_skip (go_seq (go_block (go_seq (go_reg0
  (go_op0 rfl rfl (st_id (v := t13) (H := h10) (by kernel_rfl)
  (go_op0 rfl rfl (st_id (v := t13) (H := h10) (by kernel_rfl)
  (go_end0 (by kernel_rfl)
  (go_seq (go_reg1 xo85_6r
  (go_op1 xo85_6 xo85_6a rfl rfl rfl (st_no (by kernel_rfl) (st_id (v := t0) (H := h10) (by kernel_rfl)
  (go_op1 xo85_6 xo85_6a rfl rfl rfl (st_no (by kernel_rfl) (st_id (v := t13) (H := h10) (by kernel_rfl)
  (go_op1 xo85_6 xo85_6a rfl rfl rfl (st_no (by kernel_rfl) (st_bm (by kernel_rfl) fun v11 h12 =>
  (go_op1 xo85_6 xo85_6a rfl rfl rfl (st_no (by kernel_rfl) (st_bm (by kernel_rfl) fun v13 h14 =>
  (go_op1 xo85_6 xo85_6a rfl rfl rfl (st_no (by kernel_rfl) (st_id (v := t1) (H := h14) (by kernel_rfl)
  (go_op1 xo85_6 xo85_6a rfl rfl rfl (st_no (by kernel_rfl) (st_id (v := t13) (H := h14) (by kernel_rfl)
  (go_op1 xo85_6 xo85_6a rfl rfl rfl (st_no (by kernel_rfl) (st_bm (by kernel_rfl) fun v15 h16 =>
  (go_op1 xo85_6 xo85_6a rfl rfl rfl (st_no (by kernel_rfl) (st_bm (by kernel_rfl) fun v17 h18 =>
  (go_op1 xo85_6 xo85_6a rfl rfl rfl (st_no (by kernel_rfl) (st_bm (by kernel_rfl) fun v19 h20 =>
  (go_end1 xo85_6 (by kernel_rfl) xo85_6a
  (go_cond (by kernel_rfl)
  (go_seq (go_reg0
  (go_op0 rfl rfl (st_id (v := (V.lit (Value.bool false))) (H := h20) (by kernel_rfl)
  (go_end0 (by kernel_rfl)
  (go_ret (rt_block_ret (rt_seq_ret (by kernel_rfl)))))))))
  (go_skip (rt_block_norm (go_reg0
  (go_op0 rfl rfl (st_bm (by kernel_rfl) fun v21 h22 =>
  (go_op0 rfl rfl (st_id (v := v21) (H := h22) (by kernel_rfl)
  (go_end0 (by kernel_rfl)
  (by kernel_rfl))))))))))))))))))))))))))))))))))))))))))))))))))
  (go_exit (rt_seq_exit (by kernel_rfl))))))))))
theorem xj85_0 (s : Sys) (k wl : Nat) (t0 t1 t2 t3 t4 t5 t6 t7 t8 t9 t10 t11 t12 t13 t14 t15 t16 t17 t18 t19 t20 t21 t22 t23 t24 t25 : V) (h : Hp) : runK (xX s 85 wl k false) (bodyK s.P Try.f85) xk85_0 (.exit 0) ⟨[t0, t1, t2, t3, t4, t5, t6, t7, t8, t9, t10, t11, t12, t13, t14, t15, t16, t17, t18, t19, t20, t21, t22, t23, t24, t25], h⟩ =
  some ((V.lit (Value.bool true)), h) :=
  (rt_block_eq (go_seq (go_reg0
  (go_op0 rfl rfl (st_id (v := (V.lit (Value.bool true))) (H := h) (by kernel_rfl)
  (go_end0 (by kernel_rfl)
  (go_ret (by kernel_rfl))))))))
theorem xk85_0_ret (cx : Cx) (K : Out → St → Option (V × Hp)) (s : St) : runK cx K xk85_0 .ret s = K .ret s := by kernel_rfl
-- names: xb85, xz85, xr85_0, xj85_0, xk85_0_ret
/-! 70 poacher/forest.kids: 0 t, 1 t -/

theorem xb70 (s : Sys) (k wl : Nat) (t0 : V) (h : Hp) : bodyV (xX s 70 wl k false) Try.f70 [t0] h =
  bp (opBox t0 h) fun v1 h2 =>
  some ((.fn (.func 93) [] [v1]), h2) :=
  bodyV_run rfl (go_seq (go_reg0
  (go_op0 rfl rfl (st_bp (by kernel_rfl) fun v1 h2 =>
  (go_op0 rfl rfl (st_id (v := (constV Value.nilFunc)) (H := h2) (by kernel_rfl)
  (go_end0 (by kernel_rfl)
  (go_seq (go_reg0
  (go_op0 rfl rfl (st_id (v := (.fn (.func 93) [] [v1])) (H := h2) (by kernel_rfl)
  (go_op0 rfl rfl (st_id (v := (.fn (.func 93) [] [v1])) (H := h2) (by kernel_rfl)
  (go_end0 (by kernel_rfl)
  (go_ret (by kernel_rfl))))))))))))))))
theorem xe70 (k wl : Nat) (t0 : V) (h : Hp) : evF Try.prog xM (k + 1) wl 70 [t0] h = bodyV (xX (xS k) 70 wl k false) Try.f70 [t0] h := by kernel_rfl
-- names: xb70, 
/-! 93 poacher/forest.kids$1: 0 yield, 2 yield, 3 of, 4 x, 5 _, 6 k -/
noncomputable def xl93_0 : Code := codeAt (bodyOf Try.f93) [1, 0, 0]
noncomputable def xk93_0 : List Fr := [.block 0]
noncomputable def xl93_1 : Code := codeAt (bodyOf Try.f93) [1, 0, 0, 1, 1, 0, 0, 1, 1, 0, 0]
noncomputable def xk93_1 : List Fr := [.block 2, .block 1, .seq (codeAt (bodyOf Try.f93) [1, 0, 0, 1, 1, 1])]
theorem xb93 (s : Sys) (k wl : Nat) (t0 t1 : V) (h : Hp) : bodyV (xX s 93 wl k false) Try.f93 [t0, t1] h =
  bm (vLoad s.P 22 t1 h) h fun v1 h2 =>
  bp (opLen s.P 22 v1 h2) fun v3 h4 =>
  itX (xX s 93 wl k false) xl93_0 h4.length (runK (xX s 93 wl k false) (bodyK s.P Try.f93) xk93_0) k ⟨[(V.kill h4.length t0), (V.kill h4.length t1), (V.kill h4.length uu), (V.kill h4.length uu), (V.kill h4.length uu), (V.kill h4.length uu), (V.kill h4.length uu), (V.kill h4.length v1), (V.kill h4.length v3), (V.lit (Value.int .i64 0)), .junk, .junk, .junk, .junk, .junk, .junk, .junk, .junk, .junk, .junk, .junk, .junk, .junk, .junk, .junk, .junk, .junk, .junk], cutH h4.length h4⟩ :=
  bodyV_run rfl (go_seq (go_reg0
  (go_op0 rfl rfl (st_bm (by kernel_rfl) fun v1 h2 =>
  (go_op0 rfl rfl (st_bp (by kernel_rfl) fun v3 h4 =>
  (go_op0 rfl rfl (st_id (v := (V.lit (Value.int .i64 0))) (H := h4) (by kernel_rfl)
  (go_end0 (by kernel_rfl)
  (go_block (by kernel_rfl)))))))))))
theorem xe93 (k wl : Nat) (t0 t1 : V) (h : Hp) : evF Try.prog xM (k + 1) wl 93 [t0, t1] h = bodyV (xX (xS k) 93 wl k false) Try.f93 [t0, t1] h := by kernel_rfl
theorem xz93 (P : Program) (t0 t1 t2 t3 t4 t5 t6 t7 t8 t9 t10 t11 t12 t13 t14 t15 t16 t17 t18 t19 t20 t21 t22 t23 t24 t25 t26 t27 : V) (h : Hp) : bodyK P Try.f93 .ret ⟨[t0, t1, t2, t3, t4, t5, t6, t7, t8, t9, t10, t11, t12, t13, t14, t15, t16, t17, t18, t19, t20, t21, t22, t23, t24, t25, t26, t27], h⟩ = some (.tup [], h) := by kernel_rfl
theorem xr93_0 (s : Sys) (K : Out → St → Option (V × Hp)) (k wl : Nat) (rd : Bool) (n n0 : Nat) (t0 t1 t2 t3 t4 t5 t6 t7 t8 t9 t10 t11 t12 t13 t14 t15 t16 t17 t18 t19 t20 t21 t22 t23 t24 t25 t26 t27 : V) (h : Hp) : itX (xX s 93 wl k rd) xl93_0 n0 K (n + 1) ⟨[t0, t1, t2, t3, t4, t5, t6, t7, t8, t9, t10, t11, t12, t13, t14, t15, t16, t17, t18, t19, t20, t21, t22, t23, t24, t25, t26, t27], h⟩ =
  bm (vBin s.P .lss 3 t9 t8) h fun v5 h6 =>
  cnd v5 (
  bm (vIndexAddr s.P 22 t7 t9 h6) h6 fun v7 h8 =>
  bm (vLoad s.P 40 v7 h8) h8 fun v9 h10 =>
  bp (opAlloc s.P 40 h10) fun v11 h12 =>
  bs (vStore s.P wl 40 v11 v9 h12) fun h13 =>
  bm (vFieldAddr s.P 40 v11 1) h13 fun v14 h15 =>
  bm (vLoad s.P 23 v14 h15) h15 fun v16 h17 =>
  bp (opLen s.P 23 v16 h17) fun v18 h19 =>
  itX (xX s 93 wl k rd) xl93_1 h19.length (runK (xX s 93 wl k rd) (nextK (xX s 93 wl k rd) xl93_0 n0 K n) xk93_1) k ⟨[(V.kill h19.length t0), (V.kill h19.length t1), (V.kill h19.length t2), (V.kill h19.length t9), (V.kill h19.length v11), (V.kill h19.length t5), (V.kill h19.length t6), (V.kill h19.length t7), (V.kill h19.length t8), (V.kill h19.length t9), (V.kill h19.length v5), (V.kill h19.length t9), (V.kill h19.length v7), (V.kill h19.length v9), (V.kill h19.length v14), (V.kill h19.length v16), (V.kill h19.length v18), (V.lit (Value.int .i64 0)), .junk, .junk, .junk, .junk, .junk, .junk, .junk, .junk, .junk, (V.kill h19.length t27)], cutH h19.length h19⟩) (
  K (.exit 0) ⟨[(V.kill n0 t0), (V.kill n0 t1), (V.kill n0 t2), (V.kill n0 t3), (V.kill n0 t4), (V.kill n0 t5), (V.kill n0 t6), (V.kill n0 t7), (V.kill n0 t8), .junk, .junk, .junk, .junk, .junk, .junk, .junk, .junk, .junk, .junk, .junk, .junk, .junk, .junk, .junk, .junk, .junk, .junk, .junk], cutH n0 h6⟩) :=
  itX_step (go_seq (go_reg0
  (go_op0 rfl rfl (st_bm (by kernel_rfl) fun v5 h6 =>
  (go_end0 (by kernel_rfl)
  (go_seq (go_cond (by kernel_rfl)
  (go_skip (go_seq (go_block (go_seq (go_reg0
  (go_op0 rfl rfl (st_id (v := t9) (H := h6) (by kernel_rfl)
  (go_op0 rfl rfl (st_bm (by kernel_rfl) fun v7 h8 =>
  (go_op0 rfl rfl (st_bm (by kernel_rfl) fun v9 h10 =>
  (go_op0 rfl rfl (st_bp (by kernel_rfl) fun v11 h12 =>
  (go_op0 rfl rfl (st_id (v := t9) (H := h12) (by kernel_rfl)
  (go_op0 rfl rfl (st_bs (by kernel_rfl) fun h13 =>
  (go_end0 (by kernel_rfl)
  (go_seq (go_reg0
  (go_op0 rfl rfl (st_bm (by kernel_rfl) fun v14 h15 =>
  (go_op0 rfl rfl (st_bm (by kernel_rfl) fun v16 h17 =>
  (go_op0 rfl rfl (st_bp (by kernel_rfl) fun v18 h19 =>
  (go_op0 rfl rfl (st_id (v := (V.lit (Value.int .i64 0))) (H := h19) (by kernel_rfl)
  (go_end0 (by kernel_rfl)
  (go_block (by kernel_rfl)))))))))))))))))))))))))))))))
  (go_exit (rt_seq_exit (by kernel_rfl))))))))))
theorem xj93_0 (s : Sys) (k wl : Nat) (t0 t1 t2 t3 t4 t5 t6 t7 t8 t9 t10 t11 t12 t13 t14 t15 t16 t17 t18 t19 t20 t21 t22 t23 t24 t25 t26 t27 : V) (h : Hp) : runK (xX s 93 wl k false) (bodyK s.P Try.f93) xk93_0 (.exit 0) ⟨[t0, t1, t2, t3, t4, t5, t6, t7, t8, t9, t10, t11, t12, t13, t14, t15, t16, t17, t18, t19, t20, t21, t22, t23, t24, t25, t26, t27], h⟩ =
  some (.tup [], h) :=
  (rt_block_eq (by kernel_rfl))
theorem xr93_1 (s : Sys) (K : Out → St → Option (V × Hp)) (k wl : Nat) (rd : Bool) (n n0 : Nat) (t0 t1 t2 t3 t4 t5 t6 t7 t8 t9 t10 t11 t12 t13 t14 t15 t16 t17 t18 t19 t20 t21 t22 t23 t24 t25 t26 t27 : V) (h : Hp) : itX (xX s 93 wl k rd) xl93_1 n0 K (n + 1) ⟨[t0, t1, t2, t3, t4, t5, t6, t7, t8, t9, t10, t11, t12, t13, t14, t15, t16, t17, t18, t19, t20, t21, t22, t23, t24, t25, t26, t27], h⟩ =
  bm (vBin s.P .lss 3 t17 t16) h fun v20 h21 =>
  cnd v20 (
  bm (vIndexAddr s.P 23 t15 t17 h21) h21 fun v22 h23 =>
  bm (vLoad s.P 3 v22 h23) h23 fun v24 h25 =>
  bp (callV (xX s 93 wl k rd) false true t0 [v24, t3] h25) fun v26 h27 =>
  bm (vUn .not v26) h27 fun v28 h29 =>
  cnd v28 (
  K .ret ⟨[t0, t1, t2, t3, t4, t5, v24, t7, t8, t9, t10, t11, t12, t13, t14, t15, t16, t17, v20, v22, v24, t0, v24, t3, v26, v28, t26, t27], h29⟩) (
  bm (vBin s.P .add 3 t17 (V.lit (Value.int .i64 1))) h29 fun v30 h31 =>
  itX (xX s 93 wl k rd) xl93_1 n0 K n ⟨[(V.kill n0 t0), (V.kill n0 t1), (V.kill n0 t2), (V.kill n0 t3), (V.kill n0 t4), (V.kill n0 t5), (V.kill n0 v24), (V.kill n0 t7), (V.kill n0 t8), (V.kill n0 t9), (V.kill n0 t10), (V.kill n0 t11), (V.kill n0 t12), (V.kill n0 t13), (V.kill n0 t14), (V.kill n0 t15), (V.kill n0 t16), (V.kill n0 v30), .junk, .junk, .junk, .junk, .junk, .junk, .junk, .junk, .junk, (V.kill n0 t27)], cutH n0 h31⟩)) (
  K (.exit 2) ⟨[(V.kill n0 t0), (V.kill n0 t1), (V.kill n0 t2), (V.kill n0 t3), (V.kill n0 t4), (V.kill n0 t5), (V.kill n0 t6), (V.kill n0 t7), (V.kill n0 t8), (V.kill n0 t9), (V.kill n0 t10), (V.kill n0 t11), (V.kill n0 t12), (V.kill n0 t13), (V.kill n0 t14), (V.kill n0 t15), (V.kill n0 t16), .junk, .junk, .junk, .junk, .junk, .junk, .junk, .junk, .junk, .junk, (V.kill n0 t27)], cutH n0 h21⟩) :=
  itX_step (go_seq (go_reg0
  (go_op0 rfl rfl (st_bm (by kernel_rfl) fun v20 h21 =>
  (go_end0 (by kernel_rfl)
  (go_seq (go_cond (by kernel_rfl)
  (go_skip (go_seq (go_block (go_seq (go_reg0
  (go_op0 rfl rfl (st_bm (by kernel_rfl) fun v22 h23 =>
  (go_op0 rfl rfl (st_bm (by kernel_rfl) fun v24 h25 =>
  (go_op0 rfl rfl (st_id (v := v24) (H := h25) (by kernel_rfl)
  (go_end0 (by kernel_rfl)
  (go_seq (go_reg0
  (go_op0 rfl rfl (st_id (v := t0) (H := h25) (by kernel_rfl)
  (go_op0 rfl rfl (st_id (v := v24) (H := h25) (by kernel_rfl)
  (go_op0 rfl rfl (st_id (v := t3) (H := h25) (by kernel_rfl)
  (go_op0 rfl rfl (st_bp (by kernel_rfl) fun v26 h27 =>
  (go_op0 rfl rfl (st_bm (by kernel_rfl) fun v28 h29 =>
  (go_end0 (by kernel_rfl)
  (go_cond (by kernel_rfl)
  (go_ret (rt_block_ret (rt_seq_ret (by kernel_rfl))))
  (go_skip (rt_block_norm (go_reg0
  (go_op0 rfl rfl (st_bm (by kernel_rfl) fun v30 h31 =>
  (go_op0 rfl rfl (st_id (v := v30) (H := h31) (by kernel_rfl)
  (go_end0 (by kernel_rfl)
  (by kernel_rfl)))))))))))))))))))))))))))))))))))
  (go_exit (rt_seq_exit (by kernel_rfl))))))))))
theorem xj93_1 (s : Sys) (K : Out → St → Option (V × Hp)) (k wl : Nat) (rd : Bool) (n n0 : Nat) (t0 t1 t2 t3 t4 t5 t6 t7 t8 t9 t10 t11 t12 t13 t14 t15 t16 t17 t18 t19 t20 t21 t22 t23 t24 t25 t26 t27 : V) (h : Hp) : runK (xX s 93 wl k rd) (nextK (xX s 93 wl k rd) xl93_0 n0 K n) xk93_1 (.exit 2) ⟨[t0, t1, t2, t3, t4, t5, t6, t7, t8, t9, t10, t11, t12, t13, t14, t15, t16, t17, t18, t19, t20, t21, t22, t23, t24, t25, t26, t27], h⟩ =
  bm (vBin s.P .add 3 t9 (V.lit (Value.int .i64 1))) h fun v32 h33 =>
  itX (xX s 93 wl k rd) xl93_0 n0 K n ⟨[(V.kill n0 t0), (V.kill n0 t1), (V.kill n0 t2), (V.kill n0 t3), (V.kill n0 t4), (V.kill n0 t5), (V.kill n0 t6), (V.kill n0 t7), (V.kill n0 t8), (V.kill n0 v32), .junk, .junk, .junk, .junk, .junk, .junk, .junk, .junk, .junk, .junk, .junk, .junk, .junk, .junk, .junk, .junk, .junk, .junk], cutH n0 h33⟩ :=
  (rt_block_eq (rt_block_norm (go_reg0
  (go_op0 rfl rfl (st_bm (by kernel_rfl) fun v32 h33 =>
  (go_op0 rfl rfl (st_id (v := v32) (H := h33) (by kernel_rfl)
  (go_end0 (by kernel_rfl)
  (by kernel_rfl)))))))))
theorem xk93_0_ret (cx : Cx) (K : Out → St → Option (V × Hp)) (s : St) : runK cx K xk93_0 .ret s = K .ret s := by kernel_rfl
theorem xk93_1_ret (cx : Cx) (K : Out → St → Option (V × Hp)) (s : St) : runK cx K xk93_1 .ret s = K .ret s := by kernel_rfl
-- names: xb93, xz93, xr93_0, xj93_0, xr93_1, xj93_1, xk93_0_ret, xk93_1_ret
/-! 98 slices.IndexFunc[[]poacher/api.Task,poacher/api.Task]: 0 s, 1 f, 2 s, 3 f, 5 i -/
noncomputable def xl98_0 : Code := codeAt (bodyOf Try.f98) [1, 0, 1, 0, 0]
noncomputable def xk98_0 : List Fr := [.block 0, .seq (codeAt (bodyOf Try.f98) [1, 1])]
theorem xb98 (s : Sys) (k wl : Nat) (t0 t1 : V) (h : Hp) : bodyV (xX s 98 wl k false) Try.f98 [t0, t1] h =
  bp (opLen s.P 22 t0 h) fun v1 h2 =>
  itX (xX s 98 wl k false) xl98_0 h2.length (runK (xX s 98 wl k false) (bodyK s.P Try.f98) xk98_0) k ⟨[(V.kill h2.length t0), (V.kill h2.length t1), (V.kill h2.length uu), (V.kill h2.length uu), (V.lit (Value.int .i64 0)), (V.kill h2.length uu), (V.kill h2.length t0), (V.kill h2.length v1), (V.lit (Value.int .i64 0)), .junk, .junk, .junk, .junk, .junk, .junk, .junk, .junk, .junk, .junk], cutH h2.length h2⟩ :=
  bodyV_run rfl (go_seq (go_reg0
  (go_op0 rfl rfl (st_id (v := (V.lit (Value.int .i64 0))) (H := h) (by kernel_rfl)
  (go_end0 (by kernel_rfl)
  (go_seq (go_seq (go_reg0
  (go_op0 rfl rfl (st_id (v := t0) (H := h) (by kernel_rfl)
  (go_op0 rfl rfl (st_bp (by kernel_rfl) fun v1 h2 =>
  (go_op0 rfl rfl (st_id (v := (V.lit (Value.int .i64 0))) (H := h2) (by kernel_rfl)
  (go_end0 (by kernel_rfl)
  (go_block (by kernel_rfl)))))))))))))))))
theorem xe98 (k wl : Nat) (t0 t1 : V) (h : Hp) : evF Try.prog xM (k + 1) wl 98 [t0, t1] h = bodyV (xX (xS k) 98 wl k false) Try.f98 [t0, t1] h := by kernel_rfl
theorem xz98 (P : Program) (t0 t1 t2 t3 t4 t5 t6 t7 t8 t9 t10 t11 t12 t13 t14 t15 t16 t17 t18 : V) (h : Hp) : bodyK P Try.f98 .ret ⟨[t0, t1, t2, t3, t4, t5, t6, t7, t8, t9, t10, t11, t12, t13, t14, t15, t16, t17, t18], h⟩ = some (t4, h) := by kernel_rfl
theorem xr98_0 (s : Sys) (K : Out → St → Option (V × Hp)) (k wl : Nat) (rd : Bool) (n n0 : Nat) (t0 t1 t2 t3 t4 t5 t6 t7 t8 t9 t10 t11 t12 t13 t14 t15 t16 t17 t18 : V) (h : Hp) : itX (xX s 98 wl k rd) xl98_0 n0 K (n + 1) ⟨[t0, t1, t2, t3, t4, t5, t6, t7, t8, t9, t10, t11, t12, t13, t14, t15, t16, t17, t18], h⟩ =
  bm (vBin s.P .lss 3 t8 t7) h fun v3 h4 =>
  cnd v3 (
  bm (vIndexAddr s.P 22 t0 t8 h4) h4 fun v5 h6 =>
  bm (vLoad s.P 40 v5 h6) h6 fun v7 h8 =>
  bp (callV (xX s 98 wl k rd) false true t1 [v7] h8) fun v9 h10 =>
  cnd v9 (
  K .ret ⟨[t0, t1, t2, t3, t8, t8, t6, t7, t8, v3, t8, t1, t0, t8, v5, v7, v9, t8, t18], h10⟩) (
  bm (vBin s.P .add 3 t8 (V.lit (Value.int .i64 1))) h10 fun v11 h12 =>
  itX (xX s 98 wl k rd) xl98_0 n0 K n ⟨[(V.kill n0 t0), (V.kill n0 t1), (V.kill n0 t2), (V.kill n0 t3), (V.kill n0 t4), (V.kill n0 t8), (V.kill n0 t6), (V.kill n0 t7), (V.kill n0 v11), .junk, .junk, .junk, .junk, .junk, .junk, .junk, .junk, .junk, .junk], cutH n0 h12⟩)) (
  K (.exit 0) ⟨[(V.kill n0 t0), (V.kill n0 t1), (V.kill n0 t2), (V.kill n0 t3), (V.kill n0 t4), (V.kill n0 t5), (V.kill n0 t6), (V.kill n0 t7), .junk, .junk, .junk, .junk, .junk, .junk, .junk, .junk, .junk, .junk, .junk], cutH n0 h4⟩) :=
  itX_step (go_seq (go_reg0
  (go_op0 rfl rfl (st_bm (by kernel_rfl) fun v3 h4 =>
  (go_end0 (by kernel_rfl)
  (go_seq (go_cond (by kernel_rfl)
  (go_skip (go_seq (go_block (go_seq (go_reg0
  (go_op0 rfl rfl (st_id (v := t8) (H := h4) (by kernel_rfl)
  (go_op0 rfl rfl (st_id (v := t8) (H := h4) (by kernel_rfl)
  (go_end0 (by kernel_rfl)
  (go_seq (go_reg0
  (go_op0 rfl rfl (st_id (v := t1) (H := h4) (by kernel_rfl)
  (go_op0 rfl rfl (st_id (v := t0) (H := h4) (by kernel_rfl)
  (go_op0 rfl rfl (st_id (v := t8) (H := h4) (by kernel_rfl)
  (go_op0 rfl rfl (st_bm (by kernel_rfl) fun v5 h6 =>
  (go_op0 rfl rfl (st_bm (by kernel_rfl) fun v7 h8 =>
  (go_op0 rfl rfl (st_bp (by kernel_rfl) fun v9 h10 =>
  (go_end0 (by kernel_rfl)
  (go_cond (by kernel_rfl)
  (go_seq (go_reg0
  (go_op0 rfl rfl (st_id (v := t8) (H := h10) (by kernel_rfl)
  (go_op0 rfl rfl (st_id (v := t8) (H := h10) (by kernel_rfl)
  (go_end0 (by kernel_rfl)
  (go_ret (rt_block_ret (rt_seq_ret (by kernel_rfl)))))))))))
  (go_skip (rt_block_norm (go_reg0
  (go_op0 rfl rfl (st_bm (by kernel_rfl) fun v11 h12 =>
  (go_op0 rfl rfl (st_id (v := v11) (H := h12) (by kernel_rfl)
  (go_end0 (by kernel_rfl)
  (by kernel_rfl)))))))))))))))))))))))))))))))))))
  (go_exit (rt_seq_exit (by kernel_rfl))))))))))
theorem xj98_0 (s : Sys) (k wl : Nat) (t0 t1 t2 t3 t4 t5 t6 t7 t8 t9 t10 t11 t12 t13 t14 t15 t16 t17 t18 : V) (h : Hp) : runK (xX s 98 wl k false) (bodyK s.P Try.f98) xk98_0 (.exit 0) ⟨[t0, t1, t2, t3, t4, t5, t6, t7, t8, t9, t10, t11, t12, t13, t14, t15, t16, t17, t18], h⟩ =
  some ((V.lit (Value.int .i64 (-1))), h) :=
  (rt_block_eq (go_seq (go_reg0
  (go_op0 rfl rfl (st_id (v := (V.lit (Value.int .i64 (-1)))) (H := h) (by kernel_rfl)
  (go_end0 (by kernel_rfl)
  (go_ret (by kernel_rfl))))))))
theorem xk98_0_ret (cx : Cx) (K : Out → St → Option (V × Hp)) (s : St) : runK cx K xk98_0 .ret s = K .ret s := by kernel_rfl
-- names: xb98, xz98, xr98_0, xj98_0, xk98_0_ret
/-! 99 slices.AppendSeq[[]int,int]: 0 s, 1 seq, 2 s, 3 seq, 5 v -/
noncomputable def xq99_0 : Code := codeAt (bodyOf Try.f99) [1, 0, 1, 0]
noncomputable def xl99_0 : Code := codeAt (bodyOf Try.f99) [1, 0, 1, 0, 0]
noncomputable def xl99_1 : Code := codeAt (bodyOf Try.f99) [1, 0, 1, 0, 1]
noncomputable def xk99_0 : List Fr := [.block 0, .seq (codeAt (bodyOf Try.f99) [1, 1])]
theorem xq99_0_eq : xq99_0 = .rangeFunc (.tmp 6) #[7] xl99_0 xl99_1 := by kernel_rfl
theorem xb99 (s : Sys) (k wl : Nat) (t0 t1 : V) (h : Hp) : bodyV (xX s 99 wl k false) Try.f99 [t0, t1] h =
  bp (opBox t0 h) fun v1 h2 =>
  bp (some (.own h2.length 0 0, h2 ++ [.rows 0 [] 0 true])) fun v3 h4 =>
  execK (xX s 99 wl k false) xq99_0 none (runK (xX s 99 wl k false) (bodyK s.P Try.f99) xk99_0) ⟨[t0, t1, v1, uu, v3, uu, t1, uu, uu, uu, uu, uu, uu], h4⟩ :=
  bodyV_run rfl (go_seq (go_reg0
  (go_op0 rfl rfl (st_bp (by kernel_rfl) fun v1 h2 =>
  (go_op0 rfl rfl (st_bp (by kernel_rfl) fun v3 h4 =>
  (go_end0 (by kernel_rfl)
  (go_seq (go_seq (go_reg0
  (go_op0 rfl rfl (st_id (v := t1) (H := h4) (by kernel_rfl)
  (go_end0 (by kernel_rfl)
  (go_block (by kernel_rfl)))))))))))))))
theorem xe99 (k wl : Nat) (t0 t1 : V) (h : Hp) : evF Try.prog xM (k + 1) wl 99 [t0, t1] h = bodyV (xX (xS k) 99 wl k false) Try.f99 [t0, t1] h := by kernel_rfl
theorem xz99 (P : Program) (t0 t1 t2 t3 t4 t5 t6 t7 t8 t9 t10 t11 t12 : V) (h : Hp) : bodyK P Try.f99 .ret ⟨[t0, t1, t2, t3, t4, t5, t6, t7, t8, t9, t10, t11, t12], h⟩ = some (t4, h) := by kernel_rfl
theorem xj99_0 (s : Sys) (k wl : Nat) (t0 t1 t2 t3 t4 t5 t6 t7 t8 t9 t10 t11 t12 : V) (h : Hp) : runK (xX s 99 wl k false) (bodyK s.P Try.f99) xk99_0 .norm ⟨[t0, t1, t2, t3, t4, t5, t6, t7, t8, t9, t10, t11, t12], h⟩ =
  bm (vLoad s.P 23 t2 h) h fun v5 h6 =>
  some (v5, h6) :=
  (rt_block_norm (go_seq (go_reg0
  (go_op0 rfl rfl (st_bm (by kernel_rfl) fun v5 h6 =>
  (go_op0 rfl rfl (st_id (v := v5) (H := h6) (by kernel_rfl)
  (go_end0 (by kernel_rfl)
  (go_ret (by kernel_rfl))))))))))
theorem xq99_1_0_1_0_1 (s : Sys) (K : Out → St → Option (V × Hp)) (k wl : Nat) (rd : Bool) (t0 t1 t2 t3 t4 t5 t6 t7 t8 t9 t10 t11 t12 : V) (h : Hp) : runK (xX s 99 wl k rd) K [.seq xl99_1] .norm ⟨[t0, t1, t2, t3, t4, t5, t6, t7, t8, t9, t10, t11, t12], h⟩ =
  bm (vLoad s.P 23 t2 h) h fun v7 h8 =>
  bp (vBuildSlice s.P wl 23 1 [(0, t5)] h8) fun v9 h10 =>
  bp (opApp s.P wl 23 23 v7 v9 h10) fun v11 h12 =>
  bs (vStore s.P wl 23 t2 v11 h12) fun h13 =>
  K .norm ⟨[t0, t1, t2, t3, t4, t5, t6, t7, v7, t5, v9, v11, t12], h13⟩ :=
  (go_block (go_reg0
  (go_op0 rfl rfl (st_bm (by kernel_rfl) fun v7 h8 =>
  (go_op0 rfl rfl (st_id (v := t5) (H := h8) (by kernel_rfl)
  (go_op0 rfl rfl (st_bp (by kernel_rfl) fun v9 h10 =>
  (go_op0 rfl rfl (st_bp (by kernel_rfl) fun v11 h12 =>
  (go_op0 rfl rfl (st_bs (by kernel_rfl) fun h13 =>
  (go_end0 (by kernel_rfl)
  (rt_block_norm (by kernel_rfl)))))))))))))))
theorem xq99_1_0_1_0_0 (s : Sys) (K : Out → St → Option (V × Hp)) (k wl : Nat) (rd : Bool) (t0 t1 t2 t3 t4 t5 t6 t7 t8 t9 t10 t11 t12 : V) (h : Hp) : runK (xX s 99 wl k rd) K [.seq xl99_0] .norm ⟨[t0, t1, t2, t3, t4, t5, t6, t7, t8, t9, t10, t11, t12], h⟩ =
  K .norm ⟨[t0, t1, t2, t3, t4, t7, t6, t7, t8, t9, t10, t11, t12], h⟩ :=
  (go_reg0
  (go_op0 rfl rfl (st_id (v := t7) (H := h) (by kernel_rfl)
  (go_end0 (by kernel_rfl)
  (by kernel_rfl)))))
theorem xk99_0_ret (cx : Cx) (K : Out → St → Option (V × Hp)) (s : St) : runK cx K xk99_0 .ret s = K .ret s := by kernel_rfl
-- names: xb99, xz99, xj99_0, xq99_1_0_1_0_1, xq99_1_0_1_0_0, xk99_0_ret
-- range over a function at [1, 0, 1, 0]
/-! 100 poacher/forest.under$1: 0 yield, 3 yield, 4 down -/

theorem xb100 (s : Sys) (k wl : Nat) (t0 t1 t2 : V) (h : Hp) : bodyV (xX s 100 wl k false) Try.f100 [t0, t1, t2] h =
  bp (opBox t0 h) fun v1 h2 =>
  bp (opAlloc s.P 74 h2) fun v3 h4 =>
  bs (vStore s.P wl 74 v3 (.fn (.func 101) [] [v1, t1, v3]) h4) fun h5 =>
  bm (vLoad s.P 74 v3 h5) h5 fun v6 h7 =>
  bm (vLoad s.P 3 t2 h7) h7 fun v8 h9 =>
  bp (callV (xX s 100 wl k false) false true v6 [v8] h9) fun v10 h11 =>
  some (.tup [], h11) :=
  bodyV_run rfl (go_seq (go_reg0
  (go_op0 rfl rfl (st_bp (by kernel_rfl) fun v1 h2 =>
  (go_end0 (by kernel_rfl)
  (go_seq (go_reg0
  (go_op0 rfl rfl (st_bp (by kernel_rfl) fun v3 h4 =>
  (go_end0 (by kernel_rfl)
  (go_seq (go_reg0
  (go_op0 rfl rfl (st_id (v := (.fn (.func 101) [] [v1, t1, v3])) (H := h4) (by kernel_rfl)
  (go_op0 rfl rfl (st_bs (by kernel_rfl) fun h5 =>
  (go_end0 (by kernel_rfl)
  (go_reg0
  (go_op0 rfl rfl (st_bm (by kernel_rfl) fun v6 h7 =>
  (go_op0 rfl rfl (st_bm (by kernel_rfl) fun v8 h9 =>
  (go_op0 rfl rfl (st_bp (by kernel_rfl) fun v10 h11 =>
  (go_end0 (by kernel_rfl)
  (by kernel_rfl))))))))))))))))))))))))))
theorem xe100 (k wl : Nat) (t0 t1 t2 : V) (h : Hp) : evF Try.prog xM (k + 1) wl 100 [t0, t1, t2] h = bodyV (xX (xS k) 100 wl k false) Try.f100 [t0, t1, t2] h := by kernel_rfl
-- names: xb100, 
/-! 101 poacher/forest.under$1$1: 0 r, 4 r -/

theorem xb101 (s : Sys) (k wl : Nat) (t0 t1 t2 t3 : V) (h : Hp) : bodyV (xX s 101 wl k false) Try.f101 [t0, t1, t2, t3] h =
  bm (vLoad s.P 74 t1 h) h fun v1 h2 =>
  bp (callV (xX s 101 wl k false) false true v1 [t0] h2) fun v3 h4 =>
  bm (vUn .not v3) h4 fun v5 h6 =>
  cnd v5 (
  some ((V.lit (Value.bool false)), h6)) (
  bm (vLoad s.P 22 t2 h6) h6 fun v7 h8 =>
  bm (vIndexAddr s.P 22 v7 t0 h8) h8 fun v9 h10 =>
  bm (vFieldAddr s.P 40 v9 1) h10 fun v11 h12 =>
  bm (vLoad s.P 23 v11 h12) h12 fun v13 h14 =>
  bp (callV (xX s 101 wl k false) false true (.fn (.func 68) [] []) [v13, (.fn (.func 102) [] [t3])] h14) fun v15 h16 =>
  bm (vUn .not v15) h16 fun v17 h18 =>
  some (v17, h18)) :=
  bodyV_run rfl (go_seq (go_reg0
  (go_op0 rfl rfl (st_id (v := (V.lit (Value.bool false))) (H := h) (by kernel_rfl)
  (go_end0 (by kernel_rfl)
  (go_seq (go_seq (go_reg0
  (go_op0 rfl rfl (st_bm (by kernel_rfl) fun v1 h2 =>
  (go_op0 rfl rfl (st_id (v := t0) (H := h2) (by kernel_rfl)
  (go_op0 rfl rfl (st_bp (by kernel_rfl) fun v3 h4 =>
  (go_op0 rfl rfl (st_bm (by kernel_rfl) fun v5 h6 =>
  (go_end0 (by kernel_rfl)
  (go_cond (by kernel_rfl)
  (go_seq (go_reg0
  (go_op0 rfl rfl (st_id (v := (V.lit (Value.bool false))) (H := h6) (by kernel_rfl)
  (go_end0 (by kernel_rfl)
  (go_ret (rt_seq_ret (by kernel_rfl))))))))
  (go_skip (go_seq (go_reg0
  (go_op0 rfl rfl (st_bm (by kernel_rfl) fun v7 h8 =>
  (go_op0 rfl rfl (st_id (v := t0) (H := h8) (by kernel_rfl)
  (go_op0 rfl rfl (st_bm (by kernel_rfl) fun v9 h10 =>
  (go_op0 rfl rfl (st_bm (by kernel_rfl) fun v11 h12 =>
  (go_op0 rfl rfl (st_bm (by kernel_rfl) fun v13 h14 =>
  (go_op0 rfl rfl (st_id (v := (.fn (.func 102) [] [t3])) (H := h14) (by kernel_rfl)
  (go_op0 rfl rfl (st_bp (by kernel_rfl) fun v15 h16 =>
  (go_op0 rfl rfl (st_bm (by kernel_rfl) fun v17 h18 =>
  (go_op0 rfl rfl (st_id (v := v17) (H := h18) (by kernel_rfl)
  (go_end0 (by kernel_rfl)
  (go_ret (by kernel_rfl))))))))))))))))))))))))))))))))))))))))))
theorem xe101 (k wl : Nat) (t0 t1 t2 t3 : V) (h : Hp) : evF Try.prog xM (k + 1) wl 101 [t0, t1, t2, t3] h = bodyV (xX (xS k) 101 wl k false) Try.f101 [t0, t1, t2, t3] h := by kernel_rfl
-- names: xb101, 
/-! 102 poacher/forest.under$1$1$1: 0 k, 2 k -/

theorem xb102 (s : Sys) (k wl : Nat) (t0 t1 : V) (h : Hp) : bodyV (xX s 102 wl k false) Try.f102 [t0, t1] h =
  bm (vLoad s.P 74 t1 h) h fun v1 h2 =>
  bp (callV (xX s 102 wl k false) false true v1 [t0] h2) fun v3 h4 =>
  bm (vUn .not v3) h4 fun v5 h6 =>
  some (v5, h6) :=
  bodyV_run rfl (go_seq (go_reg0
  (go_op0 rfl rfl (st_id (v := (V.lit (Value.bool false))) (H := h) (by kernel_rfl)
  (go_end0 (by kernel_rfl)
  (go_seq (go_reg0
  (go_op0 rfl rfl (st_bm (by kernel_rfl) fun v1 h2 =>
  (go_op0 rfl rfl (st_id (v := t0) (H := h2) (by kernel_rfl)
  (go_op0 rfl rfl (st_bp (by kernel_rfl) fun v3 h4 =>
  (go_op0 rfl rfl (st_bm (by kernel_rfl) fun v5 h6 =>
  (go_op0 rfl rfl (st_id (v := v5) (H := h6) (by kernel_rfl)
  (go_end0 (by kernel_rfl)
  (go_ret (by kernel_rfl))))))))))))))))))))
theorem xe102 (k wl : Nat) (t0 t1 : V) (h : Hp) : evF Try.prog xM (k + 1) wl 102 [t0, t1] h = bodyV (xX (xS k) 102 wl k false) Try.f102 [t0, t1] h := by kernel_rfl
-- names: xb102, 
end Go.Ab
