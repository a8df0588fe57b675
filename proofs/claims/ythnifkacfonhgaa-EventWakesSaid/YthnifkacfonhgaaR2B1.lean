/- The program's code,point by point: printed by gen.py. -/
import Derived.Test.YthnifkacfonhgaaR2Seat
set_option linter.unusedVariables false
set_option linter.unusedSimpArgs false
set_option maxRecDepth 100000
set_option linter.unusedVariables false
namespace Go.Ab
open Go.Proofs
noncomputable def xg21_0 : Code := codeAt (bodyOf Try.f21) [1,0]
noncomputable def xk21_0 : List Fr := [.seq (codeAt (bodyOf Try.f21) [1,1,1,1])]
noncomputable def xg21_1 : Code := codeAt (bodyOf Try.f21) [1,1,1,1,0]
theorem xo21_1 : orderIx (opsOf xg21_0) = [0,1,2,3,4,5,6] := by kernel_rfl
theorem xo21_1a : (rgOf (opsOf xg21_0)).any = false := by kernel_rfl
theorem xo21_1r : regOk (opsOf xg21_0) = true := by kernel_rfl
theorem xo21_5 : orderIx (opsOf xg21_1) = [0,1,2,3,4,5,6,7,8,9] := by kernel_rfl
theorem xo21_5a : (rgOf (opsOf xg21_1)).any = false := by kernel_rfl
theorem xo21_5r : regOk (opsOf xg21_1) = true := by kernel_rfl
theorem xb21 (s : Sys) (k wl : Nat) (t0 t1 t2 : V) (h : Hp) : bodyV (xX s 21 wl k false) Try.f21 [t0,t1,t2] h =
  bp (opBox t0 h) fun v1 h2 =>
  bp (opBox t2 h2) fun v3 h4 =>
  bp (some (.own h4.length 0 0,h4 ++ [.rows 0 [] 0 true])) fun v5 h6 =>
  bp (opAlloc s.P 28 h6) fun v7 h8 =>
  stO h8.length v3 (
  bm (vLoad s.P 28 v3 h8) h8 fun v9 h10 =>
  stO h8.length v1 (
  bm (vLoad s.P 23 v1 h10) h10 fun v11 h12 =>
  bp (callV (xX s 21 wl k false) true true (.fn (.func 50) [] []) [t1] h12) fun v13 h14 =>
  bm (vBuild s.P 65 [(0,v9),(1,v11),(2,v13)]) h14 fun v15 h16 =>
  bp (opBox v15 h16) fun v17 h18 =>
  bp (vBuildSlice s.P wl 67 5 [(0,(.fn (.func 51) [] [])),(1,(.fn (.func 52) [] [])),(2,(.fn (.func 53) [] [])),(3,(.fn (.func 54) [] [])),(4,(.fn (.func 55) [] []))] h18) fun v19 h20 =>
  bm (vLoad s.P 23 v1 h20) h20 fun v21 h22 =>
  bm (vLoad s.P 28 v3 h22) h22 fun v23 h24 =>
  bp (opLen s.P 67 v19 h24) fun v25 h26 =>
  bp (callV (xX s 21 wl k false) false true (.fn (.func 28) [] []) [v21,t1,v23,(V.lit (Value.int .i64 5)),v25] h26) fun v27 h28 =>
  cnd v27 (
  bm (vFieldAddr s.P 28 v3 1) h28 fun v29 h30 =>
  bm (vLoad s.P 3 v29 h30) h30 fun v31 h32 =>
  bm (vIndexAddr s.P 67 v19 v31 h32) h32 fun v33 h34 =>
  bm (vLoad s.P 66 v33 h34) h34 fun v35 h36 =>
  bp (callV (xX s 21 wl k false) false true v35 [v17] h36) fun v37 h38 =>
  runK (xX s 21 wl k false) (bodyK s.P Try.f21) xk21_0 .norm ⟨[t0,t1,t2,v1,uu,v3,v5,v7,v17,v19,v9,v11,t1,v13,v15,v17,v19,v21,t1,v23,v19,v25,v27,v19,v29,v31,v33,v35,v17,v37,uu,uu,uu,uu,uu,uu,uu,uu],h38⟩) (
  runK (xX s 21 wl k false) (bodyK s.P Try.f21) xk21_0 .norm ⟨[t0,t1,t2,v1,uu,v3,v5,v7,v17,v19,v9,v11,t1,v13,v15,v17,v19,v21,t1,v23,v19,v25,v27,uu,uu,uu,uu,uu,uu,uu,uu,uu,uu,uu,uu,uu,uu,uu],h28⟩))) :=
  bodyV_run rfl (go_seq (go_reg0
  (go_op0 rfl rfl (st_bp (by kernel_rfl) fun v1 h2 =>
  (go_op0 rfl rfl (st_bp (by kernel_rfl) fun v3 h4 =>
  (go_op0 rfl rfl (st_bp (by kernel_rfl) fun v5 h6 =>
  (go_op0 rfl rfl (st_bp (by kernel_rfl) fun v7 h8 =>
  (go_end0 (by kernel_rfl)
  (go_seq (go_reg1 xo21_1r
  (go_op1 xo21_1 xo21_1a rfl rfl rfl (st_yes (by kernel_rfl) (st_bm (by kernel_rfl) fun v9 h10 =>
  (go_op1 xo21_1 xo21_1a rfl rfl rfl (st_yes (by kernel_rfl) (st_bm (by kernel_rfl) fun v11 h12 =>
  (go_op1 xo21_1 xo21_1a rfl rfl rfl (st_no (by kernel_rfl) (st_id (v := t1) (H := h12) (by kernel_rfl)
  (go_op1 xo21_1 xo21_1a rfl rfl rfl (st_no (by kernel_rfl) (st_bp (by kernel_rfl) fun v13 h14 =>
  (go_op1 xo21_1 xo21_1a rfl rfl rfl (st_no (by kernel_rfl) (st_bm (by kernel_rfl) fun v15 h16 =>
  (go_op1 xo21_1 xo21_1a rfl rfl rfl (st_no (by kernel_rfl) (st_bp (by kernel_rfl) fun v17 h18 =>
  (go_op1 xo21_1 xo21_1a rfl rfl rfl (st_no (by kernel_rfl) (st_id (v := v17) (H := h18) (by kernel_rfl)
  (go_end1 xo21_1 (by kernel_rfl) xo21_1a
  (go_seq (go_reg0
  (go_op0 rfl rfl (st_bp (by kernel_rfl) fun v19 h20 =>
  (go_op0 rfl rfl (st_id (v := v19) (H := h20) (by kernel_rfl)
  (go_end0 (by kernel_rfl)
  (go_seq (go_seq (go_reg0
  (go_op0 rfl rfl (st_bm (by kernel_rfl) fun v21 h22 =>
  (go_op0 rfl rfl (st_id (v := t1) (H := h22) (by kernel_rfl)
  (go_op0 rfl rfl (st_bm (by kernel_rfl) fun v23 h24 =>
  (go_op0 rfl rfl (st_id (v := v19) (H := h24) (by kernel_rfl)
  (go_op0 rfl rfl (st_bp (by kernel_rfl) fun v25 h26 =>
  (go_op0 rfl rfl (st_bp (by kernel_rfl) fun v27 h28 =>
  (go_end0 (by kernel_rfl)
  (go_cond (by kernel_rfl)
  (go_reg0
  (go_op0 rfl rfl (st_id (v := v19) (H := h28) (by kernel_rfl)
  (go_op0 rfl rfl (st_bm (by kernel_rfl) fun v29 h30 =>
  (go_op0 rfl rfl (st_bm (by kernel_rfl) fun v31 h32 =>
  (go_op0 rfl rfl (st_bm (by kernel_rfl) fun v33 h34 =>
  (go_op0 rfl rfl (st_bm (by kernel_rfl) fun v35 h36 =>
  (go_op0 rfl rfl (st_id (v := v17) (H := h36) (by kernel_rfl)
  (go_op0 rfl rfl (st_bp (by kernel_rfl) fun v37 h38 =>
  (go_end0 (by kernel_rfl)
  (by kernel_rfl)))))))))))))))))
  (go_skip (by kernel_rfl)))))))))))))))))))))))))))))))))))))))))))))))))))))))))))))
theorem xe21 (k wl : Nat) (t0 t1 t2 : V) (h : Hp) : evF Try.prog xM (k + 1) wl 21 [t0,t1,t2] h = bodyV (xX (xS k) 21 wl k false) Try.f21 [t0,t1,t2] h := by kernel_rfl
theorem xj21_0 (s : Sys) (k wl : Nat) (t0 t1 t2 t3 t4 t5 t6 t7 t8 t9 t10 t11 t12 t13 t14 t15 t16 t17 t18 t19 t20 t21 t22 t23 t24 t25 t26 t27 t28 t29 t30 t31 t32 t33 t34 t35 t36 t37 : V) (h : Hp) : runK (xX s 21 wl k false) (bodyK s.P Try.f21) xk21_0 .norm ⟨[t0,t1,t2,t3,t4,t5,t6,t7,t8,t9,t10,t11,t12,t13,t14,t15,t16,t17,t18,t19,t20,t21,t22,t23,t24,t25,t26,t27,t28,t29,t30,t31,t32,t33,t34,t35,t36,t37],h⟩ =
  bm (vNil t8 h) h fun v39 h40 =>
  bm (vFieldAddr s.P 65 v39 2) h40 fun v41 h42 =>
  bm (vLoad s.P 25 v41 h42) h42 fun v43 h44 =>
  bm (vNil t8 h44) h44 fun v45 h46 =>
  bm (vFieldAddr s.P 65 v45 0) h46 fun v47 h48 =>
  bm (vLoad s.P 28 v47 h48) h48 fun v49 h50 =>
  bs (vStore s.P wl 28 t7 v49 h50) fun h51 =>
  resO [some v43,vLoad s.P 28 t7 h51] h51 :=
  (go_seq (go_reg1 xo21_5r
  (go_op1 xo21_5 xo21_5a rfl rfl rfl (st_no (by kernel_rfl) (st_id (v := t8) (H := h) (by kernel_rfl)
  (go_op1 xo21_5 xo21_5a rfl rfl rfl (st_no (by kernel_rfl) (st_bm (by kernel_rfl) fun v39 h40 =>
  (go_op1 xo21_5 xo21_5a rfl rfl rfl (st_no (by kernel_rfl) (st_bm (by kernel_rfl) fun v41 h42 =>
  (go_op1 xo21_5 xo21_5a rfl rfl rfl (st_no (by kernel_rfl) (st_bm (by kernel_rfl) fun v43 h44 =>
  (go_op1 xo21_5 xo21_5a rfl rfl rfl (st_no (by kernel_rfl) (st_id (v := t8) (H := h44) (by kernel_rfl)
  (go_op1 xo21_5 xo21_5a rfl rfl rfl (st_no (by kernel_rfl) (st_bm (by kernel_rfl) fun v45 h46 =>
  (go_op1 xo21_5 xo21_5a rfl rfl rfl (st_no (by kernel_rfl) (st_bm (by kernel_rfl) fun v47 h48 =>
  (go_op1 xo21_5 xo21_5a rfl rfl rfl (st_no (by kernel_rfl) (st_bm (by kernel_rfl) fun v49 h50 =>
  (go_op1 xo21_5 xo21_5a rfl rfl rfl (st_no (by kernel_rfl) (st_id (v := v43) (H := h50) (by kernel_rfl)
  (go_op1 xo21_5 xo21_5a rfl rfl rfl (st_no (by kernel_rfl) (st_bs (by kernel_rfl) fun h51 =>
  (go_end1 xo21_5 (by kernel_rfl) xo21_5a
  (go_ret (by kernel_rfl)))))))))))))))))))))))))))))))))))
theorem xk21_0_ret (cx : Cx) (K : Out → St → Option (V × Hp)) (s : St) : runK cx K xk21_0 .ret s = K .ret s := by kernel_rfl
-- names: xb21,xj21_0,xk21_0_ret
noncomputable def xg27_0 : Code := codeAt (bodyOf Try.f27) [1,0,0]
noncomputable def xk27_0 : List Fr := [.seq (codeAt (bodyOf Try.f27) [1,0,1]),.seq (codeAt (bodyOf Try.f27) [1,1])]
theorem xb27 (s : Sys) (k wl : Nat) (t0 t1 t2 : V) (h : Hp) : bodyV (xX s 27 wl k false) Try.f27 [t0,t1,t2] h =
  bp (opBox t0 h) fun v1 h2 =>
  bm (vLoad s.P 23 v1 h2) h2 fun v3 h4 =>
  bp (callV (xX s 27 wl k false) false true (.fn (.func 68) [] []) [v3] h4) fun v5 h6 =>
  bm (vUn .not v5) h6 fun v7 h8 =>
  gd v7 (
  opsP (xX s 27 wl k false) xg27_0 9 h2.length ([],[]) (runK (xX s 27 wl k false) (bodyK s.P Try.f27) xk27_0) ⟨[t0,t1,t2,v1,uu,uu,(V.lit (Value.bool false)),v3,v5,v7,(V.lit (Value.bool true)),uu,uu,uu,uu,uu,uu,uu,uu,uu,uu,uu,uu,uu,uu,uu,uu,uu,uu,uu,uu,uu,uu,uu],h8⟩) (
  bp (opLen s.P 25 t1 h8) fun v9 h10 =>
  bm (vLoad s.P 23 v1 h10) h10 fun v11 h12 =>
  bp (callV (xX s 27 wl k false) false true (.fn (.func 69) [] []) [v11] h12) fun v13 h14 =>
  bm (vBin s.P .neq 3 v9 v13) h14 fun v15 h16 =>
  opsP (xX s 27 wl k false) xg27_0 9 h2.length ([],[]) (runK (xX s 27 wl k false) (bodyK s.P Try.f27) xk27_0) ⟨[t0,t1,t2,v1,uu,uu,(V.lit (Value.bool false)),v3,v5,v7,(V.lit (Value.bool false)),t1,v9,v11,v13,v15,uu,uu,uu,uu,uu,uu,uu,uu,uu,uu,uu,uu,uu,uu,uu,uu,uu,uu],h16⟩) (
  opsP (xX s 27 wl k false) xg27_0 5 h2.length ([],[]) (runK (xX s 27 wl k false) (bodyK s.P Try.f27) xk27_0) ⟨[t0,t1,t2,v1,uu,uu,(V.lit (Value.bool false)),v3,v5,v7,v7,uu,uu,uu,uu,uu,uu,uu,uu,uu,uu,uu,uu,uu,uu,uu,uu,uu,uu,uu,uu,uu,uu,uu],h8⟩) :=
  bodyV_run rfl (go_seq (go_reg0
  (go_op0 rfl rfl (st_bp (by kernel_rfl) fun v1 h2 =>
  (go_op0 rfl rfl (st_id (v := (V.lit (Value.bool false))) (H := h2) (by kernel_rfl)
  (go_end0 (by kernel_rfl)
  (go_seq (go_seq (go_reg0
  (go_op0 rfl rfl (st_bm (by kernel_rfl) fun v3 h4 =>
  (go_op0 rfl rfl (st_bp (by kernel_rfl) fun v5 h6 =>
  (go_op0 rfl rfl (st_bm (by kernel_rfl) fun v7 h8 =>
  (go_op0 rfl rfl (st_id (v := v7) (H := h8) (by kernel_rfl)
  (go_gdF0 rfl rfl rfl (by kernel_rfl)
  (go_skip0 rfl rfl rfl (by kernel_rfl)
  (go_skip0 rfl rfl rfl (by kernel_rfl)
  (go_skip0 rfl rfl rfl (by kernel_rfl)
  (go_skip0 rfl rfl rfl (by kernel_rfl)
  (by kernel_rfl)))))
  (st_id (v := t1) (H := h8) (by kernel_rfl)
  (go_run0 rfl rfl rfl (by kernel_rfl) (st_bp (by kernel_rfl) fun v9 h10 =>
  (go_run0 rfl rfl rfl (by kernel_rfl) (st_bm (by kernel_rfl) fun v11 h12 =>
  (go_run0 rfl rfl rfl (by kernel_rfl) (st_bp (by kernel_rfl) fun v13 h14 =>
  (go_run0 rfl rfl rfl (by kernel_rfl) (st_bm (by kernel_rfl) fun v15 h16 =>
  (by kernel_rfl))))))))))
  (by kernel_rfl))))))))))))))))))))
theorem xe27 (k wl : Nat) (t0 t1 t2 : V) (h : Hp) : evF Try.prog xM (k + 1) wl 27 [t0,t1,t2] h = bodyV (xX (xS k) 27 wl k false) Try.f27 [t0,t1,t2] h := by kernel_rfl
theorem xm27_0 (s : Sys) (k wl : Nat) (m0 : Nat) (ac : List Nat × List Nat) (t0 t1 t2 t3 t4 t5 t6 t7 t8 t9 t10 t11 t12 t13 t14 t15 t16 t17 t18 t19 t20 t21 t22 t23 t24 t25 t26 t27 t28 t29 t30 t31 t32 t33 : V) (h : Hp) : opsP (xX s 27 wl k false) xg27_0 9 m0 ac (runK (xX s 27 wl k false) (bodyK s.P Try.f27) xk27_0) ⟨[t0,t1,t2,t3,t4,t5,t6,t7,t8,t9,t10,t11,t12,t13,t14,t15,t16,t17,t18,t19,t20,t21,t22,t23,t24,t25,t26,t27,t28,t29,t30,t31,t32,t33],h⟩ =
  bm (vPick t10 (V.lit (Value.bool true)) t15) h fun v17 h18 =>
  gd v17 (
  opsP (xX s 27 wl k false) xg27_0 13 m0 ac (runK (xX s 27 wl k false) (bodyK s.P Try.f27) xk27_0) ⟨[t0,t1,t2,t3,t4,t5,t6,t7,t8,t9,t10,t11,t12,t13,t14,t15,v17,(V.lit (Value.bool true)),uu,uu,t20,t21,t22,t23,t24,t25,t26,t27,t28,t29,t30,t31,t32,t33],h18⟩) (
  bm (vBin s.P .lss 3 t2 (V.lit (Value.int .i64 0))) h18 fun v19 h20 =>
  opsP (xX s 27 wl k false) xg27_0 13 m0 ac (runK (xX s 27 wl k false) (bodyK s.P Try.f27) xk27_0) ⟨[t0,t1,t2,t3,t4,t5,t6,t7,t8,t9,t10,t11,t12,t13,t14,t15,v17,(V.lit (Value.bool false)),t2,v19,t20,t21,t22,t23,t24,t25,t26,t27,t28,t29,t30,t31,t32,t33],h20⟩) (
  opsP (xX s 27 wl k false) xg27_0 12 m0 ac (runK (xX s 27 wl k false) (bodyK s.P Try.f27) xk27_0) ⟨[t0,t1,t2,t3,t4,t5,t6,t7,t8,t9,t10,t11,t12,t13,t14,t15,v17,v17,uu,t19,t20,t21,t22,t23,t24,t25,t26,t27,t28,t29,t30,t31,t32,t33],h18⟩) :=
  (go_op0 rfl rfl (st_bm (by kernel_rfl) fun v17 h18 =>
  (go_op0 rfl rfl (st_id (v := v17) (H := h18) (by kernel_rfl)
  (go_gdF0 rfl rfl rfl (by kernel_rfl)
  (go_skip0 rfl rfl rfl (by kernel_rfl)
  (by kernel_rfl))
  (st_id (v := t2) (H := h18) (by kernel_rfl)
  (go_run0 rfl rfl rfl (by kernel_rfl) (st_bm (by kernel_rfl) fun v19 h20 =>
  (by kernel_rfl))))
  (by kernel_rfl))))))
theorem xm27_1 (s : Sys) (k wl : Nat) (m0 : Nat) (ac : List Nat × List Nat) (t0 t1 t2 t3 t4 t5 t6 t7 t8 t9 t10 t11 t12 t13 t14 t15 t16 t17 t18 t19 t20 t21 t22 t23 t24 t25 t26 t27 t28 t29 t30 t31 t32 t33 : V) (h : Hp) : opsP (xX s 27 wl k false) xg27_0 13 m0 ac (runK (xX s 27 wl k false) (bodyK s.P Try.f27) xk27_0) ⟨[t0,t1,t2,t3,t4,t5,t6,t7,t8,t9,t10,t11,t12,t13,t14,t15,t16,t17,t18,t19,t20,t21,t22,t23,t24,t25,t26,t27,t28,t29,t30,t31,t32,t33],h⟩ =
  bm (vPick t17 (V.lit (Value.bool true)) t19) h fun v21 h22 =>
  gd v21 (
  opsP (xX s 27 wl k false) xg27_0 19 m0 ac (runK (xX s 27 wl k false) (bodyK s.P Try.f27) xk27_0) ⟨[t0,t1,t2,t3,t4,t5,t6,t7,t8,t9,t10,t11,t12,t13,t14,t15,t16,t17,t18,t19,v21,(V.lit (Value.bool true)),uu,uu,uu,uu,t26,t27,t28,t29,t30,t31,t32,t33],h22⟩) (
  bm (vFieldAddr s.P 23 t3 0) h22 fun v23 h24 =>
  bm (vLoad s.P 3 v23 h24) h24 fun v25 h26 =>
  bm (vBin s.P .geq 3 t2 v25) h26 fun v27 h28 =>
  opsP (xX s 27 wl k false) xg27_0 19 m0 ac (runK (xX s 27 wl k false) (bodyK s.P Try.f27) xk27_0) ⟨[t0,t1,t2,t3,t4,t5,t6,t7,t8,t9,t10,t11,t12,t13,t14,t15,t16,t17,t18,t19,v21,(V.lit (Value.bool false)),t2,v23,v25,v27,t26,t27,t28,t29,t30,t31,t32,t33],h28⟩) (
  opsP (xX s 27 wl k false) xg27_0 16 m0 ac (runK (xX s 27 wl k false) (bodyK s.P Try.f27) xk27_0) ⟨[t0,t1,t2,t3,t4,t5,t6,t7,t8,t9,t10,t11,t12,t13,t14,t15,t16,t17,t18,t19,v21,v21,uu,t23,t24,t25,t26,t27,t28,t29,t30,t31,t32,t33],h22⟩) :=
  (go_op0 rfl rfl (st_bm (by kernel_rfl) fun v21 h22 =>
  (go_op0 rfl rfl (st_id (v := v21) (H := h22) (by kernel_rfl)
  (go_gdF0 rfl rfl rfl (by kernel_rfl)
  (go_skip0 rfl rfl rfl (by kernel_rfl)
  (go_skip0 rfl rfl rfl (by kernel_rfl)
  (go_skip0 rfl rfl rfl (by kernel_rfl)
  (by kernel_rfl))))
  (st_id (v := t2) (H := h22) (by kernel_rfl)
  (go_run0 rfl rfl rfl (by kernel_rfl) (st_bm (by kernel_rfl) fun v23 h24 =>
  (go_run0 rfl rfl rfl (by kernel_rfl) (st_bm (by kernel_rfl) fun v25 h26 =>
  (go_run0 rfl rfl rfl (by kernel_rfl) (st_bm (by kernel_rfl) fun v27 h28 =>
  (by kernel_rfl))))))))
  (by kernel_rfl))))))
theorem xm27_2 (s : Sys) (k wl : Nat) (m0 : Nat) (ac : List Nat × List Nat) (t0 t1 t2 t3 t4 t5 t6 t7 t8 t9 t10 t11 t12 t13 t14 t15 t16 t17 t18 t19 t20 t21 t22 t23 t24 t25 t26 t27 t28 t29 t30 t31 t32 t33 : V) (h : Hp) : opsP (xX s 27 wl k false) xg27_0 19 m0 ac (runK (xX s 27 wl k false) (bodyK s.P Try.f27) xk27_0) ⟨[t0,t1,t2,t3,t4,t5,t6,t7,t8,t9,t10,t11,t12,t13,t14,t15,t16,t17,t18,t19,t20,t21,t22,t23,t24,t25,t26,t27,t28,t29,t30,t31,t32,t33],h⟩ =
  bm (vPick t21 (V.lit (Value.bool true)) t25) h fun v29 h30 =>
  cnd v29 (
  some ((V.lit (Value.bool false)),h30)) (
  bp (callV (xX s 27 wl k false) false true (.fn (.func 34) [] []) [t1,(V.lit (Value.int .i64 2))] h30) fun v31 h32 =>
  bp (callV (xX s 27 wl k false) false true (.fn (.func 40) [] []) [v31] h32) fun v33 h34 =>
  bm (vBin s.P .shr 26 v33 t2) h34 fun v35 h36 =>
  bm (vBin s.P .and 26 v35 (V.lit (Value.int .u64 1))) h36 fun v37 h38 =>
  bm (vBin s.P .eql 26 v37 (V.lit (Value.int .u64 1))) h38 fun v39 h40 =>
  some (v39,h40)) :=
  (go_op0 rfl rfl (st_bm (by kernel_rfl) fun v29 h30 =>
  (go_end0 (by kernel_rfl)
  (go_cond (by kernel_rfl)
  (go_seq (go_reg0
  (go_op0 rfl rfl (st_id (v := (V.lit (Value.bool false))) (H := h30) (by kernel_rfl)
  (go_end0 (by kernel_rfl)
  (go_ret (rt_seq_ret (by kernel_rfl))))))))
  (go_skip (go_seq (go_reg0
  (go_op0 rfl rfl (st_id (v := t1) (H := h30) (by kernel_rfl)
  (go_op0 rfl rfl (st_bp (by kernel_rfl) fun v31 h32 =>
  (go_op0 rfl rfl (st_bp (by kernel_rfl) fun v33 h34 =>
  (go_op0 rfl rfl (st_id (v := t2) (H := h34) (by kernel_rfl)
  (go_op0 rfl rfl (st_bm (by kernel_rfl) fun v35 h36 =>
  (go_op0 rfl rfl (st_bm (by kernel_rfl) fun v37 h38 =>
  (go_op0 rfl rfl (st_bm (by kernel_rfl) fun v39 h40 =>
  (go_op0 rfl rfl (st_id (v := v39) (H := h40) (by kernel_rfl)
  (go_end0 (by kernel_rfl)
  (go_ret (by kernel_rfl))))))))))))))))))))))))))
theorem xk27_0_ret (cx : Cx) (K : Out → St → Option (V × Hp)) (s : St) : runK cx K xk27_0 .ret s = K .ret s := by kernel_rfl
-- names: xb27,xm27_0,xm27_1,xm27_2,xk27_0_ret
noncomputable def xg28_0 : Code := codeAt (bodyOf Try.f28) [1,0]
noncomputable def xk28_0 : List Fr := [.seq (codeAt (bodyOf Try.f28) [1,1])]
theorem xb28 (s : Sys) (k wl : Nat) (t0 t1 t2 t3 t4 : V) (h : Hp) : bodyV (xX s 28 wl k false) Try.f28 [t0,t1,t2,t3,t4] h =
  bp (opBox t0 h) fun v1 h2 =>
  bp (opBox t2 h2) fun v3 h4 =>
  bm (vLoad s.P 23 v1 h4) h4 fun v5 h6 =>
  bp (callV (xX s 28 wl k false) false true (.fn (.func 68) [] []) [v5] h6) fun v7 h8 =>
  gd v7 (
  bp (opLen s.P 25 t1 h8) fun v9 h10 =>
  bm (vLoad s.P 23 v1 h10) h10 fun v11 h12 =>
  bp (callV (xX s 28 wl k false) false true (.fn (.func 69) [] []) [v11] h12) fun v13 h14 =>
  bm (vBin s.P .eql 3 v9 v13) h14 fun v15 h16 =>
  opsP (xX s 28 wl k false) xg28_0 8 h4.length ([],[]) (runK (xX s 28 wl k false) (bodyK s.P Try.f28) xk28_0) ⟨[t0,t1,t2,t3,t4,v1,uu,v3,uu,uu,(V.lit (Value.bool false)),v5,v7,(V.lit (Value.bool true)),t1,v9,v11,v13,v15,uu,uu,uu,uu,uu,uu,uu,uu,uu,uu,uu,uu,uu,uu,uu,uu,uu,uu,uu,uu,uu,uu,uu,uu,uu,uu,uu,uu,uu,uu,uu,uu,uu,uu,uu],h16⟩) (
  opsP (xX s 28 wl k false) xg28_0 8 h4.length ([],[]) (runK (xX s 28 wl k false) (bodyK s.P Try.f28) xk28_0) ⟨[t0,t1,t2,t3,t4,v1,uu,v3,uu,uu,(V.lit (Value.bool false)),v5,v7,(V.lit (Value.bool false)),uu,uu,uu,uu,uu,uu,uu,uu,uu,uu,uu,uu,uu,uu,uu,uu,uu,uu,uu,uu,uu,uu,uu,uu,uu,uu,uu,uu,uu,uu,uu,uu,uu,uu,uu,uu,uu,uu,uu,uu],h8⟩) (
  opsP (xX s 28 wl k false) xg28_0 4 h4.length ([],[]) (runK (xX s 28 wl k false) (bodyK s.P Try.f28) xk28_0) ⟨[t0,t1,t2,t3,t4,v1,uu,v3,uu,uu,(V.lit (Value.bool false)),v5,v7,v7,uu,uu,uu,uu,uu,uu,uu,uu,uu,uu,uu,uu,uu,uu,uu,uu,uu,uu,uu,uu,uu,uu,uu,uu,uu,uu,uu,uu,uu,uu,uu,uu,uu,uu,uu,uu,uu,uu,uu,uu],h8⟩) :=
  bodyV_run rfl (go_seq (go_reg0
  (go_op0 rfl rfl (st_bp (by kernel_rfl) fun v1 h2 =>
  (go_op0 rfl rfl (st_bp (by kernel_rfl) fun v3 h4 =>
  (go_op0 rfl rfl (st_id (v := (V.lit (Value.bool false))) (H := h4) (by kernel_rfl)
  (go_end0 (by kernel_rfl)
  (go_seq (go_reg0
  (go_op0 rfl rfl (st_bm (by kernel_rfl) fun v5 h6 =>
  (go_op0 rfl rfl (st_bp (by kernel_rfl) fun v7 h8 =>
  (go_op0 rfl rfl (st_id (v := v7) (H := h8) (by kernel_rfl)
  (go_gdT0 rfl rfl rfl (by kernel_rfl)
  (st_id (v := t1) (H := h8) (by kernel_rfl)
  (go_run0 rfl rfl rfl (by kernel_rfl) (st_bp (by kernel_rfl) fun v9 h10 =>
  (go_run0 rfl rfl rfl (by kernel_rfl) (st_bm (by kernel_rfl) fun v11 h12 =>
  (go_run0 rfl rfl rfl (by kernel_rfl) (st_bp (by kernel_rfl) fun v13 h14 =>
  (go_run0 rfl rfl rfl (by kernel_rfl) (st_bm (by kernel_rfl) fun v15 h16 =>
  (by kernel_rfl))))))))))
  (go_skip0 rfl rfl rfl (by kernel_rfl)
  (go_skip0 rfl rfl rfl (by kernel_rfl)
  (go_skip0 rfl rfl rfl (by kernel_rfl)
  (go_skip0 rfl rfl rfl (by kernel_rfl)
  (by kernel_rfl)))))
  (by kernel_rfl)))))))))))))))))))
theorem xe28 (k wl : Nat) (t0 t1 t2 t3 t4 : V) (h : Hp) : evF Try.prog xM (k + 1) wl 28 [t0,t1,t2,t3,t4] h = bodyV (xX (xS k) 28 wl k false) Try.f28 [t0,t1,t2,t3,t4] h := by kernel_rfl
theorem xm28_0 (s : Sys) (k wl : Nat) (m0 : Nat) (ac : List Nat × List Nat) (t0 t1 t2 t3 t4 t5 t6 t7 t8 t9 t10 t11 t12 t13 t14 t15 t16 t17 t18 t19 t20 t21 t22 t23 t24 t25 t26 t27 t28 t29 t30 t31 t32 t33 t34 t35 t36 t37 t38 t39 t40 t41 t42 t43 t44 t45 t46 t47 t48 t49 t50 t51 t52 t53 : V) (h : Hp) : opsP (xX s 28 wl k false) xg28_0 8 m0 ac (runK (xX s 28 wl k false) (bodyK s.P Try.f28) xk28_0) ⟨[t0,t1,t2,t3,t4,t5,t6,t7,t8,t9,t10,t11,t12,t13,t14,t15,t16,t17,t18,t19,t20,t21,t22,t23,t24,t25,t26,t27,t28,t29,t30,t31,t32,t33,t34,t35,t36,t37,t38,t39,t40,t41,t42,t43,t44,t45,t46,t47,t48,t49,t50,t51,t52,t53],h⟩ =
  bm (vPick t13 t18 (V.lit (Value.bool false))) h fun v17 h18 =>
  gd v17 (
  bm (vLoad s.P 28 t7 h18) h18 fun v19 h20 =>
  bp (callV (xX s 28 wl k false) false true (.fn (.func 43) [] []) [v19] h20) fun v21 h22 =>
  bm (vUn .not v21) h22 fun v23 h24 =>
  opsP (xX s 28 wl k false) xg28_0 13 m0 ac (runK (xX s 28 wl k false) (bodyK s.P Try.f28) xk28_0) ⟨[t0,t1,t2,t3,t4,t5,t6,t7,t8,t9,t10,t11,t12,t13,t14,t15,t16,t17,t18,v17,(V.lit (Value.bool true)),v19,v21,v23,t24,t25,t26,t27,t28,t29,t30,t31,t32,t33,t34,t35,t36,t37,t38,t39,t40,t41,t42,t43,t44,t45,t46,t47,t48,t49,t50,t51,t52,t53],h24⟩) (
  opsP (xX s 28 wl k false) xg28_0 13 m0 ac (runK (xX s 28 wl k false) (bodyK s.P Try.f28) xk28_0) ⟨[t0,t1,t2,t3,t4,t5,t6,t7,t8,t9,t10,t11,t12,t13,t14,t15,t16,t17,t18,v17,(V.lit (Value.bool false)),uu,uu,uu,t24,t25,t26,t27,t28,t29,t30,t31,t32,t33,t34,t35,t36,t37,t38,t39,t40,t41,t42,t43,t44,t45,t46,t47,t48,t49,t50,t51,t52,t53],h18⟩) (
  opsP (xX s 28 wl k false) xg28_0 11 m0 ac (runK (xX s 28 wl k false) (bodyK s.P Try.f28) xk28_0) ⟨[t0,t1,t2,t3,t4,t5,t6,t7,t8,t9,t10,t11,t12,t13,t14,t15,t16,t17,t18,v17,v17,uu,t22,t23,t24,t25,t26,t27,t28,t29,t30,t31,t32,t33,t34,t35,t36,t37,t38,t39,t40,t41,t42,t43,t44,t45,t46,t47,t48,t49,t50,t51,t52,t53],h18⟩) :=
  (go_op0 rfl rfl (st_bm (by kernel_rfl) fun v17 h18 =>
  (go_op0 rfl rfl (st_id (v := v17) (H := h18) (by kernel_rfl)
  (go_gdT0 rfl rfl rfl (by kernel_rfl)
  (st_bm (by kernel_rfl) fun v19 h20 =>
  (go_run0 rfl rfl rfl (by kernel_rfl) (st_bp (by kernel_rfl) fun v21 h22 =>
  (go_run0 rfl rfl rfl (by kernel_rfl) (st_bm (by kernel_rfl) fun v23 h24 =>
  (by kernel_rfl))))))
  (go_skip0 rfl rfl rfl (by kernel_rfl)
  (go_skip0 rfl rfl rfl (by kernel_rfl)
  (by kernel_rfl)))
  (by kernel_rfl))))))
theorem xm28_1 (s : Sys) (k wl : Nat) (m0 : Nat) (ac : List Nat × List Nat) (t0 t1 t2 t3 t4 t5 t6 t7 t8 t9 t10 t11 t12 t13 t14 t15 t16 t17 t18 t19 t20 t21 t22 t23 t24 t25 t26 t27 t28 t29 t30 t31 t32 t33 t34 t35 t36 t37 t38 t39 t40 t41 t42 t43 t44 t45 t46 t47 t48 t49 t50 t51 t52 t53 : V) (h : Hp) : opsP (xX s 28 wl k false) xg28_0 13 m0 ac (runK (xX s 28 wl k false) (bodyK s.P Try.f28) xk28_0) ⟨[t0,t1,t2,t3,t4,t5,t6,t7,t8,t9,t10,t11,t12,t13,t14,t15,t16,t17,t18,t19,t20,t21,t22,t23,t24,t25,t26,t27,t28,t29,t30,t31,t32,t33,t34,t35,t36,t37,t38,t39,t40,t41,t42,t43,t44,t45,t46,t47,t48,t49,t50,t51,t52,t53],h⟩ =
  bm (vPick t20 t23 (V.lit (Value.bool false))) h fun v25 h26 =>
  gd v25 (
  bm (vFieldAddr s.P 28 t7 2) h26 fun v27 h28 =>
  bm (vLoad s.P 3 v27 h28) h28 fun v29 h30 =>
  bm (vBin s.P .geq 3 v29 (V.lit (Value.int .i64 0))) h30 fun v31 h32 =>
  opsP (xX s 28 wl k false) xg28_0 18 m0 ac (runK (xX s 28 wl k false) (bodyK s.P Try.f28) xk28_0) ⟨[t0,t1,t2,t3,t4,t5,t6,t7,t8,t9,t10,t11,t12,t13,t14,t15,t16,t17,t18,t19,t20,t21,t22,t23,v25,(V.lit (Value.bool true)),v27,v29,v31,t29,t30,t31,t32,t33,t34,t35,t36,t37,t38,t39,t40,t41,t42,t43,t44,t45,t46,t47,t48,t49,t50,t51,t52,t53],h32⟩) (
  opsP (xX s 28 wl k false) xg28_0 18 m0 ac (runK (xX s 28 wl k false) (bodyK s.P Try.f28) xk28_0) ⟨[t0,t1,t2,t3,t4,t5,t6,t7,t8,t9,t10,t11,t12,t13,t14,t15,t16,t17,t18,t19,t20,t21,t22,t23,v25,(V.lit (Value.bool false)),uu,uu,uu,t29,t30,t31,t32,t33,t34,t35,t36,t37,t38,t39,t40,t41,t42,t43,t44,t45,t46,t47,t48,t49,t50,t51,t52,t53],h26⟩) (
  opsP (xX s 28 wl k false) xg28_0 16 m0 ac (runK (xX s 28 wl k false) (bodyK s.P Try.f28) xk28_0) ⟨[t0,t1,t2,t3,t4,t5,t6,t7,t8,t9,t10,t11,t12,t13,t14,t15,t16,t17,t18,t19,t20,t21,t22,t23,v25,v25,uu,t27,t28,t29,t30,t31,t32,t33,t34,t35,t36,t37,t38,t39,t40,t41,t42,t43,t44,t45,t46,t47,t48,t49,t50,t51,t52,t53],h26⟩) :=
  (go_op0 rfl rfl (st_bm (by kernel_rfl) fun v25 h26 =>
  (go_op0 rfl rfl (st_id (v := v25) (H := h26) (by kernel_rfl)
  (go_gdT0 rfl rfl rfl (by kernel_rfl)
  (st_bm (by kernel_rfl) fun v27 h28 =>
  (go_run0 rfl rfl rfl (by kernel_rfl) (st_bm (by kernel_rfl) fun v29 h30 =>
  (go_run0 rfl rfl rfl (by kernel_rfl) (st_bm (by kernel_rfl) fun v31 h32 =>
  (by kernel_rfl))))))
  (go_skip0 rfl rfl rfl (by kernel_rfl)
  (go_skip0 rfl rfl rfl (by kernel_rfl)
  (by kernel_rfl)))
  (by kernel_rfl))))))
theorem xm28_2 (s : Sys) (k wl : Nat) (m0 : Nat) (ac : List Nat × List Nat) (t0 t1 t2 t3 t4 t5 t6 t7 t8 t9 t10 t11 t12 t13 t14 t15 t16 t17 t18 t19 t20 t21 t22 t23 t24 t25 t26 t27 t28 t29 t30 t31 t32 t33 t34 t35 t36 t37 t38 t39 t40 t41 t42 t43 t44 t45 t46 t47 t48 t49 t50 t51 t52 t53 : V) (h : Hp) : opsP (xX s 28 wl k false) xg28_0 18 m0 ac (runK (xX s 28 wl k false) (bodyK s.P Try.f28) xk28_0) ⟨[t0,t1,t2,t3,t4,t5,t6,t7,t8,t9,t10,t11,t12,t13,t14,t15,t16,t17,t18,t19,t20,t21,t22,t23,t24,t25,t26,t27,t28,t29,t30,t31,t32,t33,t34,t35,t36,t37,t38,t39,t40,t41,t42,t43,t44,t45,t46,t47,t48,t49,t50,t51,t52,t53],h⟩ =
  bm (vPick t25 t28 (V.lit (Value.bool false))) h fun v33 h34 =>
  gd v33 (
  bm (vFieldAddr s.P 28 t7 2) h34 fun v35 h36 =>
  bm (vLoad s.P 3 v35 h36) h36 fun v37 h38 =>
  bm (vFieldAddr s.P 23 t5 0) h38 fun v39 h40 =>
  bm (vLoad s.P 3 v39 h40) h40 fun v41 h42 =>
  bm (vBin s.P .lss 3 v37 v41) h42 fun v43 h44 =>
  opsP (xX s 28 wl k false) xg28_0 25 m0 ac (runK (xX s 28 wl k false) (bodyK s.P Try.f28) xk28_0) ⟨[t0,t1,t2,t3,t4,t5,t6,t7,t8,t9,t10,t11,t12,t13,t14,t15,t16,t17,t18,t19,t20,t21,t22,t23,t24,t25,t26,t27,t28,v33,(V.lit (Value.bool true)),v35,v37,v39,v41,v43,t36,t37,t38,t39,t40,t41,t42,t43,t44,t45,t46,t47,t48,t49,t50,t51,t52,t53],h44⟩) (
  opsP (xX s 28 wl k false) xg28_0 25 m0 ac (runK (xX s 28 wl k false) (bodyK s.P Try.f28) xk28_0) ⟨[t0,t1,t2,t3,t4,t5,t6,t7,t8,t9,t10,t11,t12,t13,t14,t15,t16,t17,t18,t19,t20,t21,t22,t23,t24,t25,t26,t27,t28,v33,(V.lit (Value.bool false)),uu,uu,uu,uu,uu,t36,t37,t38,t39,t40,t41,t42,t43,t44,t45,t46,t47,t48,t49,t50,t51,t52,t53],h34⟩) (
  opsP (xX s 28 wl k false) xg28_0 21 m0 ac (runK (xX s 28 wl k false) (bodyK s.P Try.f28) xk28_0) ⟨[t0,t1,t2,t3,t4,t5,t6,t7,t8,t9,t10,t11,t12,t13,t14,t15,t16,t17,t18,t19,t20,t21,t22,t23,t24,t25,t26,t27,t28,v33,v33,uu,t32,t33,t34,t35,t36,t37,t38,t39,t40,t41,t42,t43,t44,t45,t46,t47,t48,t49,t50,t51,t52,t53],h34⟩) :=
  (go_op0 rfl rfl (st_bm (by kernel_rfl) fun v33 h34 =>
  (go_op0 rfl rfl (st_id (v := v33) (H := h34) (by kernel_rfl)
  (go_gdT0 rfl rfl rfl (by kernel_rfl)
  (st_bm (by kernel_rfl) fun v35 h36 =>
  (go_run0 rfl rfl rfl (by kernel_rfl) (st_bm (by kernel_rfl) fun v37 h38 =>
  (go_run0 rfl rfl rfl (by kernel_rfl) (st_bm (by kernel_rfl) fun v39 h40 =>
  (go_run0 rfl rfl rfl (by kernel_rfl) (st_bm (by kernel_rfl) fun v41 h42 =>
  (go_run0 rfl rfl rfl (by kernel_rfl) (st_bm (by kernel_rfl) fun v43 h44 =>
  (by kernel_rfl))))))))))
  (go_skip0 rfl rfl rfl (by kernel_rfl)
  (go_skip0 rfl rfl rfl (by kernel_rfl)
  (go_skip0 rfl rfl rfl (by kernel_rfl)
  (go_skip0 rfl rfl rfl (by kernel_rfl)
  (by kernel_rfl)))))
  (by kernel_rfl))))))
theorem xm28_3 (s : Sys) (k wl : Nat) (m0 : Nat) (ac : List Nat × List Nat) (t0 t1 t2 t3 t4 t5 t6 t7 t8 t9 t10 t11 t12 t13 t14 t15 t16 t17 t18 t19 t20 t21 t22 t23 t24 t25 t26 t27 t28 t29 t30 t31 t32 t33 t34 t35 t36 t37 t38 t39 t40 t41 t42 t43 t44 t45 t46 t47 t48 t49 t50 t51 t52 t53 : V) (h : Hp) : opsP (xX s 28 wl k false) xg28_0 25 m0 ac (runK (xX s 28 wl k false) (bodyK s.P Try.f28) xk28_0) ⟨[t0,t1,t2,t3,t4,t5,t6,t7,t8,t9,t10,t11,t12,t13,t14,t15,t16,t17,t18,t19,t20,t21,t22,t23,t24,t25,t26,t27,t28,t29,t30,t31,t32,t33,t34,t35,t36,t37,t38,t39,t40,t41,t42,t43,t44,t45,t46,t47,t48,t49,t50,t51,t52,t53],h⟩ =
  bm (vPick t30 t35 (V.lit (Value.bool false))) h fun v45 h46 =>
  gd v45 (
  bm (vFieldAddr s.P 28 t7 0) h46 fun v47 h48 =>
  bm (vLoad s.P 3 v47 h48) h48 fun v49 h50 =>
  bm (vBin s.P .eql 3 v49 t3) h50 fun v51 h52 =>
  opsP (xX s 28 wl k false) xg28_0 31 m0 ac (runK (xX s 28 wl k false) (bodyK s.P Try.f28) xk28_0) ⟨[t0,t1,t2,t3,t4,t5,t6,t7,t8,t9,t10,t11,t12,t13,t14,t15,t16,t17,t18,t19,t20,t21,t22,t23,t24,t25,t26,t27,t28,t29,t30,t31,t32,t33,t34,t35,v45,(V.lit (Value.bool true)),v47,v49,t3,v51,t42,t43,t44,t45,t46,t47,t48,t49,t50,t51,t52,t53],h52⟩) (
  opsP (xX s 28 wl k false) xg28_0 31 m0 ac (runK (xX s 28 wl k false) (bodyK s.P Try.f28) xk28_0) ⟨[t0,t1,t2,t3,t4,t5,t6,t7,t8,t9,t10,t11,t12,t13,t14,t15,t16,t17,t18,t19,t20,t21,t22,t23,t24,t25,t26,t27,t28,t29,t30,t31,t32,t33,t34,t35,v45,(V.lit (Value.bool false)),uu,uu,uu,uu,t42,t43,t44,t45,t46,t47,t48,t49,t50,t51,t52,t53],h46⟩) (
  opsP (xX s 28 wl k false) xg28_0 28 m0 ac (runK (xX s 28 wl k false) (bodyK s.P Try.f28) xk28_0) ⟨[t0,t1,t2,t3,t4,t5,t6,t7,t8,t9,t10,t11,t12,t13,t14,t15,t16,t17,t18,t19,t20,t21,t22,t23,t24,t25,t26,t27,t28,t29,t30,t31,t32,t33,t34,t35,v45,v45,uu,t39,t40,t41,t42,t43,t44,t45,t46,t47,t48,t49,t50,t51,t52,t53],h46⟩) :=
  (go_op0 rfl rfl (st_bm (by kernel_rfl) fun v45 h46 =>
  (go_op0 rfl rfl (st_id (v := v45) (H := h46) (by kernel_rfl)
  (go_gdT0 rfl rfl rfl (by kernel_rfl)
  (st_bm (by kernel_rfl) fun v47 h48 =>
  (go_run0 rfl rfl rfl (by kernel_rfl) (st_bm (by kernel_rfl) fun v49 h50 =>
  (go_run0 rfl rfl rfl (by kernel_rfl) (st_id (v := t3) (H := h50) (by kernel_rfl)
  (go_run0 rfl rfl rfl (by kernel_rfl) (st_bm (by kernel_rfl) fun v51 h52 =>
  (by kernel_rfl))))))))
  (go_skip0 rfl rfl rfl (by kernel_rfl)
  (go_skip0 rfl rfl rfl (by kernel_rfl)
  (go_skip0 rfl rfl rfl (by kernel_rfl)
  (by kernel_rfl))))
  (by kernel_rfl))))))
theorem xm28_4 (s : Sys) (k wl : Nat) (m0 : Nat) (ac : List Nat × List Nat) (t0 t1 t2 t3 t4 t5 t6 t7 t8 t9 t10 t11 t12 t13 t14 t15 t16 t17 t18 t19 t20 t21 t22 t23 t24 t25 t26 t27 t28 t29 t30 t31 t32 t33 t34 t35 t36 t37 t38 t39 t40 t41 t42 t43 t44 t45 t46 t47 t48 t49 t50 t51 t52 t53 : V) (h : Hp) : opsP (xX s 28 wl k false) xg28_0 31 m0 ac (runK (xX s 28 wl k false) (bodyK s.P Try.f28) xk28_0) ⟨[t0,t1,t2,t3,t4,t5,t6,t7,t8,t9,t10,t11,t12,t13,t14,t15,t16,t17,t18,t19,t20,t21,t22,t23,t24,t25,t26,t27,t28,t29,t30,t31,t32,t33,t34,t35,t36,t37,t38,t39,t40,t41,t42,t43,t44,t45,t46,t47,t48,t49,t50,t51,t52,t53],h⟩ =
  bm (vPick t37 t41 (V.lit (Value.bool false))) h fun v53 h54 =>
  gd v53 (
  bm (vFieldAddr s.P 28 t7 1) h54 fun v55 h56 =>
  bm (vLoad s.P 3 v55 h56) h56 fun v57 h58 =>
  bm (vBin s.P .geq 3 v57 (V.lit (Value.int .i64 0))) h58 fun v59 h60 =>
  opsP (xX s 28 wl k false) xg28_0 36 m0 ac (runK (xX s 28 wl k false) (bodyK s.P Try.f28) xk28_0) ⟨[t0,t1,t2,t3,t4,t5,t6,t7,t8,t9,t10,t11,t12,t13,t14,t15,t16,t17,t18,t19,t20,t21,t22,t23,t24,t25,t26,t27,t28,t29,t30,t31,t32,t33,t34,t35,t36,t37,t38,t39,t40,t41,v53,(V.lit (Value.bool true)),v55,v57,v59,t47,t48,t49,t50,t51,t52,t53],h60⟩) (
  opsP (xX s 28 wl k false) xg28_0 36 m0 ac (runK (xX s 28 wl k false) (bodyK s.P Try.f28) xk28_0) ⟨[t0,t1,t2,t3,t4,t5,t6,t7,t8,t9,t10,t11,t12,t13,t14,t15,t16,t17,t18,t19,t20,t21,t22,t23,t24,t25,t26,t27,t28,t29,t30,t31,t32,t33,t34,t35,t36,t37,t38,t39,t40,t41,v53,(V.lit (Value.bool false)),uu,uu,uu,t47,t48,t49,t50,t51,t52,t53],h54⟩) (
  opsP (xX s 28 wl k false) xg28_0 34 m0 ac (runK (xX s 28 wl k false) (bodyK s.P Try.f28) xk28_0) ⟨[t0,t1,t2,t3,t4,t5,t6,t7,t8,t9,t10,t11,t12,t13,t14,t15,t16,t17,t18,t19,t20,t21,t22,t23,t24,t25,t26,t27,t28,t29,t30,t31,t32,t33,t34,t35,t36,t37,t38,t39,t40,t41,v53,v53,uu,t45,t46,t47,t48,t49,t50,t51,t52,t53],h54⟩) :=
  (go_op0 rfl rfl (st_bm (by kernel_rfl) fun v53 h54 =>
  (go_op0 rfl rfl (st_id (v := v53) (H := h54) (by kernel_rfl)
  (go_gdT0 rfl rfl rfl (by kernel_rfl)
  (st_bm (by kernel_rfl) fun v55 h56 =>
  (go_run0 rfl rfl rfl (by kernel_rfl) (st_bm (by kernel_rfl) fun v57 h58 =>
  (go_run0 rfl rfl rfl (by kernel_rfl) (st_bm (by kernel_rfl) fun v59 h60 =>
  (by kernel_rfl))))))
  (go_skip0 rfl rfl rfl (by kernel_rfl)
  (go_skip0 rfl rfl rfl (by kernel_rfl)
  (by kernel_rfl)))
  (by kernel_rfl))))))
theorem xm28_5 (s : Sys) (k wl : Nat) (m0 : Nat) (ac : List Nat × List Nat) (t0 t1 t2 t3 t4 t5 t6 t7 t8 t9 t10 t11 t12 t13 t14 t15 t16 t17 t18 t19 t20 t21 t22 t23 t24 t25 t26 t27 t28 t29 t30 t31 t32 t33 t34 t35 t36 t37 t38 t39 t40 t41 t42 t43 t44 t45 t46 t47 t48 t49 t50 t51 t52 t53 : V) (h : Hp) : opsP (xX s 28 wl k false) xg28_0 36 m0 ac (runK (xX s 28 wl k false) (bodyK s.P Try.f28) xk28_0) ⟨[t0,t1,t2,t3,t4,t5,t6,t7,t8,t9,t10,t11,t12,t13,t14,t15,t16,t17,t18,t19,t20,t21,t22,t23,t24,t25,t26,t27,t28,t29,t30,t31,t32,t33,t34,t35,t36,t37,t38,t39,t40,t41,t42,t43,t44,t45,t46,t47,t48,t49,t50,t51,t52,t53],h⟩ =
  bm (vPick t43 t46 (V.lit (Value.bool false))) h fun v61 h62 =>
  gd v61 (
  bm (vFieldAddr s.P 28 t7 1) h62 fun v63 h64 =>
  bm (vLoad s.P 3 v63 h64) h64 fun v65 h66 =>
  bm (vBin s.P .lss 3 v65 t4) h66 fun v67 h68 =>
  opsP (xX s 28 wl k false) xg28_0 42 m0 ac (runK (xX s 28 wl k false) (bodyK s.P Try.f28) xk28_0) ⟨[t0,t1,t2,t3,t4,t5,t6,t7,t8,t9,t10,t11,t12,t13,t14,t15,t16,t17,t18,t19,t20,t21,t22,t23,t24,t25,t26,t27,t28,t29,t30,t31,t32,t33,t34,t35,t36,t37,t38,t39,t40,t41,t42,t43,t44,t45,t46,v61,(V.lit (Value.bool true)),v63,v65,t4,v67,t53],h68⟩) (
  opsP (xX s 28 wl k false) xg28_0 42 m0 ac (runK (xX s 28 wl k false) (bodyK s.P Try.f28) xk28_0) ⟨[t0,t1,t2,t3,t4,t5,t6,t7,t8,t9,t10,t11,t12,t13,t14,t15,t16,t17,t18,t19,t20,t21,t22,t23,t24,t25,t26,t27,t28,t29,t30,t31,t32,t33,t34,t35,t36,t37,t38,t39,t40,t41,t42,t43,t44,t45,t46,v61,(V.lit (Value.bool false)),uu,uu,uu,uu,t53],h62⟩) (
  opsP (xX s 28 wl k false) xg28_0 39 m0 ac (runK (xX s 28 wl k false) (bodyK s.P Try.f28) xk28_0) ⟨[t0,t1,t2,t3,t4,t5,t6,t7,t8,t9,t10,t11,t12,t13,t14,t15,t16,t17,t18,t19,t20,t21,t22,t23,t24,t25,t26,t27,t28,t29,t30,t31,t32,t33,t34,t35,t36,t37,t38,t39,t40,t41,t42,t43,t44,t45,t46,v61,v61,uu,t50,t51,t52,t53],h62⟩) :=
  (go_op0 rfl rfl (st_bm (by kernel_rfl) fun v61 h62 =>
  (go_op0 rfl rfl (st_id (v := v61) (H := h62) (by kernel_rfl)
  (go_gdT0 rfl rfl rfl (by kernel_rfl)
  (st_bm (by kernel_rfl) fun v63 h64 =>
  (go_run0 rfl rfl rfl (by kernel_rfl) (st_bm (by kernel_rfl) fun v65 h66 =>
  (go_run0 rfl rfl rfl (by kernel_rfl) (st_id (v := t4) (H := h66) (by kernel_rfl)
  (go_run0 rfl rfl rfl (by kernel_rfl) (st_bm (by kernel_rfl) fun v67 h68 =>
  (by kernel_rfl))))))))
  (go_skip0 rfl rfl rfl (by kernel_rfl)
  (go_skip0 rfl rfl rfl (by kernel_rfl)
  (go_skip0 rfl rfl rfl (by kernel_rfl)
  (by kernel_rfl))))
  (by kernel_rfl))))))
theorem xm28_6 (s : Sys) (k wl : Nat) (m0 : Nat) (ac : List Nat × List Nat) (t0 t1 t2 t3 t4 t5 t6 t7 t8 t9 t10 t11 t12 t13 t14 t15 t16 t17 t18 t19 t20 t21 t22 t23 t24 t25 t26 t27 t28 t29 t30 t31 t32 t33 t34 t35 t36 t37 t38 t39 t40 t41 t42 t43 t44 t45 t46 t47 t48 t49 t50 t51 t52 t53 : V) (h : Hp) : opsP (xX s 28 wl k false) xg28_0 42 m0 ac (runK (xX s 28 wl k false) (bodyK s.P Try.f28) xk28_0) ⟨[t0,t1,t2,t3,t4,t5,t6,t7,t8,t9,t10,t11,t12,t13,t14,t15,t16,t17,t18,t19,t20,t21,t22,t23,t24,t25,t26,t27,t28,t29,t30,t31,t32,t33,t34,t35,t36,t37,t38,t39,t40,t41,t42,t43,t44,t45,t46,t47,t48,t49,t50,t51,t52,t53],h⟩ =
  bm (vPick t48 t52 (V.lit (Value.bool false))) h fun v69 h70 =>
  some (v69,h70) :=
  (go_op0 rfl rfl (st_bm (by kernel_rfl) fun v69 h70 =>
  (go_op0 rfl rfl (st_id (v := v69) (H := h70) (by kernel_rfl)
  (go_end0 (by kernel_rfl)
  (go_ret (by kernel_rfl)))))))
theorem xk28_0_ret (cx : Cx) (K : Out → St → Option (V × Hp)) (s : St) : runK cx K xk28_0 .ret s = K .ret s := by kernel_rfl
-- names: xb28,xm28_0,xm28_1,xm28_2,xm28_3,xm28_4,xm28_5,xm28_6,xk28_0_ret
noncomputable def xg29_0 : Code := codeAt (bodyOf Try.f29) [1,0,0]
noncomputable def xk29_0 : List Fr := [.seq (codeAt (bodyOf Try.f29) [1,0,1]),.seq (codeAt (bodyOf Try.f29) [1,1])]
theorem xb29 (s : Sys) (k wl : Nat) (t0 t1 : V) (h : Hp) : bodyV (xX s 29 wl k false) Try.f29 [t0,t1] h =
  bm (vBin s.P .lss 3 t1 (V.lit (Value.int .i64 0))) h fun v1 h2 =>
  gd v1 (
  opsP (xX s 29 wl k false) xg29_0 5 h.length ([],[]) (runK (xX s 29 wl k false) (bodyK s.P Try.f29) xk29_0) ⟨[t0,t1,uu,uu,(V.lit (Value.int .u64 0)),t1,v1,(V.lit (Value.bool true)),uu,uu,uu,uu,uu,uu,uu,uu],h2⟩) (
  bm (vBin s.P .geq 3 t1 (V.lit (Value.int .i64 16))) h2 fun v3 h4 =>
  opsP (xX s 29 wl k false) xg29_0 5 h.length ([],[]) (runK (xX s 29 wl k false) (bodyK s.P Try.f29) xk29_0) ⟨[t0,t1,uu,uu,(V.lit (Value.int .u64 0)),t1,v1,(V.lit (Value.bool false)),t1,v3,uu,uu,uu,uu,uu,uu],h4⟩) (
  opsP (xX s 29 wl k false) xg29_0 4 h.length ([],[]) (runK (xX s 29 wl k false) (bodyK s.P Try.f29) xk29_0) ⟨[t0,t1,uu,uu,(V.lit (Value.int .u64 0)),t1,v1,v1,uu,uu,uu,uu,uu,uu,uu,uu],h2⟩) :=
  bodyV_run rfl (go_seq (go_reg0
  (go_op0 rfl rfl (st_id (v := (V.lit (Value.int .u64 0))) (H := h) (by kernel_rfl)
  (go_end0 (by kernel_rfl)
  (go_seq (go_seq (go_reg0
  (go_op0 rfl rfl (st_id (v := t1) (H := h) (by kernel_rfl)
  (go_op0 rfl rfl (st_bm (by kernel_rfl) fun v1 h2 =>
  (go_op0 rfl rfl (st_id (v := v1) (H := h2) (by kernel_rfl)
  (go_gdF0 rfl rfl rfl (by kernel_rfl)
  (go_skip0 rfl rfl rfl (by kernel_rfl)
  (by kernel_rfl))
  (st_id (v := t1) (H := h2) (by kernel_rfl)
  (go_run0 rfl rfl rfl (by kernel_rfl) (st_bm (by kernel_rfl) fun v3 h4 =>
  (by kernel_rfl))))
  (by kernel_rfl))))))))))))))))
theorem xe29 (k wl : Nat) (t0 t1 : V) (h : Hp) : evF Try.prog xM (k + 1) wl 29 [t0,t1] h = bodyV (xX (xS k) 29 wl k false) Try.f29 [t0,t1] h := by kernel_rfl
theorem xm29_0 (s : Sys) (k wl : Nat) (m0 : Nat) (ac : List Nat × List Nat) (t0 t1 t2 t3 t4 t5 t6 t7 t8 t9 t10 t11 t12 t13 t14 t15 : V) (h : Hp) : opsP (xX s 29 wl k false) xg29_0 5 m0 ac (runK (xX s 29 wl k false) (bodyK s.P Try.f29) xk29_0) ⟨[t0,t1,t2,t3,t4,t5,t6,t7,t8,t9,t10,t11,t12,t13,t14,t15],h⟩ =
  bm (vPick t7 (V.lit (Value.bool true)) t9) h fun v5 h6 =>
  cnd v5 (
  some (t0,h6)) (
  bm (vBin s.P .shl 26 (V.lit (Value.int .u64 1)) t1) h6 fun v7 h8 =>
  bm (vBin s.P .or 26 t0 v7) h8 fun v9 h10 =>
  some (v9,h10)) :=
  (go_op0 rfl rfl (st_bm (by kernel_rfl) fun v5 h6 =>
  (go_end0 (by kernel_rfl)
  (go_cond (by kernel_rfl)
  (go_seq (go_reg0
  (go_op0 rfl rfl (st_id (v := t0) (H := h6) (by kernel_rfl)
  (go_op0 rfl rfl (st_id (v := t0) (H := h6) (by kernel_rfl)
  (go_end0 (by kernel_rfl)
  (go_ret (rt_seq_ret (by kernel_rfl))))))))))
  (go_skip (go_seq (go_reg0
  (go_op0 rfl rfl (st_id (v := t0) (H := h6) (by kernel_rfl)
  (go_op0 rfl rfl (st_id (v := t1) (H := h6) (by kernel_rfl)
  (go_op0 rfl rfl (st_bm (by kernel_rfl) fun v7 h8 =>
  (go_op0 rfl rfl (st_bm (by kernel_rfl) fun v9 h10 =>
  (go_op0 rfl rfl (st_id (v := v9) (H := h10) (by kernel_rfl)
  (go_end0 (by kernel_rfl)
  (go_ret (by kernel_rfl))))))))))))))))))))
theorem xk29_0_ret (cx : Cx) (K : Out → St → Option (V × Hp)) (s : St) : runK cx K xk29_0 .ret s = K .ret s := by kernel_rfl
-- names: xb29,xm29_0,xk29_0_ret

theorem xb30 (s : Sys) (k wl : Nat) (t0 t1 : V) (h : Hp) : bodyV (xX s 30 wl k false) Try.f30 [t0,t1] h =
  bp (opBox t0 h) fun v1 h2 =>
  bp (opBox t1 h2) fun v3 h4 =>
  bm (vLoad s.P 23 v1 h4) h4 fun v5 h6 =>
  bm (vLoad s.P 3 v3 h6) h6 fun v7 h8 =>
  bp (callV (xX s 30 wl k false) false true (.fn (.func 70) [] []) [v5,v7,(.fn (.func 71) [] [v1,v3])] h8) fun v9 h10 =>
  some (v9,h10) :=
  bodyV_run rfl (go_seq (go_reg0
  (go_op0 rfl rfl (st_bp (by kernel_rfl) fun v1 h2 =>
  (go_op0 rfl rfl (st_bp (by kernel_rfl) fun v3 h4 =>
  (go_op0 rfl rfl (st_id (v := (V.lit (Value.int .i64 0))) (H := h4) (by kernel_rfl)
  (go_end0 (by kernel_rfl)
  (go_seq (go_reg0
  (go_op0 rfl rfl (st_bm (by kernel_rfl) fun v5 h6 =>
  (go_op0 rfl rfl (st_bm (by kernel_rfl) fun v7 h8 =>
  (go_op0 rfl rfl (st_id (v := (.fn (.func 71) [] [v1,v3])) (H := h8) (by kernel_rfl)
  (go_op0 rfl rfl (st_bp (by kernel_rfl) fun v9 h10 =>
  (go_op0 rfl rfl (st_id (v := v9) (H := h10) (by kernel_rfl)
  (go_end0 (by kernel_rfl)
  (go_ret (by kernel_rfl))))))))))))))))))))))))
theorem xe30 (k wl : Nat) (t0 t1 : V) (h : Hp) : evF Try.prog xM (k + 1) wl 30 [t0,t1] h = bodyV (xX (xS k) 30 wl k false) Try.f30 [t0,t1] h := by kernel_rfl
-- names: xb30,

theorem xb31 (s : Sys) (k wl : Nat) (t0 t1 t2 : V) (h : Hp) : bodyV (xX s 31 wl k false) Try.f31 [t0,t1,t2] h =
  bp (opAlloc s.P 28 h) fun v1 h2 =>
  bm (vBuild s.P 28 [(0,t0),(2,t1),(3,t2)]) h2 fun v3 h4 =>
  bs (vStore s.P wl 28 v1 v3 h4) fun h5 =>
  resO [vLoad s.P 28 v1 h5] h5 :=
  bodyV_run rfl (go_seq (go_reg0
  (go_op0 rfl rfl (st_bp (by kernel_rfl) fun v1 h2 =>
  (go_end0 (by kernel_rfl)
  (go_seq (go_reg0
  (go_op0 rfl rfl (st_id (v := t0) (H := h2) (by kernel_rfl)
  (go_op0 rfl rfl (st_id (v := t1) (H := h2) (by kernel_rfl)
  (go_op0 rfl rfl (st_id (v := t2) (H := h2) (by kernel_rfl)
  (go_op0 rfl rfl (st_bm (by kernel_rfl) fun v3 h4 =>
  (go_op0 rfl rfl (st_bs (by kernel_rfl) fun h5 =>
  (go_end0 (by kernel_rfl)
  (go_ret (by kernel_rfl))))))))))))))))))))
theorem xe31 (k wl : Nat) (t0 t1 t2 : V) (h : Hp) : evF Try.prog xM (k + 1) wl 31 [t0,t1,t2] h = bodyV (xX (xS k) 31 wl k false) Try.f31 [t0,t1,t2] h := by kernel_rfl
-- names: xb31,

theorem xb32 (s : Sys) (k wl : Nat) (t0 t1 t2 : V) (h : Hp) : bodyV (xX s 32 wl k false) Try.f32 [t0,t1,t2] h =
  bp (opBox t2 h) fun v1 h2 =>
  bp (some (.own h2.length 0 0,h2 ++ [.rows 0 [] 0 true])) fun v3 h4 =>
  bp (callV (xX s 32 wl k false) false true (.fn (.func 73) [] []) [t0,t1,(.fn (.func 74) [] [v1])] h4) fun v5 h6 =>
  bm (vExtract v5 0) h6 fun v7 h8 =>
  bm (vExtract v5 1) h8 fun v9 h10 =>
  some (v7,h10) :=
  bodyV_run rfl (go_seq (go_reg0
  (go_op0 rfl rfl (st_bp (by kernel_rfl) fun v1 h2 =>
  (go_op0 rfl rfl (st_bp (by kernel_rfl) fun v3 h4 =>
  (go_end0 (by kernel_rfl)
  (go_seq (go_reg0
  (go_op0 rfl rfl (st_id (v := t0) (H := h4) (by kernel_rfl)
  (go_op0 rfl rfl (st_id (v := t1) (H := h4) (by kernel_rfl)
  (go_op0 rfl rfl (st_id (v := (.fn (.func 74) [] [v1])) (H := h4) (by kernel_rfl)
  (go_op0 rfl rfl (st_bp (by kernel_rfl) fun v5 h6 =>
  (go_op0 rfl rfl (st_id (v := v5) (H := h6) (by kernel_rfl)
  (go_op0 rfl rfl (st_bm (by kernel_rfl) fun v7 h8 =>
  (go_op0 rfl rfl (st_bm (by kernel_rfl) fun v9 h10 =>
  (go_op0 rfl rfl (st_id (v := v7) (H := h10) (by kernel_rfl)
  (go_op0 rfl rfl (st_id (v := v9) (H := h10) (by kernel_rfl)
  (go_end0 (by kernel_rfl)
  (go_seq (go_reg0
  (go_op0 rfl rfl (st_id (v := v7) (H := h10) (by kernel_rfl)
  (go_op0 rfl rfl (st_id (v := v7) (H := h10) (by kernel_rfl)
  (go_end0 (by kernel_rfl)
  (go_ret (by kernel_rfl)))))))))))))))))))))))))))))))))))))
theorem xe32 (k wl : Nat) (t0 t1 t2 : V) (h : Hp) : evF Try.prog xM (k + 1) wl 32 [t0,t1,t2] h = bodyV (xX (xS k) 32 wl k false) Try.f32 [t0,t1,t2] h := by kernel_rfl
-- names: xb32,

theorem xb33 (s : Sys) (k wl : Nat) (t0 : V) (h : Hp) : bodyV (xX s 33 wl k false) Try.f33 [t0] h =
  bm (vBin s.P .shr 26 t0 (V.lit (Value.int .u64 16))) h fun v1 h2 =>
  some (v1,h2) :=
  bodyV_run rfl (go_seq (go_reg0
  (go_op0 rfl rfl (st_id (v := (V.lit (Value.int .u64 0))) (H := h) (by kernel_rfl)
  (go_end0 (by kernel_rfl)
  (go_seq (go_reg0
  (go_op0 rfl rfl (st_id (v := t0) (H := h) (by kernel_rfl)
  (go_op0 rfl rfl (st_bm (by kernel_rfl) fun v1 h2 =>
  (go_op0 rfl rfl (st_id (v := v1) (H := h2) (by kernel_rfl)
  (go_end0 (by kernel_rfl)
  (go_ret (by kernel_rfl))))))))))))))))
theorem xe33 (k wl : Nat) (t0 : V) (h : Hp) : evF Try.prog xM (k + 1) wl 33 [t0] h = bodyV (xX (xS k) 33 wl k false) Try.f33 [t0] h := by kernel_rfl
-- names: xb33,

theorem xb34 (s : Sys) (k wl : Nat) (t0 t1 : V) (h : Hp) : bodyV (xX s 34 wl k false) Try.f34 [t0,t1] h =
  bp (callV (xX s 34 wl k false) false true (.fn (.func 75) [] []) [t0,t1] h) fun v1 h2 =>
  bm (vUn .not v1) h2 fun v3 h4 =>
  cnd v3 (
  some ((V.lit (Value.int .u64 0)),h4)) (
  bm (vIndexAddr s.P 25 t0 t1 h4) h4 fun v5 h6 =>
  bm (vLoad s.P 26 v5 h6) h6 fun v7 h8 =>
  some (v7,h8)) :=
  bodyV_run rfl (go_seq (go_reg0
  (go_op0 rfl rfl (st_id (v := (V.lit (Value.int .u64 0))) (H := h) (by kernel_rfl)
  (go_end0 (by kernel_rfl)
  (go_seq (go_seq (go_reg0
  (go_op0 rfl rfl (st_id (v := t0) (H := h) (by kernel_rfl)
  (go_op0 rfl rfl (st_id (v := t1) (H := h) (by kernel_rfl)
  (go_op0 rfl rfl (st_bp (by kernel_rfl) fun v1 h2 =>
  (go_op0 rfl rfl (st_bm (by kernel_rfl) fun v3 h4 =>
  (go_end0 (by kernel_rfl)
  (go_cond (by kernel_rfl)
  (go_seq (go_reg0
  (go_op0 rfl rfl (st_id (v := (V.lit (Value.int .u64 0))) (H := h4) (by kernel_rfl)
  (go_end0 (by kernel_rfl)
  (go_ret (rt_seq_ret (by kernel_rfl))))))))
  (go_skip (go_seq (go_reg0
  (go_op0 rfl rfl (st_id (v := t0) (H := h4) (by kernel_rfl)
  (go_op0 rfl rfl (st_id (v := t1) (H := h4) (by kernel_rfl)
  (go_op0 rfl rfl (st_bm (by kernel_rfl) fun v5 h6 =>
  (go_op0 rfl rfl (st_bm (by kernel_rfl) fun v7 h8 =>
  (go_op0 rfl rfl (st_id (v := v7) (H := h8) (by kernel_rfl)
  (go_end0 (by kernel_rfl)
  (go_ret (by kernel_rfl))))))))))))))))))))))))))))))))))
theorem xe34 (k wl : Nat) (t0 t1 : V) (h : Hp) : evF Try.prog xM (k + 1) wl 34 [t0,t1] h = bodyV (xX (xS k) 34 wl k false) Try.f34 [t0,t1] h := by kernel_rfl
-- names: xb34,
noncomputable def xg37_0 : Code := codeAt (bodyOf Try.f37) [1,1,0,1,0,0]
noncomputable def xk37_0 : List Fr := [.block 0,.seq (codeAt (bodyOf Try.f37) [1,1,1,1])]
noncomputable def xg37_1 : Code := codeAt (bodyOf Try.f37) [1,1,1,0,0,1,1,1,0,0]
noncomputable def xg37_2 : Code := codeAt (bodyOf Try.f37) [1,1,1,0,0,1,1,1,0,1,1,0,1,1,0,0]
noncomputable def xk37_1 : List Fr := [.seq (codeAt (bodyOf Try.f37) [1,1,1,0,0,1,1,1,1,1,0,1,1]),.block 0,.seq (codeAt (bodyOf Try.f37) [1,1,1,1])]
noncomputable def xg37_3 : Code := codeAt (bodyOf Try.f37) [1,1,1,0,0,1,1,1,1,1,1,0]
noncomputable def xg37_4 : Code := codeAt (bodyOf Try.f37) [1,1,1,0,0,1,1,1,1,1,1,1,0,1,0]
noncomputable def xk37_2 : List Fr := [.seq (codeAt (bodyOf Try.f37) [1,1,1,0,0,1,1,1,1,1,1,1,0,1,1]),.seq (codeAt (bodyOf Try.f37) [1,1,1,0,0,1,1,1,1,1,1,1,1]),.block 0,.seq (codeAt (bodyOf Try.f37) [1,1,1,1])]
noncomputable def xg37_5 : Code := codeAt (bodyOf Try.f37) [1,1,1,1,0]
noncomputable def xg37_6 : Code := codeAt (bodyOf Try.f37) [1,1,1,0,0,1,1,1,1,1,0,1,1,0]
noncomputable def xg37_7 : Code := codeAt (bodyOf Try.f37) [1,1,1,0,0,1,1,1,1,1,1,1,0,1,1,0,0]
theorem xo37_3 : orderIx (opsOf xg37_0) = [0,1,2,3] := by kernel_rfl
theorem xo37_3a : (rgOf (opsOf xg37_0)).any = false := by kernel_rfl
theorem xo37_3r : regOk (opsOf xg37_0) = true := by kernel_rfl
theorem xo37_12 : orderIx (opsOf xg37_1) = [0,1,2,3,4,5,6,7,8,9,10,11] := by kernel_rfl
theorem xo37_12a : (rgOf (opsOf xg37_1)).any = false := by kernel_rfl
theorem xo37_12r : regOk (opsOf xg37_1) = true := by kernel_rfl
theorem xo37_16 : orderIx (opsOf xg37_2) = [0,1,2,3] := by kernel_rfl
theorem xo37_16a : (rgOf (opsOf xg37_2)).any = false := by kernel_rfl
theorem xo37_16r : regOk (opsOf xg37_2) = true := by kernel_rfl
theorem xo37_4 : orderIx (opsOf xg37_3) = [0,1,2,3,4,5,6,7] := by kernel_rfl
theorem xo37_4a : (rgOf (opsOf xg37_3)).any = false := by kernel_rfl
theorem xo37_4r : regOk (opsOf xg37_3) = true := by kernel_rfl
theorem xo37_25 : orderIx (opsOf xg37_5) = [0,1,2,3] := by kernel_rfl
theorem xo37_25a : (rgOf (opsOf xg37_5)).any = false := by kernel_rfl
theorem xo37_25r : regOk (opsOf xg37_5) = true := by kernel_rfl
theorem xo37_24 : orderIx (opsOf xg37_6) = [0,1,2,3,4,5,6,7,8,9,10] := by kernel_rfl
theorem xo37_24a : (rgOf (opsOf xg37_6)).any = false := by kernel_rfl
theorem xo37_24r : regOk (opsOf xg37_6) = true := by kernel_rfl
theorem xo37_7 : orderIx (opsOf xg37_7) = [0,1,2,3,4,5,6,7] := by kernel_rfl
theorem xo37_7a : (rgOf (opsOf xg37_7)).any = false := by kernel_rfl
theorem xo37_7r : regOk (opsOf xg37_7) = true := by kernel_rfl
theorem xb37 (s : Sys) (k wl : Nat) (t0 t1 t2 : V) (h : Hp) : bodyV (xX s 37 wl k false) Try.f37 [t0,t1,t2] h =
  bp (opBox t0 h) fun v1 h2 =>
  bp (opBox t2 h2) fun v3 h4 =>
  bp (some (.own h4.length 0 0,h4 ++ [.rows 0 [] 0 true])) fun v5 h6 =>
  bp (opAlloc s.P 28 h6) fun v7 h8 =>
  bp (callV (xX s 37 wl k false) false true (.fn (.func 50) [] []) [t1] h8) fun v9 h10 =>
  bm (vLoad s.P 23 v1 h10) h10 fun v11 h12 =>
  bm (vLoad s.P 28 v3 h12) h12 fun v13 h14 =>
  bp (callV (xX s 37 wl k false) false true (.fn (.func 38) [] []) [v11,t1,v13] h14) fun v15 h16 =>
  bm (vUn .not v15) h16 fun v17 h18 =>
  cnd v17 (
  bm (vLoad s.P 28 v3 h18) h18 fun v19 h20 =>
  bs (vStore s.P wl 28 v7 v19 h20) fun h21 =>
  resO [some v9,vLoad s.P 28 v7 h21] h21) (
  bm (vFieldAddr s.P 28 v3 1) h18 fun v22 h23 =>
  bm (vLoad s.P 3 v22 h23) h23 fun v24 h25 =>
  bm (vBin s.P .eql 3 v24 (V.lit (Value.int .i64 0))) h25 fun v26 h27 =>
  cnd v26 (
  bp (callV (xX s 37 wl k false) false true (.fn (.func 34) [] []) [v9,(V.lit (Value.int .i64 2))] h27) fun v28 h29 =>
  bm (vFieldAddr s.P 28 v3 4) h29 fun v30 h31 =>
  bs (vStore s.P wl 26 v30 v28 h31) fun h32 =>
  bm (vFieldAddr s.P 28 v3 1) h32 fun v33 h34 =>
  bs (vStore s.P wl 3 v33 (V.lit (Value.int .i64 1)) h34) fun h35 =>
  runK (xX s 37 wl k false) (bodyK s.P Try.f37) xk37_0 .norm ⟨(t0::t1::t2::v1::uu::v3::v5::v7::v9::uu::uu::uu::uu::uu::t1::v9::v11::t1::v13::v15::v17::uu::uu::uu::uu::uu::uu::uu::uu::uu::uu::uu::uu::uu::uu::uu::uu::uu::uu::uu::uu::uu::uu::uu::uu::uu::uu::uu::uu::uu::uu::uu::uu::uu::uu::uu::uu::uu::uu::v26::v22::v24::v26::v9::v28::v30::v33::uu::uu::uu::uu::uu::uu::uu::uu::uu::uu::uu::uu::uu::uu::uu::uu::uu::uu::uu::uu::uu::uu::uu::uu::uu::uu::uu::uu::uu::uu::uu::uu::uu::uu::uu::uu::uu::uu::uu::uu::uu::uu::uu::uu::uu::uu::uu::uu::uu::uu::uu::uu::uu::uu::uu::uu::uu::uu::uu::[]),h35⟩) (
  bm (vFieldAddr s.P 28 v3 1) h27 fun v36 h37 =>
  bm (vLoad s.P 3 v36 h37) h37 fun v38 h39 =>
  bm (vBin s.P .eql 3 v38 (V.lit (Value.int .i64 1))) h39 fun v40 h41 =>
  cnd v40 (
  bp (callV (xX s 37 wl k false) true true (.fn (.func 77) [] []) [] h41) fun v42 h43 =>
  bm (vFieldAddr s.P 28 v3 0) h43 fun v44 h45 =>
  stO h41.length v44 (
  bm (vLoad s.P 3 v44 h45) h45 fun v46 h47 =>
  bm (vLookup s.P 83 v42 v46 false h47) h47 fun v48 h49 =>
  bm (vFieldAddr s.P 28 v3 4) h49 fun v50 h51 =>
  stO h41.length v50 (
  bm (vLoad s.P 26 v50 h51) h51 fun v52 h53 =>
  bp (callV (xX s 37 wl k false) false true v48 [v52] h53) fun v54 h55 =>
  bm (vExtract v54 0) h55 fun v56 h57 =>
  bm (vExtract v54 1) h57 fun v58 h59 =>
  bm (vFieldAddr s.P 28 v3 4) h59 fun v60 h61 =>
  bm (vLoad s.P 26 v60 h61) h61 fun v62 h63 =>
  bp (callV (xX s 37 wl k false) false true (.fn (.func 78) [] []) [v9,(V.lit (Value.int .i64 2)),v62,v56] h63) fun v64 h65 =>
  bm (vExtract v64 0) h65 fun v66 h67 =>
  bm (vExtract v64 1) h67 fun v68 h69 =>
  bm (vFieldAddr s.P 28 v3 1) h69 fun v70 h71 =>
  bs (vStore s.P wl 3 v70 (V.lit (Value.int .i64 0)) h71) fun h72 =>
  bm (vUn .not v68) h72 fun v73 h74 =>
  cnd v73 (
  bm (vLoad s.P 28 v3 h74) h74 fun v75 h76 =>
  bs (vStore s.P wl 28 v7 v75 h76) fun h77 =>
  resO [some v66,vLoad s.P 28 v7 h77] h77) (
  bm (vFieldAddr s.P 28 v3 4) h74 fun v78 h79 =>
  bm (vLoad s.P 26 v78 h79) h79 fun v80 h81 =>
  bp (callV (xX s 37 wl k false) false true (.fn (.func 40) [] []) [v80] h81) fun v82 h83 =>
  bm (vBin s.P .eql 26 v82 (V.lit (Value.int .u64 0))) h83 fun v84 h85 =>
  cnd v84 (
  bm (vLoad s.P 28 v3 h85) h85 fun v86 h87 =>
  bp (callV (xX s 37 wl k false) false true (.fn (.func 79) [] []) [v86,(V.lit (Value.int .i64 3)),(V.lit (Value.int .u64 0))] h87) fun v88 h89 =>
  bs (vStore s.P wl 28 v7 v88 h89) fun h90 =>
  resO [some v66,vLoad s.P 28 v7 h90] h90) (
  bm (vFieldAddr s.P 28 v3 5) h85 fun v91 h92 =>
  bs (vStore s.P wl 26 v91 v58 h92) fun h93 =>
  bm (vFieldAddr s.P 28 v3 1) h93 fun v94 h95 =>
  bs (vStore s.P wl 3 v94 (V.lit (Value.int .i64 2)) h95) fun h96 =>
  runK (xX s 37 wl k false) (bodyK s.P Try.f37) xk37_0 .norm ⟨(t0::t1::t2::v1::uu::v3::v5::v7::v66::v56::v58::v66::v68::uu::t1::v9::v11::t1::v13::v15::v17::uu::uu::uu::uu::uu::uu::uu::uu::uu::uu::uu::uu::uu::uu::uu::uu::uu::uu::uu::uu::uu::uu::uu::uu::uu::uu::uu::uu::uu::uu::uu::uu::uu::uu::uu::uu::uu::uu::v26::v22::v24::v26::uu::uu::uu::uu::v40::v36::v38::v40::v54::v42::v44::v46::v48::v50::v52::v54::v56::v58::v64::v9::v60::v62::v56::v64::v66::v68::v66::v70::v68::v73::uu::uu::v78::v80::v82::v84::uu::uu::uu::v58::v91::v94::uu::uu::uu::uu::uu::uu::uu::uu::uu::uu::uu::uu::uu::uu::uu::uu::uu::uu::uu::uu::uu::[]),h96⟩))))) (
  bm (vFieldAddr s.P 28 v3 0) h41 fun v97 h98 =>
  bm (vLoad s.P 3 v97 h98) h98 fun v99 h100 =>
  bm (vBin s.P .eql 3 v99 (V.lit (Value.int .i64 6))) h100 fun v101 h102 =>
  cnd v101 (
  bm (vFieldAddr s.P 28 v3 5) h102 fun v103 h104 =>
  bm (vLoad s.P 26 v103 h104) h104 fun v105 h106 =>
  bm (vBin s.P .lss 26 v105 (V.lit (Value.int .u64 8))) h106 fun v107 h108 =>
  cnd v107 (
  bm (vFieldAddr s.P 28 v3 5) h108 fun v109 h110 =>
  bm (vLoad s.P 26 v109 h110) h110 fun v111 h112 =>
  bm (vConv s.P 26 3 v111) h112 fun v113 h114 =>
  runK (xX s 37 wl k false) (bodyK s.P Try.f37) xk37_1 .norm ⟨(t0::t1::t2::v1::uu::v3::v5::v7::v9::uu::uu::uu::uu::v113::t1::v9::v11::t1::v13::v15::v17::uu::uu::uu::uu::uu::uu::uu::uu::uu::uu::uu::uu::uu::uu::uu::uu::uu::uu::uu::uu::uu::uu::uu::uu::uu::uu::uu::uu::uu::uu::uu::uu::uu::uu::uu::uu::uu::uu::v26::v22::v24::v26::uu::uu::uu::uu::v40::v36::v38::v40::uu::uu::uu::uu::uu::uu::uu::uu::uu::uu::uu::uu::uu::uu::uu::uu::uu::uu::uu::uu::uu::uu::uu::uu::uu::uu::uu::uu::uu::uu::uu::uu::uu::uu::v101::v97::v99::v101::v103::v105::v107::v109::v111::v113::uu::uu::uu::uu::uu::uu::uu::uu::uu::uu::uu::[]),h114⟩) (
  runK (xX s 37 wl k false) (bodyK s.P Try.f37) xk37_1 .norm ⟨(t0::t1::t2::v1::uu::v3::v5::v7::v9::uu::uu::uu::uu::(V.lit (Value.int .i64 (-1)))::t1::v9::v11::t1::v13::v15::v17::uu::uu::uu::uu::uu::uu::uu::uu::uu::uu::uu::uu::uu::uu::uu::uu::uu::uu::uu::uu::uu::uu::uu::uu::uu::uu::uu::uu::uu::uu::uu::uu::uu::uu::uu::uu::uu::uu::v26::v22::v24::v26::uu::uu::uu::uu::v40::v36::v38::v40::uu::uu::uu::uu::uu::uu::uu::uu::uu::uu::uu::uu::uu::uu::uu::uu::uu::uu::uu::uu::uu::uu::uu::uu::uu::uu::uu::uu::uu::uu::uu::uu::uu::uu::v101::v97::v99::v101::v103::v105::v107::uu::uu::uu::uu::uu::uu::uu::uu::uu::uu::uu::uu::uu::uu::[]),h108⟩)) (
  stO h102.length v1 (
  bm (vLoad s.P 23 v1 h102) h102 fun v115 h116 =>
  bm (vFieldAddr s.P 28 v3 5) h116 fun v117 h118 =>
  bm (vLoad s.P 26 v117 h118) h118 fun v119 h120 =>
  bp (callV (xX s 37 wl k false) true true (.fn (.func 42) [] []) [v119] h120) fun v121 h122 =>
  bp (opBuildSliceC s.P wl 51 1 [(0,v121)] h122) fun v123 h124 =>
  bp (callV (xX s 37 wl k false) false true (.fn (.func 80) [] []) [v115,v9,v123] h124) fun v125 h126 =>
  bm (vFieldAddr s.P 28 v3 5) h126 fun v127 h128 =>
  bm (vLoad s.P 26 v127 h128) h128 fun v129 h130 =>
  bp (callV (xX s 37 wl k false) false true (.fn (.func 40) [] []) [v129] h130) fun v131 h132 =>
  bm (vFieldAddr s.P 28 v3 5) h132 fun v133 h134 =>
  bs (vStore s.P wl 26 v133 v131 h134) fun h135 =>
  bm (vFieldAddr s.P 28 v3 5) h135 fun v136 h137 =>
  bm (vLoad s.P 26 v136 h137) h137 fun v138 h139 =>
  bm (vFieldAddr s.P 28 v3 5) h139 fun v140 h141 =>
  bm (vLoad s.P 26 v140 h141) h141 fun v142 h143 =>
  bm (vBin s.P .sub 26 v142 (V.lit (Value.int .u64 1))) h143 fun v144 h145 =>
  bm (vBin s.P .and 26 v138 v144) h145 fun v146 h147 =>
  bm (vBin s.P .eql 26 v146 (V.lit (Value.int .u64 0))) h147 fun v148 h149 =>
  gd v148 (
  opsP (xX s 37 wl k false) xg37_4 11 h135.length ([],[]) (runK (xX s 37 wl k false) (bodyK s.P Try.f37) xk37_2) ⟨(t0::t1::t2::v1::uu::v3::v5::v7::v125::uu::uu::uu::uu::uu::t1::v9::v11::t1::v13::v15::v17::uu::uu::v115::v9::v117::v119::v121::v123::v125::v127::v129::v131::v133::v136::v138::v140::v142::v144::v146::v148::(V.lit (Value.bool true))::uu::uu::uu::uu::uu::uu::uu::uu::uu::uu::uu::uu::uu::uu::uu::uu::uu::v26::v22::v24::v26::uu::uu::uu::uu::v40::v36::v38::v40::uu::uu::uu::uu::uu::uu::uu::uu::uu::uu::uu::uu::uu::uu::uu::uu::uu::uu::uu::uu::uu::uu::uu::uu::uu::uu::uu::uu::uu::uu::uu::uu::uu::uu::v101::v97::v99::v101::uu::uu::uu::uu::uu::uu::uu::uu::uu::uu::uu::uu::uu::uu::uu::uu::uu::[]),h149⟩) (
  bm (vFieldAddr s.P 28 v3 5) h149 fun v150 h151 =>
  bm (vLoad s.P 26 v150 h151) h151 fun v152 h153 =>
  bm (vBin s.P .eql 26 v152 (V.lit (Value.int .u64 0))) h153 fun v154 h155 =>
  opsP (xX s 37 wl k false) xg37_4 11 h135.length ([],[]) (runK (xX s 37 wl k false) (bodyK s.P Try.f37) xk37_2) ⟨(t0::t1::t2::v1::uu::v3::v5::v7::v125::uu::uu::uu::uu::uu::t1::v9::v11::t1::v13::v15::v17::uu::uu::v115::v9::v117::v119::v121::v123::v125::v127::v129::v131::v133::v136::v138::v140::v142::v144::v146::v148::(V.lit (Value.bool false))::v150::v152::v154::uu::uu::uu::uu::uu::uu::uu::uu::uu::uu::uu::uu::uu::uu::v26::v22::v24::v26::uu::uu::uu::uu::v40::v36::v38::v40::uu::uu::uu::uu::uu::uu::uu::uu::uu::uu::uu::uu::uu::uu::uu::uu::uu::uu::uu::uu::uu::uu::uu::uu::uu::uu::uu::uu::uu::uu::uu::uu::uu::uu::v101::v97::v99::v101::uu::uu::uu::uu::uu::uu::uu::uu::uu::uu::uu::uu::uu::uu::uu::uu::uu::[]),h155⟩) (
  opsP (xX s 37 wl k false) xg37_4 9 h135.length ([],[]) (runK (xX s 37 wl k false) (bodyK s.P Try.f37) xk37_2) ⟨(t0::t1::t2::v1::uu::v3::v5::v7::v125::uu::uu::uu::uu::uu::t1::v9::v11::t1::v13::v15::v17::uu::uu::v115::v9::v117::v119::v121::v123::v125::v127::v129::v131::v133::v136::v138::v140::v142::v144::v146::v148::v148::uu::uu::uu::uu::uu::uu::uu::uu::uu::uu::uu::uu::uu::uu::uu::uu::uu::v26::v22::v24::v26::uu::uu::uu::uu::v40::v36::v38::v40::uu::uu::uu::uu::uu::uu::uu::uu::uu::uu::uu::uu::uu::uu::uu::uu::uu::uu::uu::uu::uu::uu::uu::uu::uu::uu::uu::uu::uu::uu::uu::uu::uu::uu::v101::v97::v99::v101::uu::uu::uu::uu::uu::uu::uu::uu::uu::uu::uu::uu::uu::uu::uu::uu::uu::[]),h149⟩)))))) :=
  bodyV_run rfl (go_seq (go_reg0
  (go_op0 rfl rfl (st_bp (by kernel_rfl) fun v1 h2 =>
  (go_op0 rfl rfl (st_bp (by kernel_rfl) fun v3 h4 =>
  (go_op0 rfl rfl (st_bp (by kernel_rfl) fun v5 h6 =>
  (go_op0 rfl rfl (st_bp (by kernel_rfl) fun v7 h8 =>
  (go_end0 (by kernel_rfl)
  (go_seq (go_reg0
  (go_op0 rfl rfl (st_id (v := t1) (H := h8) (by kernel_rfl)
  (go_op0 rfl rfl (st_bp (by kernel_rfl) fun v9 h10 =>
  (go_op0 rfl rfl (st_id (v := v9) (H := h10) (by kernel_rfl)
  (go_end0 (by kernel_rfl)
  (go_seq (go_seq (go_reg0
  (go_op0 rfl rfl (st_bm (by kernel_rfl) fun v11 h12 =>
  (go_op0 rfl rfl (st_id (v := t1) (H := h12) (by kernel_rfl)
  (go_op0 rfl rfl (st_bm (by kernel_rfl) fun v13 h14 =>
  (go_op0 rfl rfl (st_bp (by kernel_rfl) fun v15 h16 =>
  (go_op0 rfl rfl (st_bm (by kernel_rfl) fun v17 h18 =>
  (go_end0 (by kernel_rfl)
  (go_cond (by kernel_rfl)
  (go_seq (go_reg1 xo37_3r
  (go_op1 xo37_3 xo37_3a rfl rfl rfl (st_no (by kernel_rfl) (st_id (v := v9) (H := h18) (by kernel_rfl)
  (go_op1 xo37_3 xo37_3a rfl rfl rfl (st_no (by kernel_rfl) (st_bm (by kernel_rfl) fun v19 h20 =>
  (go_op1 xo37_3 xo37_3a rfl rfl rfl (st_no (by kernel_rfl) (st_id (v := v9) (H := h20) (by kernel_rfl)
  (go_op1 xo37_3 xo37_3a rfl rfl rfl (st_no (by kernel_rfl) (st_bs (by kernel_rfl) fun h21 =>
  (go_end1 xo37_3 (by kernel_rfl) xo37_3a
  (go_ret (rt_seq_ret (by kernel_rfl))))))))))))))))))
  (go_skip (go_seq (go_block (go_seq (go_reg0
  (go_op0 rfl rfl (st_bm (by kernel_rfl) fun v22 h23 =>
  (go_op0 rfl rfl (st_bm (by kernel_rfl) fun v24 h25 =>
  (go_op0 rfl rfl (st_bm (by kernel_rfl) fun v26 h27 =>
  (go_op0 rfl rfl (st_id (v := v26) (H := h27) (by kernel_rfl)
  (go_end0 (by kernel_rfl)
  (go_cond (by kernel_rfl)
  (go_reg0
  (go_op0 rfl rfl (st_id (v := v9) (H := h27) (by kernel_rfl)
  (go_op0 rfl rfl (st_bp (by kernel_rfl) fun v28 h29 =>
  (go_op0 rfl rfl (st_bm (by kernel_rfl) fun v30 h31 =>
  (go_op0 rfl rfl (st_bs (by kernel_rfl) fun h32 =>
  (go_op0 rfl rfl (st_bm (by kernel_rfl) fun v33 h34 =>
  (go_op0 rfl rfl (st_bs (by kernel_rfl) fun h35 =>
  (go_end0 (by kernel_rfl)
  (by kernel_rfl)))))))))))))))
  (go_seq (go_reg0
  (go_op0 rfl rfl (st_bm (by kernel_rfl) fun v36 h37 =>
  (go_op0 rfl rfl (st_bm (by kernel_rfl) fun v38 h39 =>
  (go_op0 rfl rfl (st_bm (by kernel_rfl) fun v40 h41 =>
  (go_op0 rfl rfl (st_id (v := v40) (H := h41) (by kernel_rfl)
  (go_end0 (by kernel_rfl)
  (go_cond (by kernel_rfl)
  (go_seq (go_reg1 xo37_12r
  (go_op1 xo37_12 xo37_12a rfl rfl rfl (st_no (by kernel_rfl) (st_bp (by kernel_rfl) fun v42 h43 =>
  (go_op1 xo37_12 xo37_12a rfl rfl rfl (st_no (by kernel_rfl) (st_bm (by kernel_rfl) fun v44 h45 =>
  (go_op1 xo37_12 xo37_12a rfl rfl rfl (st_yes (by kernel_rfl) (st_bm (by kernel_rfl) fun v46 h47 =>
  (go_op1 xo37_12 xo37_12a rfl rfl rfl (st_no (by kernel_rfl) (st_bm (by kernel_rfl) fun v48 h49 =>
  (go_op1 xo37_12 xo37_12a rfl rfl rfl (st_no (by kernel_rfl) (st_bm (by kernel_rfl) fun v50 h51 =>
  (go_op1 xo37_12 xo37_12a rfl rfl rfl (st_yes (by kernel_rfl) (st_bm (by kernel_rfl) fun v52 h53 =>
  (go_op1 xo37_12 xo37_12a rfl rfl rfl (st_no (by kernel_rfl) (st_bp (by kernel_rfl) fun v54 h55 =>
  (go_op1 xo37_12 xo37_12a rfl rfl rfl (st_no (by kernel_rfl) (st_id (v := v54) (H := h55) (by kernel_rfl)
  (go_op1 xo37_12 xo37_12a rfl rfl rfl (st_no (by kernel_rfl) (st_bm (by kernel_rfl) fun v56 h57 =>
  (go_op1 xo37_12 xo37_12a rfl rfl rfl (st_no (by kernel_rfl) (st_bm (by kernel_rfl) fun v58 h59 =>
  (go_op1 xo37_12 xo37_12a rfl rfl rfl (st_no (by kernel_rfl) (st_id (v := v56) (H := h59) (by kernel_rfl)
  (go_op1 xo37_12 xo37_12a rfl rfl rfl (st_no (by kernel_rfl) (st_id (v := v58) (H := h59) (by kernel_rfl)
  (go_end1 xo37_12 (by kernel_rfl) xo37_12a
  (go_seq (go_reg0
  (go_op0 rfl rfl (st_id (v := v9) (H := h59) (by kernel_rfl)
  (go_op0 rfl rfl (st_bm (by kernel_rfl) fun v60 h61 =>
  (go_op0 rfl rfl (st_bm (by kernel_rfl) fun v62 h63 =>
  (go_op0 rfl rfl (st_id (v := v56) (H := h63) (by kernel_rfl)
  (go_op0 rfl rfl (st_bp (by kernel_rfl) fun v64 h65 =>
  (go_op0 rfl rfl (st_id (v := v64) (H := h65) (by kernel_rfl)
  (go_op0 rfl rfl (st_bm (by kernel_rfl) fun v66 h67 =>
  (go_op0 rfl rfl (st_bm (by kernel_rfl) fun v68 h69 =>
  (go_op0 rfl rfl (st_id (v := v66) (H := h69) (by kernel_rfl)
  (go_op0 rfl rfl (st_id (v := v68) (H := h69) (by kernel_rfl)
  (go_end0 (by kernel_rfl)
  (go_seq (go_seq (go_reg0
  (go_op0 rfl rfl (st_id (v := v66) (H := h69) (by kernel_rfl)
  (go_op0 rfl rfl (st_id (v := v66) (H := h69) (by kernel_rfl)
  (go_op0 rfl rfl (st_bm (by kernel_rfl) fun v70 h71 =>
  (go_op0 rfl rfl (st_bs (by kernel_rfl) fun h72 =>
  (go_end0 (by kernel_rfl)
  (go_seq (go_reg0
  (go_op0 rfl rfl (st_id (v := v68) (H := h72) (by kernel_rfl)
  (go_op0 rfl rfl (st_bm (by kernel_rfl) fun v73 h74 =>
  (go_end0 (by kernel_rfl)
  (go_cond (by kernel_rfl)
  (go_seq (go_reg1 xo37_16r
  (go_op1 xo37_16 xo37_16a rfl rfl rfl (st_no (by kernel_rfl) (st_id (v := v66) (H := h74) (by kernel_rfl)
  (go_op1 xo37_16 xo37_16a rfl rfl rfl (st_no (by kernel_rfl) (st_bm (by kernel_rfl) fun v75 h76 =>
  (go_op1 xo37_16 xo37_16a rfl rfl rfl (st_no (by kernel_rfl) (st_id (v := v66) (H := h76) (by kernel_rfl)
  (go_op1 xo37_16 xo37_16a rfl rfl rfl (st_no (by kernel_rfl) (st_bs (by kernel_rfl) fun h77 =>
  (go_end1 xo37_16 (by kernel_rfl) xo37_16a
  (go_ret (rt_seq_ret (rt_block_ret (rt_seq_ret (by kernel_rfl))))))))))))))))))))
  (go_skip (go_seq (go_seq (go_reg0
  (go_op0 rfl rfl (st_bm (by kernel_rfl) fun v78 h79 =>
  (go_op0 rfl rfl (st_bm (by kernel_rfl) fun v80 h81 =>
  (go_op0 rfl rfl (st_bp (by kernel_rfl) fun v82 h83 =>
  (go_op0 rfl rfl (st_bm (by kernel_rfl) fun v84 h85 =>
  (go_end0 (by kernel_rfl)
  (go_cond (by kernel_rfl)
  (go_seq (go_reg0
  (go_op0 rfl rfl (st_id (v := v66) (H := h85) (by kernel_rfl)
  (go_op0 rfl rfl (st_bm (by kernel_rfl) fun v86 h87 =>
  (go_op0 rfl rfl (st_bp (by kernel_rfl) fun v88 h89 =>
  (go_op0 rfl rfl (st_id (v := v66) (H := h89) (by kernel_rfl)
  (go_op0 rfl rfl (st_bs (by kernel_rfl) fun h90 =>
  (go_end0 (by kernel_rfl)
  (go_ret (rt_seq_ret (rt_block_ret (rt_seq_ret (by kernel_rfl))))))))))))))))))
  (go_skip (go_reg0
  (go_op0 rfl rfl (st_id (v := v58) (H := h85) (by kernel_rfl)
  (go_op0 rfl rfl (st_bm (by kernel_rfl) fun v91 h92 =>
  (go_op0 rfl rfl (st_bs (by kernel_rfl) fun h93 =>
  (go_op0 rfl rfl (st_bm (by kernel_rfl) fun v94 h95 =>
  (go_op0 rfl rfl (st_bs (by kernel_rfl) fun h96 =>
  (go_end0 (by kernel_rfl)
  (by kernel_rfl))))))))))))))))))))))))))))))))))))))))))))))))))))))))))))))))))))))))))))))))))))))))))))))))))))))))))))))
  (go_seq (go_reg0
  (go_op0 rfl rfl (st_bm (by kernel_rfl) fun v97 h98 =>
  (go_op0 rfl rfl (st_bm (by kernel_rfl) fun v99 h100 =>
  (go_op0 rfl rfl (st_bm (by kernel_rfl) fun v101 h102 =>
  (go_op0 rfl rfl (st_id (v := v101) (H := h102) (by kernel_rfl)
  (go_end0 (by kernel_rfl)
  (go_cond (by kernel_rfl)
  (go_seq (go_reg0
  (go_op0 rfl rfl (st_id (v := (V.lit (Value.int .i64 (-1)))) (H := h102) (by kernel_rfl)
  (go_end0 (by kernel_rfl)
  (go_seq (go_seq (go_reg0
  (go_op0 rfl rfl (st_bm (by kernel_rfl) fun v103 h104 =>
  (go_op0 rfl rfl (st_bm (by kernel_rfl) fun v105 h106 =>
  (go_op0 rfl rfl (st_bm (by kernel_rfl) fun v107 h108 =>
  (go_end0 (by kernel_rfl)
  (go_cond (by kernel_rfl)
  (go_reg0
  (go_op0 rfl rfl (st_bm (by kernel_rfl) fun v109 h110 =>
  (go_op0 rfl rfl (st_bm (by kernel_rfl) fun v111 h112 =>
  (go_op0 rfl rfl (st_bm (by kernel_rfl) fun v113 h114 =>
  (go_op0 rfl rfl (st_id (v := v113) (H := h114) (by kernel_rfl)
  (go_end0 (by kernel_rfl)
  (by kernel_rfl)))))))))))
  (go_skip (by kernel_rfl))))))))))))))))))
  (go_seq (go_reg1 xo37_4r
  (go_op1 xo37_4 xo37_4a rfl rfl rfl (st_yes (by kernel_rfl) (st_bm (by kernel_rfl) fun v115 h116 =>
  (go_op1 xo37_4 xo37_4a rfl rfl rfl (st_no (by kernel_rfl) (st_id (v := v9) (H := h116) (by kernel_rfl)
  (go_op1 xo37_4 xo37_4a rfl rfl rfl (st_no (by kernel_rfl) (st_bm (by kernel_rfl) fun v117 h118 =>
  (go_op1 xo37_4 xo37_4a rfl rfl rfl (st_no (by kernel_rfl) (st_bm (by kernel_rfl) fun v119 h120 =>
  (go_op1 xo37_4 xo37_4a rfl rfl rfl (st_no (by kernel_rfl) (st_bp (by kernel_rfl) fun v121 h122 =>
  (go_op1 xo37_4 xo37_4a rfl rfl rfl (st_no (by kernel_rfl) (st_bp (by kernel_rfl) fun v123 h124 =>
  (go_op1 xo37_4 xo37_4a rfl rfl rfl (st_no (by kernel_rfl) (st_bp (by kernel_rfl) fun v125 h126 =>
  (go_op1 xo37_4 xo37_4a rfl rfl rfl (st_no (by kernel_rfl) (st_id (v := v125) (H := h126) (by kernel_rfl)
  (go_end1 xo37_4 (by kernel_rfl) xo37_4a
  (go_seq (go_seq (go_reg0
  (go_op0 rfl rfl (st_bm (by kernel_rfl) fun v127 h128 =>
  (go_op0 rfl rfl (st_bm (by kernel_rfl) fun v129 h130 =>
  (go_op0 rfl rfl (st_bp (by kernel_rfl) fun v131 h132 =>
  (go_op0 rfl rfl (st_bm (by kernel_rfl) fun v133 h134 =>
  (go_op0 rfl rfl (st_bs (by kernel_rfl) fun h135 =>
  (go_end0 (by kernel_rfl)
  (go_seq (go_reg0
  (go_op0 rfl rfl (st_bm (by kernel_rfl) fun v136 h137 =>
  (go_op0 rfl rfl (st_bm (by kernel_rfl) fun v138 h139 =>
  (go_op0 rfl rfl (st_bm (by kernel_rfl) fun v140 h141 =>
  (go_op0 rfl rfl (st_bm (by kernel_rfl) fun v142 h143 =>
  (go_op0 rfl rfl (st_bm (by kernel_rfl) fun v144 h145 =>
  (go_op0 rfl rfl (st_bm (by kernel_rfl) fun v146 h147 =>
  (go_op0 rfl rfl (st_bm (by kernel_rfl) fun v148 h149 =>
  (go_op0 rfl rfl (st_id (v := v148) (H := h149) (by kernel_rfl)
  (go_gdF0 rfl rfl rfl (by kernel_rfl)
  (go_skip0 rfl rfl rfl (by kernel_rfl)
  (go_skip0 rfl rfl rfl (by kernel_rfl)
  (by kernel_rfl)))
  (st_bm (by kernel_rfl) fun v150 h151 =>
  (go_run0 rfl rfl rfl (by kernel_rfl) (st_bm (by kernel_rfl) fun v152 h153 =>
  (go_run0 rfl rfl rfl (by kernel_rfl) (st_bm (by kernel_rfl) fun v154 h155 =>
  (by kernel_rfl))))))
  (by kernel_rfl)))))))))))))))))))))))))))))))))))))))))))))))))))))))))))))))))))))))))))))))))))))))))))))))))))))))))))))))))))))))))))))))))))))))
theorem xe37 (k wl : Nat) (t0 t1 t2 : V) (h : Hp) : evF Try.prog xM (k + 1) wl 37 [t0,t1,t2] h = bodyV (xX (xS k) 37 wl k false) Try.f37 [t0,t1,t2] h := by kernel_rfl
theorem xj37_0 (s : Sys) (k wl : Nat) (t0 t1 t2 t3 t4 t5 t6 t7 t8 t9 t10 t11 t12 t13 t14 t15 t16 t17 t18 t19 t20 t21 t22 t23 t24 t25 t26 t27 t28 t29 t30 t31 t32 t33 t34 t35 t36 t37 t38 t39 t40 t41 t42 t43 t44 t45 t46 t47 t48 t49 t50 t51 t52 t53 t54 t55 t56 t57 t58 t59 t60 t61 t62 t63 t64 t65 t66 t67 t68 t69 t70 t71 t72 t73 t74 t75 t76 t77 t78 t79 t80 t81 t82 t83 t84 t85 t86 t87 t88 t89 t90 t91 t92 t93 t94 t95 t96 t97 t98 t99 t100 t101 t102 t103 t104 t105 t106 t107 t108 t109 t110 t111 t112 t113 t114 t115 t116 t117 t118 t119 t120 t121 t122 t123 t124 t125 : V) (h : Hp) : runK (xX s 37 wl k false) (bodyK s.P Try.f37) xk37_0 .norm ⟨(t0::t1::t2::t3::t4::t5::t6::t7::t8::t9::t10::t11::t12::t13::t14::t15::t16::t17::t18::t19::t20::t21::t22::t23::t24::t25::t26::t27::t28::t29::t30::t31::t32::t33::t34::t35::t36::t37::t38::t39::t40::t41::t42::t43::t44::t45::t46::t47::t48::t49::t50::t51::t52::t53::t54::t55::t56::t57::t58::t59::t60::t61::t62::t63::t64::t65::t66::t67::t68::t69::t70::t71::t72::t73::t74::t75::t76::t77::t78::t79::t80::t81::t82::t83::t84::t85::t86::t87::t88::t89::t90::t91::t92::t93::t94::t95::t96::t97::t98::t99::t100::t101::t102::t103::t104::t105::t106::t107::t108::t109::t110::t111::t112::t113::t114::t115::t116::t117::t118::t119::t120::t121::t122::t123::t124::t125::[]),h⟩ =
  bm (vLoad s.P 28 t5 h) h fun v156 h157 =>
  bs (vStore s.P wl 28 t7 v156 h157) fun h158 =>
  resO [some t8,vLoad s.P 28 t7 h158] h158 :=
  (rt_block_norm (go_seq (go_reg1 xo37_25r
  (go_op1 xo37_25 xo37_25a rfl rfl rfl (st_no (by kernel_rfl) (st_id (v := t8) (H := h) (by kernel_rfl)
  (go_op1 xo37_25 xo37_25a rfl rfl rfl (st_no (by kernel_rfl) (st_bm (by kernel_rfl) fun v156 h157 =>
  (go_op1 xo37_25 xo37_25a rfl rfl rfl (st_no (by kernel_rfl) (st_id (v := t8) (H := h157) (by kernel_rfl)
  (go_op1 xo37_25 xo37_25a rfl rfl rfl (st_no (by kernel_rfl) (st_bs (by kernel_rfl) fun h158 =>
  (go_end1 xo37_25 (by kernel_rfl) xo37_25a
  (go_ret (by kernel_rfl))))))))))))))))))
theorem xj37_1 (s : Sys) (k wl : Nat) (t0 t1 t2 t3 t4 t5 t6 t7 t8 t9 t10 t11 t12 t13 t14 t15 t16 t17 t18 t19 t20 t21 t22 t23 t24 t25 t26 t27 t28 t29 t30 t31 t32 t33 t34 t35 t36 t37 t38 t39 t40 t41 t42 t43 t44 t45 t46 t47 t48 t49 t50 t51 t52 t53 t54 t55 t56 t57 t58 t59 t60 t61 t62 t63 t64 t65 t66 t67 t68 t69 t70 t71 t72 t73 t74 t75 t76 t77 t78 t79 t80 t81 t82 t83 t84 t85 t86 t87 t88 t89 t90 t91 t92 t93 t94 t95 t96 t97 t98 t99 t100 t101 t102 t103 t104 t105 t106 t107 t108 t109 t110 t111 t112 t113 t114 t115 t116 t117 t118 t119 t120 t121 t122 t123 t124 t125 : V) (h : Hp) : runK (xX s 37 wl k false) (bodyK s.P Try.f37) xk37_1 .norm ⟨(t0::t1::t2::t3::t4::t5::t6::t7::t8::t9::t10::t11::t12::t13::t14::t15::t16::t17::t18::t19::t20::t21::t22::t23::t24::t25::t26::t27::t28::t29::t30::t31::t32::t33::t34::t35::t36::t37::t38::t39::t40::t41::t42::t43::t44::t45::t46::t47::t48::t49::t50::t51::t52::t53::t54::t55::t56::t57::t58::t59::t60::t61::t62::t63::t64::t65::t66::t67::t68::t69::t70::t71::t72::t73::t74::t75::t76::t77::t78::t79::t80::t81::t82::t83::t84::t85::t86::t87::t88::t89::t90::t91::t92::t93::t94::t95::t96::t97::t98::t99::t100::t101::t102::t103::t104::t105::t106::t107::t108::t109::t110::t111::t112::t113::t114::t115::t116::t117::t118::t119::t120::t121::t122::t123::t124::t125::[]),h⟩ =
  stO h.length t3 (
  bm (vLoad s.P 23 t3 h) h fun v159 h160 =>
  bp (opBuildSliceC s.P wl 51 1 [(0,t13)] h160) fun v161 h162 =>
  bp (callV (xX s 37 wl k false) true true (.fn (.func 80) [] []) [v159,t8,v161] h162) fun v163 h164 =>
  stO h.length t5 (
  bm (vLoad s.P 28 t5 h164) h164 fun v165 h166 =>
  bm (vFieldAddr s.P 28 t5 5) h166 fun v167 h168 =>
  stO h.length v167 (
  bm (vLoad s.P 26 v167 h168) h168 fun v169 h170 =>
  bp (callV (xX s 37 wl k false) false true (.fn (.func 79) [] []) [v165,(V.lit (Value.int .i64 1)),v169] h170) fun v171 h172 =>
  bs (vStore s.P wl 28 t7 v171 h172) fun h173 =>
  resO [some v163,vLoad s.P 28 t7 h173] h173))) :=
  (go_seq (go_reg1 xo37_24r
  (go_op1 xo37_24 xo37_24a rfl rfl rfl (st_yes (by kernel_rfl) (st_bm (by kernel_rfl) fun v159 h160 =>
  (go_op1 xo37_24 xo37_24a rfl rfl rfl (st_no (by kernel_rfl) (st_id (v := t8) (H := h160) (by kernel_rfl)
  (go_op1 xo37_24 xo37_24a rfl rfl rfl (st_no (by kernel_rfl) (st_id (v := t13) (H := h160) (by kernel_rfl)
  (go_op1 xo37_24 xo37_24a rfl rfl rfl (st_no (by kernel_rfl) (st_bp (by kernel_rfl) fun v161 h162 =>
  (go_op1 xo37_24 xo37_24a rfl rfl rfl (st_no (by kernel_rfl) (st_bp (by kernel_rfl) fun v163 h164 =>
  (go_op1 xo37_24 xo37_24a rfl rfl rfl (st_yes (by kernel_rfl) (st_bm (by kernel_rfl) fun v165 h166 =>
  (go_op1 xo37_24 xo37_24a rfl rfl rfl (st_no (by kernel_rfl) (st_bm (by kernel_rfl) fun v167 h168 =>
  (go_op1 xo37_24 xo37_24a rfl rfl rfl (st_yes (by kernel_rfl) (st_bm (by kernel_rfl) fun v169 h170 =>
  (go_op1 xo37_24 xo37_24a rfl rfl rfl (st_no (by kernel_rfl) (st_bp (by kernel_rfl) fun v171 h172 =>
  (go_op1 xo37_24 xo37_24a rfl rfl rfl (st_no (by kernel_rfl) (st_id (v := v163) (H := h172) (by kernel_rfl)
  (go_op1 xo37_24 xo37_24a rfl rfl rfl (st_no (by kernel_rfl) (st_bs (by kernel_rfl) fun h173 =>
  (go_end1 xo37_24 (by kernel_rfl) xo37_24a
  (go_ret (rt_block_ret (rt_seq_ret (by kernel_rfl))))))))))))))))))))))))))))))))))))))))
theorem xm37_2 (s : Sys) (k wl : Nat) (m0 : Nat) (ac : List Nat × List Nat) (t0 t1 t2 t3 t4 t5 t6 t7 t8 t9 t10 t11 t12 t13 t14 t15 t16 t17 t18 t19 t20 t21 t22 t23 t24 t25 t26 t27 t28 t29 t30 t31 t32 t33 t34 t35 t36 t37 t38 t39 t40 t41 t42 t43 t44 t45 t46 t47 t48 t49 t50 t51 t52 t53 t54 t55 t56 t57 t58 t59 t60 t61 t62 t63 t64 t65 t66 t67 t68 t69 t70 t71 t72 t73 t74 t75 t76 t77 t78 t79 t80 t81 t82 t83 t84 t85 t86 t87 t88 t89 t90 t91 t92 t93 t94 t95 t96 t97 t98 t99 t100 t101 t102 t103 t104 t105 t106 t107 t108 t109 t110 t111 t112 t113 t114 t115 t116 t117 t118 t119 t120 t121 t122 t123 t124 t125 : V) (h : Hp) : opsP (xX s 37 wl k false) xg37_4 11 m0 ac (runK (xX s 37 wl k false) (bodyK s.P Try.f37) xk37_2) ⟨(t0::t1::t2::t3::t4::t5::t6::t7::t8::t9::t10::t11::t12::t13::t14::t15::t16::t17::t18::t19::t20::t21::t22::t23::t24::t25::t26::t27::t28::t29::t30::t31::t32::t33::t34::t35::t36::t37::t38::t39::t40::t41::t42::t43::t44::t45::t46::t47::t48::t49::t50::t51::t52::t53::t54::t55::t56::t57::t58::t59::t60::t61::t62::t63::t64::t65::t66::t67::t68::t69::t70::t71::t72::t73::t74::t75::t76::t77::t78::t79::t80::t81::t82::t83::t84::t85::t86::t87::t88::t89::t90::t91::t92::t93::t94::t95::t96::t97::t98::t99::t100::t101::t102::t103::t104::t105::t106::t107::t108::t109::t110::t111::t112::t113::t114::t115::t116::t117::t118::t119::t120::t121::t122::t123::t124::t125::[]),h⟩ =
  bm (vPick t41 (V.lit (Value.bool true)) t44) h fun v174 h175 =>
  cnd v174 (
  stO h175.length t5 (
  bm (vLoad s.P 28 t5 h175) h175 fun v176 h177 =>
  bm (vFieldAddr s.P 28 t5 4) h177 fun v178 h179 =>
  bm (vLoad s.P 26 v178 h179) h179 fun v180 h181 =>
  bp (callV (xX s 37 wl k false) true true (.fn (.func 40) [] []) [v180] h181) fun v182 h183 =>
  bp (callV (xX s 37 wl k false) false true (.fn (.func 79) [] []) [v176,(V.lit (Value.int .i64 1)),v182] h183) fun v184 h185 =>
  bs (vStore s.P wl 28 t7 v184 h185) fun h186 =>
  resO [some t8,vLoad s.P 28 t7 h186] h186)) (
  bm (vFieldAddr s.P 28 t5 5) h175 fun v187 h188 =>
  bm (vLoad s.P 26 v187 h188) h188 fun v189 h190 =>
  bm (vFieldAddr s.P 28 t5 5) h190 fun v191 h192 =>
  bm (vLoad s.P 26 v191 h192) h192 fun v193 h194 =>
  bm (vBin s.P .sub 26 v193 (V.lit (Value.int .u64 1))) h194 fun v195 h196 =>
  bm (vBin s.P .and 26 v189 v195) h196 fun v197 h198 =>
  bm (vFieldAddr s.P 28 t5 5) h198 fun v199 h200 =>
  bs (vStore s.P wl 26 v199 v197 h200) fun h201 =>
  runK (xX s 37 wl k false) (bodyK s.P Try.f37) xk37_0 .norm ⟨(t0::t1::t2::t3::t4::t5::t6::t7::t8::t9::t10::t11::t12::t13::t14::t15::t16::t17::t18::t19::t20::t21::t22::t23::t24::t25::t26::t27::t28::t29::t30::t31::t32::t33::t34::t35::t36::t37::t38::t39::t40::t41::t42::t43::t44::v174::t46::t47::t48::t49::t50::t51::v187::v189::v191::v193::v195::v197::v199::t59::t60::t61::t62::t63::t64::t65::t66::t67::t68::t69::t70::t71::t72::t73::t74::t75::t76::t77::t78::t79::t80::t81::t82::t83::t84::t85::t86::t87::t88::t89::t90::t91::t92::t93::t94::t95::t96::t97::t98::t99::t100::t101::t102::t103::t104::t105::t106::t107::t108::t109::t110::t111::t112::t113::t114::t115::t116::t117::t118::t119::t120::t121::t122::t123::t124::t125::[]),h201⟩) :=
  (go_op0 rfl rfl (st_bm (by kernel_rfl) fun v174 h175 =>
  (go_end0 (by kernel_rfl)
  (go_cond (by kernel_rfl)
  (go_seq (go_reg1 xo37_7r
  (go_op1 xo37_7 xo37_7a rfl rfl rfl (st_no (by kernel_rfl) (st_id (v := t8) (H := h175) (by kernel_rfl)
  (go_op1 xo37_7 xo37_7a rfl rfl rfl (st_yes (by kernel_rfl) (st_bm (by kernel_rfl) fun v176 h177 =>
  (go_op1 xo37_7 xo37_7a rfl rfl rfl (st_no (by kernel_rfl) (st_bm (by kernel_rfl) fun v178 h179 =>
  (go_op1 xo37_7 xo37_7a rfl rfl rfl (st_no (by kernel_rfl) (st_bm (by kernel_rfl) fun v180 h181 =>
  (go_op1 xo37_7 xo37_7a rfl rfl rfl (st_no (by kernel_rfl) (st_bp (by kernel_rfl) fun v182 h183 =>
  (go_op1 xo37_7 xo37_7a rfl rfl rfl (st_no (by kernel_rfl) (st_bp (by kernel_rfl) fun v184 h185 =>
  (go_op1 xo37_7 xo37_7a rfl rfl rfl (st_no (by kernel_rfl) (st_id (v := t8) (H := h185) (by kernel_rfl)
  (go_op1 xo37_7 xo37_7a rfl rfl rfl (st_no (by kernel_rfl) (st_bs (by kernel_rfl) fun h186 =>
  (go_end1 xo37_7 (by kernel_rfl) xo37_7a
  (go_ret (rt_seq_ret (rt_block_ret (rt_seq_ret (by kernel_rfl))))))))))))))))))))))))))))))))
  (go_skip (go_reg0
  (go_op0 rfl rfl (st_bm (by kernel_rfl) fun v187 h188 =>
  (go_op0 rfl rfl (st_bm (by kernel_rfl) fun v189 h190 =>
  (go_op0 rfl rfl (st_bm (by kernel_rfl) fun v191 h192 =>
  (go_op0 rfl rfl (st_bm (by kernel_rfl) fun v193 h194 =>
  (go_op0 rfl rfl (st_bm (by kernel_rfl) fun v195 h196 =>
  (go_op0 rfl rfl (st_bm (by kernel_rfl) fun v197 h198 =>
  (go_op0 rfl rfl (st_bm (by kernel_rfl) fun v199 h200 =>
  (go_op0 rfl rfl (st_bs (by kernel_rfl) fun h201 =>
  (go_end0 (by kernel_rfl)
  (by kernel_rfl))))))))))))))))))))))))
theorem xk37_0_ret (cx : Cx) (K : Out → St → Option (V × Hp)) (s : St) : runK cx K xk37_0 .ret s = K .ret s := by kernel_rfl
theorem xk37_1_ret (cx : Cx) (K : Out → St → Option (V × Hp)) (s : St) : runK cx K xk37_1 .ret s = K .ret s := by kernel_rfl
theorem xk37_2_ret (cx : Cx) (K : Out → St → Option (V × Hp)) (s : St) : runK cx K xk37_2 .ret s = K .ret s := by kernel_rfl
-- names: xb37,xj37_0,xj37_1,xm37_2,xk37_0_ret,xk37_1_ret,xk37_2_ret
noncomputable def xg38_0 : Code := codeAt (bodyOf Try.f38) [1,0]
noncomputable def xg38_1 : Code := codeAt (bodyOf Try.f38) [1,1,0]
noncomputable def xk38_0 : List Fr := [.seq (codeAt (bodyOf Try.f38) [1,1,1])]
theorem xo38_1 : orderIx (opsOf xg38_0) = [0,1,2,3,4,5,6,7,8] := by kernel_rfl
theorem xo38_1a : (rgOf (opsOf xg38_0)).any = false := by kernel_rfl
theorem xo38_1r : regOk (opsOf xg38_0) = true := by kernel_rfl
theorem xb38 (s : Sys) (k wl : Nat) (t0 t1 t2 : V) (h : Hp) : bodyV (xX s 38 wl k false) Try.f38 [t0,t1,t2] h =
  bp (opBox t0 h) fun v1 h2 =>
  bp (opBox t2 h2) fun v3 h4 =>
  bp (callV (xX s 38 wl k false) true true (.fn (.func 77) [] []) [] h4) fun v5 h6 =>
  bm (vFieldAddr s.P 28 v3 0) h6 fun v7 h8 =>
  stO h4.length v7 (
  bm (vLoad s.P 3 v7 h8) h8 fun v9 h10 =>
  bm (vLookup s.P 83 v5 v9 true h10) h10 fun v11 h12 =>
  bm (vExtract v11 0) h12 fun v13 h14 =>
  bm (vExtract v11 1) h14 fun v15 h16 =>
  gd v15 (
  bm (vLoad s.P 23 v1 h16) h16 fun v17 h18 =>
  bp (callV (xX s 38 wl k false) false true (.fn (.func 68) [] []) [v17] h18) fun v19 h20 =>
  opsP (xX s 38 wl k false) xg38_1 4 h16.length ([],[]) (runK (xX s 38 wl k false) (bodyK s.P Try.f38) xk38_0) ⟨[t0,t1,t2,v1,uu,v3,(V.lit (Value.bool false)),v13,v15,v11,v5,v7,v9,v11,v13,v15,v15,(V.lit (Value.bool true)),v17,v19,uu,uu,uu,uu,uu,uu,uu,uu,uu,uu,uu,uu,uu,uu,uu,uu,uu,uu,uu,uu,uu,uu,uu],h20⟩) (
  opsP (xX s 38 wl k false) xg38_1 4 h16.length ([],[]) (runK (xX s 38 wl k false) (bodyK s.P Try.f38) xk38_0) ⟨[t0,t1,t2,v1,uu,v3,(V.lit (Value.bool false)),v13,v15,v11,v5,v7,v9,v11,v13,v15,v15,(V.lit (Value.bool false)),uu,uu,uu,uu,uu,uu,uu,uu,uu,uu,uu,uu,uu,uu,uu,uu,uu,uu,uu,uu,uu,uu,uu,uu,uu],h16⟩) (
  opsP (xX s 38 wl k false) xg38_1 3 h16.length ([],[]) (runK (xX s 38 wl k false) (bodyK s.P Try.f38) xk38_0) ⟨[t0,t1,t2,v1,uu,v3,(V.lit (Value.bool false)),v13,v15,v11,v5,v7,v9,v11,v13,v15,v15,v15,uu,uu,uu,uu,uu,uu,uu,uu,uu,uu,uu,uu,uu,uu,uu,uu,uu,uu,uu,uu,uu,uu,uu,uu,uu],h16⟩)) :=
  bodyV_run rfl (go_seq (go_reg0
  (go_op0 rfl rfl (st_bp (by kernel_rfl) fun v1 h2 =>
  (go_op0 rfl rfl (st_bp (by kernel_rfl) fun v3 h4 =>
  (go_op0 rfl rfl (st_id (v := (V.lit (Value.bool false))) (H := h4) (by kernel_rfl)
  (go_end0 (by kernel_rfl)
  (go_seq (go_reg1 xo38_1r
  (go_op1 xo38_1 xo38_1a rfl rfl rfl (st_no (by kernel_rfl) (st_bp (by kernel_rfl) fun v5 h6 =>
  (go_op1 xo38_1 xo38_1a rfl rfl rfl (st_no (by kernel_rfl) (st_bm (by kernel_rfl) fun v7 h8 =>
  (go_op1 xo38_1 xo38_1a rfl rfl rfl (st_yes (by kernel_rfl) (st_bm (by kernel_rfl) fun v9 h10 =>
  (go_op1 xo38_1 xo38_1a rfl rfl rfl (st_no (by kernel_rfl) (st_bm (by kernel_rfl) fun v11 h12 =>
  (go_op1 xo38_1 xo38_1a rfl rfl rfl (st_no (by kernel_rfl) (st_id (v := v11) (H := h12) (by kernel_rfl)
  (go_op1 xo38_1 xo38_1a rfl rfl rfl (st_no (by kernel_rfl) (st_bm (by kernel_rfl) fun v13 h14 =>
  (go_op1 xo38_1 xo38_1a rfl rfl rfl (st_no (by kernel_rfl) (st_bm (by kernel_rfl) fun v15 h16 =>
  (go_op1 xo38_1 xo38_1a rfl rfl rfl (st_no (by kernel_rfl) (st_id (v := v13) (H := h16) (by kernel_rfl)
  (go_op1 xo38_1 xo38_1a rfl rfl rfl (st_no (by kernel_rfl) (st_id (v := v15) (H := h16) (by kernel_rfl)
  (go_end1 xo38_1 (by kernel_rfl) xo38_1a
  (go_seq (go_reg0
  (go_op0 rfl rfl (st_id (v := v15) (H := h16) (by kernel_rfl)
  (go_op0 rfl rfl (st_id (v := v15) (H := h16) (by kernel_rfl)
  (go_gdT0 rfl rfl rfl (by kernel_rfl)
  (st_bm (by kernel_rfl) fun v17 h18 =>
  (go_run0 rfl rfl rfl (by kernel_rfl) (st_bp (by kernel_rfl) fun v19 h20 =>
  (by kernel_rfl))))
  (go_skip0 rfl rfl rfl (by kernel_rfl)
  (by kernel_rfl))
  (by kernel_rfl)))))))))))))))))))))))))))))))))))))))))))))))
theorem xe38 (k wl : Nat) (t0 t1 t2 : V) (h : Hp) : evF Try.prog xM (k + 1) wl 38 [t0,t1,t2] h = bodyV (xX (xS k) 38 wl k false) Try.f38 [t0,t1,t2] h := by kernel_rfl
theorem xm38_0 (s : Sys) (k wl : Nat) (m0 : Nat) (ac : List Nat × List Nat) (t0 t1 t2 t3 t4 t5 t6 t7 t8 t9 t10 t11 t12 t13 t14 t15 t16 t17 t18 t19 t20 t21 t22 t23 t24 t25 t26 t27 t28 t29 t30 t31 t32 t33 t34 t35 t36 t37 t38 t39 t40 t41 t42 : V) (h : Hp) : opsP (xX s 38 wl k false) xg38_1 4 m0 ac (runK (xX s 38 wl k false) (bodyK s.P Try.f38) xk38_0) ⟨[t0,t1,t2,t3,t4,t5,t6,t7,t8,t9,t10,t11,t12,t13,t14,t15,t16,t17,t18,t19,t20,t21,t22,t23,t24,t25,t26,t27,t28,t29,t30,t31,t32,t33,t34,t35,t36,t37,t38,t39,t40,t41,t42],h⟩ =
  bm (vPick t17 t19 (V.lit (Value.bool false))) h fun v21 h22 =>
  gd v21 (
  bp (opLen s.P 25 t1 h22) fun v23 h24 =>
  bm (vLoad s.P 23 t3 h24) h24 fun v25 h26 =>
  bp (callV (xX s 38 wl k false) false true (.fn (.func 69) [] []) [v25] h26) fun v27 h28 =>
  bm (vBin s.P .eql 3 v23 v27) h28 fun v29 h30 =>
  opsP (xX s 38 wl k false) xg38_1 11 m0 ac (runK (xX s 38 wl k false) (bodyK s.P Try.f38) xk38_0) ⟨[t0,t1,t2,t3,t4,t5,t6,t7,t8,t9,t10,t11,t12,t13,t14,t15,t16,t17,t18,t19,v21,(V.lit (Value.bool true)),t1,v23,v25,v27,v29,t27,t28,t29,t30,t31,t32,t33,t34,t35,t36,t37,t38,t39,t40,t41,t42],h30⟩) (
  opsP (xX s 38 wl k false) xg38_1 11 m0 ac (runK (xX s 38 wl k false) (bodyK s.P Try.f38) xk38_0) ⟨[t0,t1,t2,t3,t4,t5,t6,t7,t8,t9,t10,t11,t12,t13,t14,t15,t16,t17,t18,t19,v21,(V.lit (Value.bool false)),uu,uu,uu,uu,uu,t27,t28,t29,t30,t31,t32,t33,t34,t35,t36,t37,t38,t39,t40,t41,t42],h22⟩) (
  opsP (xX s 38 wl k false) xg38_1 7 m0 ac (runK (xX s 38 wl k false) (bodyK s.P Try.f38) xk38_0) ⟨[t0,t1,t2,t3,t4,t5,t6,t7,t8,t9,t10,t11,t12,t13,t14,t15,t16,t17,t18,t19,v21,v21,uu,t23,t24,t25,t26,t27,t28,t29,t30,t31,t32,t33,t34,t35,t36,t37,t38,t39,t40,t41,t42],h22⟩) :=
  (go_op0 rfl rfl (st_bm (by kernel_rfl) fun v21 h22 =>
  (go_op0 rfl rfl (st_id (v := v21) (H := h22) (by kernel_rfl)
  (go_gdT0 rfl rfl rfl (by kernel_rfl)
  (st_id (v := t1) (H := h22) (by kernel_rfl)
  (go_run0 rfl rfl rfl (by kernel_rfl) (st_bp (by kernel_rfl) fun v23 h24 =>
  (go_run0 rfl rfl rfl (by kernel_rfl) (st_bm (by kernel_rfl) fun v25 h26 =>
  (go_run0 rfl rfl rfl (by kernel_rfl) (st_bp (by kernel_rfl) fun v27 h28 =>
  (go_run0 rfl rfl rfl (by kernel_rfl) (st_bm (by kernel_rfl) fun v29 h30 =>
  (by kernel_rfl))))))))))
  (go_skip0 rfl rfl rfl (by kernel_rfl)
  (go_skip0 rfl rfl rfl (by kernel_rfl)
  (go_skip0 rfl rfl rfl (by kernel_rfl)
  (go_skip0 rfl rfl rfl (by kernel_rfl)
  (by kernel_rfl)))))
  (by kernel_rfl))))))
theorem xm38_1 (s : Sys) (k wl : Nat) (m0 : Nat) (ac : List Nat × List Nat) (t0 t1 t2 t3 t4 t5 t6 t7 t8 t9 t10 t11 t12 t13 t14 t15 t16 t17 t18 t19 t20 t21 t22 t23 t24 t25 t26 t27 t28 t29 t30 t31 t32 t33 t34 t35 t36 t37 t38 t39 t40 t41 t42 : V) (h : Hp) : opsP (xX s 38 wl k false) xg38_1 11 m0 ac (runK (xX s 38 wl k false) (bodyK s.P Try.f38) xk38_0) ⟨[t0,t1,t2,t3,t4,t5,t6,t7,t8,t9,t10,t11,t12,t13,t14,t15,t16,t17,t18,t19,t20,t21,t22,t23,t24,t25,t26,t27,t28,t29,t30,t31,t32,t33,t34,t35,t36,t37,t38,t39,t40,t41,t42],h⟩ =
  bm (vPick t21 t26 (V.lit (Value.bool false))) h fun v31 h32 =>
  gd v31 (
  bm (vLoad s.P 28 t5 h32) h32 fun v33 h34 =>
  bp (callV (xX s 38 wl k false) false true (.fn (.func 43) [] []) [v33] h34) fun v35 h36 =>
  bm (vUn .not v35) h36 fun v37 h38 =>
  opsP (xX s 38 wl k false) xg38_1 16 m0 ac (runK (xX s 38 wl k false) (bodyK s.P Try.f38) xk38_0) ⟨[t0,t1,t2,t3,t4,t5,t6,t7,t8,t9,t10,t11,t12,t13,t14,t15,t16,t17,t18,t19,t20,t21,t22,t23,t24,t25,t26,v31,(V.lit (Value.bool true)),v33,v35,v37,t32,t33,t34,t35,t36,t37,t38,t39,t40,t41,t42],h38⟩) (
  opsP (xX s 38 wl k false) xg38_1 16 m0 ac (runK (xX s 38 wl k false) (bodyK s.P Try.f38) xk38_0) ⟨[t0,t1,t2,t3,t4,t5,t6,t7,t8,t9,t10,t11,t12,t13,t14,t15,t16,t17,t18,t19,t20,t21,t22,t23,t24,t25,t26,v31,(V.lit (Value.bool false)),uu,uu,uu,t32,t33,t34,t35,t36,t37,t38,t39,t40,t41,t42],h32⟩) (
  opsP (xX s 38 wl k false) xg38_1 14 m0 ac (runK (xX s 38 wl k false) (bodyK s.P Try.f38) xk38_0) ⟨[t0,t1,t2,t3,t4,t5,t6,t7,t8,t9,t10,t11,t12,t13,t14,t15,t16,t17,t18,t19,t20,t21,t22,t23,t24,t25,t26,v31,v31,uu,t30,t31,t32,t33,t34,t35,t36,t37,t38,t39,t40,t41,t42],h32⟩) :=
  (go_op0 rfl rfl (st_bm (by kernel_rfl) fun v31 h32 =>
  (go_op0 rfl rfl (st_id (v := v31) (H := h32) (by kernel_rfl)
  (go_gdT0 rfl rfl rfl (by kernel_rfl)
  (st_bm (by kernel_rfl) fun v33 h34 =>
  (go_run0 rfl rfl rfl (by kernel_rfl) (st_bp (by kernel_rfl) fun v35 h36 =>
  (go_run0 rfl rfl rfl (by kernel_rfl) (st_bm (by kernel_rfl) fun v37 h38 =>
  (by kernel_rfl))))))
  (go_skip0 rfl rfl rfl (by kernel_rfl)
  (go_skip0 rfl rfl rfl (by kernel_rfl)
  (by kernel_rfl)))
  (by kernel_rfl))))))
theorem xm38_2 (s : Sys) (k wl : Nat) (m0 : Nat) (ac : List Nat × List Nat) (t0 t1 t2 t3 t4 t5 t6 t7 t8 t9 t10 t11 t12 t13 t14 t15 t16 t17 t18 t19 t20 t21 t22 t23 t24 t25 t26 t27 t28 t29 t30 t31 t32 t33 t34 t35 t36 t37 t38 t39 t40 t41 t42 : V) (h : Hp) : opsP (xX s 38 wl k false) xg38_1 16 m0 ac (runK (xX s 38 wl k false) (bodyK s.P Try.f38) xk38_0) ⟨[t0,t1,t2,t3,t4,t5,t6,t7,t8,t9,t10,t11,t12,t13,t14,t15,t16,t17,t18,t19,t20,t21,t22,t23,t24,t25,t26,t27,t28,t29,t30,t31,t32,t33,t34,t35,t36,t37,t38,t39,t40,t41,t42],h⟩ =
  bm (vPick t28 t31 (V.lit (Value.bool false))) h fun v39 h40 =>
  gd v39 (
  bm (vFieldAddr s.P 28 t5 1) h40 fun v41 h42 =>
  bm (vLoad s.P 3 v41 h42) h42 fun v43 h44 =>
  bm (vBin s.P .geq 3 v43 (V.lit (Value.int .i64 0))) h44 fun v45 h46 =>
  opsP (xX s 38 wl k false) xg38_1 21 m0 ac (runK (xX s 38 wl k false) (bodyK s.P Try.f38) xk38_0) ⟨[t0,t1,t2,t3,t4,t5,t6,t7,t8,t9,t10,t11,t12,t13,t14,t15,t16,t17,t18,t19,t20,t21,t22,t23,t24,t25,t26,t27,t28,t29,t30,t31,v39,(V.lit (Value.bool true)),v41,v43,v45,t37,t38,t39,t40,t41,t42],h46⟩) (
  opsP (xX s 38 wl k false) xg38_1 21 m0 ac (runK (xX s 38 wl k false) (bodyK s.P Try.f38) xk38_0) ⟨[t0,t1,t2,t3,t4,t5,t6,t7,t8,t9,t10,t11,t12,t13,t14,t15,t16,t17,t18,t19,t20,t21,t22,t23,t24,t25,t26,t27,t28,t29,t30,t31,v39,(V.lit (Value.bool false)),uu,uu,uu,t37,t38,t39,t40,t41,t42],h40⟩) (
  opsP (xX s 38 wl k false) xg38_1 19 m0 ac (runK (xX s 38 wl k false) (bodyK s.P Try.f38) xk38_0) ⟨[t0,t1,t2,t3,t4,t5,t6,t7,t8,t9,t10,t11,t12,t13,t14,t15,t16,t17,t18,t19,t20,t21,t22,t23,t24,t25,t26,t27,t28,t29,t30,t31,v39,v39,uu,t35,t36,t37,t38,t39,t40,t41,t42],h40⟩) :=
  (go_op0 rfl rfl (st_bm (by kernel_rfl) fun v39 h40 =>
  (go_op0 rfl rfl (st_id (v := v39) (H := h40) (by kernel_rfl)
  (go_gdT0 rfl rfl rfl (by kernel_rfl)
  (st_bm (by kernel_rfl) fun v41 h42 =>
  (go_run0 rfl rfl rfl (by kernel_rfl) (st_bm (by kernel_rfl) fun v43 h44 =>
  (go_run0 rfl rfl rfl (by kernel_rfl) (st_bm (by kernel_rfl) fun v45 h46 =>
  (by kernel_rfl))))))
  (go_skip0 rfl rfl rfl (by kernel_rfl)
  (go_skip0 rfl rfl rfl (by kernel_rfl)
  (by kernel_rfl)))
  (by kernel_rfl))))))
theorem xm38_3 (s : Sys) (k wl : Nat) (m0 : Nat) (ac : List Nat × List Nat) (t0 t1 t2 t3 t4 t5 t6 t7 t8 t9 t10 t11 t12 t13 t14 t15 t16 t17 t18 t19 t20 t21 t22 t23 t24 t25 t26 t27 t28 t29 t30 t31 t32 t33 t34 t35 t36 t37 t38 t39 t40 t41 t42 : V) (h : Hp) : opsP (xX s 38 wl k false) xg38_1 21 m0 ac (runK (xX s 38 wl k false) (bodyK s.P Try.f38) xk38_0) ⟨[t0,t1,t2,t3,t4,t5,t6,t7,t8,t9,t10,t11,t12,t13,t14,t15,t16,t17,t18,t19,t20,t21,t22,t23,t24,t25,t26,t27,t28,t29,t30,t31,t32,t33,t34,t35,t36,t37,t38,t39,t40,t41,t42],h⟩ =
  bm (vPick t33 t36 (V.lit (Value.bool false))) h fun v47 h48 =>
  gd v47 (
  bm (vFieldAddr s.P 28 t5 1) h48 fun v49 h50 =>
  bm (vLoad s.P 3 v49 h50) h50 fun v51 h52 =>
  bm (vBin s.P .leq 3 v51 (V.lit (Value.int .i64 2))) h52 fun v53 h54 =>
  opsP (xX s 38 wl k false) xg38_1 26 m0 ac (runK (xX s 38 wl k false) (bodyK s.P Try.f38) xk38_0) ⟨[t0,t1,t2,t3,t4,t5,t6,t7,t8,t9,t10,t11,t12,t13,t14,t15,t16,t17,t18,t19,t20,t21,t22,t23,t24,t25,t26,t27,t28,t29,t30,t31,t32,t33,t34,t35,t36,v47,(V.lit (Value.bool true)),v49,v51,v53,t42],h54⟩) (
  opsP (xX s 38 wl k false) xg38_1 26 m0 ac (runK (xX s 38 wl k false) (bodyK s.P Try.f38) xk38_0) ⟨[t0,t1,t2,t3,t4,t5,t6,t7,t8,t9,t10,t11,t12,t13,t14,t15,t16,t17,t18,t19,t20,t21,t22,t23,t24,t25,t26,t27,t28,t29,t30,t31,t32,t33,t34,t35,t36,v47,(V.lit (Value.bool false)),uu,uu,uu,t42],h48⟩) (
  opsP (xX s 38 wl k false) xg38_1 24 m0 ac (runK (xX s 38 wl k false) (bodyK s.P Try.f38) xk38_0) ⟨[t0,t1,t2,t3,t4,t5,t6,t7,t8,t9,t10,t11,t12,t13,t14,t15,t16,t17,t18,t19,t20,t21,t22,t23,t24,t25,t26,t27,t28,t29,t30,t31,t32,t33,t34,t35,t36,v47,v47,uu,t40,t41,t42],h48⟩) :=
  (go_op0 rfl rfl (st_bm (by kernel_rfl) fun v47 h48 =>
  (go_op0 rfl rfl (st_id (v := v47) (H := h48) (by kernel_rfl)
  (go_gdT0 rfl rfl rfl (by kernel_rfl)
  (st_bm (by kernel_rfl) fun v49 h50 =>
  (go_run0 rfl rfl rfl (by kernel_rfl) (st_bm (by kernel_rfl) fun v51 h52 =>
  (go_run0 rfl rfl rfl (by kernel_rfl) (st_bm (by kernel_rfl) fun v53 h54 =>
  (by kernel_rfl))))))
  (go_skip0 rfl rfl rfl (by kernel_rfl)
  (go_skip0 rfl rfl rfl (by kernel_rfl)
  (by kernel_rfl)))
  (by kernel_rfl))))))
theorem xm38_4 (s : Sys) (k wl : Nat) (m0 : Nat) (ac : List Nat × List Nat) (t0 t1 t2 t3 t4 t5 t6 t7 t8 t9 t10 t11 t12 t13 t14 t15 t16 t17 t18 t19 t20 t21 t22 t23 t24 t25 t26 t27 t28 t29 t30 t31 t32 t33 t34 t35 t36 t37 t38 t39 t40 t41 t42 : V) (h : Hp) : opsP (xX s 38 wl k false) xg38_1 26 m0 ac (runK (xX s 38 wl k false) (bodyK s.P Try.f38) xk38_0) ⟨[t0,t1,t2,t3,t4,t5,t6,t7,t8,t9,t10,t11,t12,t13,t14,t15,t16,t17,t18,t19,t20,t21,t22,t23,t24,t25,t26,t27,t28,t29,t30,t31,t32,t33,t34,t35,t36,t37,t38,t39,t40,t41,t42],h⟩ =
  bm (vPick t38 t41 (V.lit (Value.bool false))) h fun v55 h56 =>
  some (v55,h56) :=
  (go_op0 rfl rfl (st_bm (by kernel_rfl) fun v55 h56 =>
  (go_op0 rfl rfl (st_id (v := v55) (H := h56) (by kernel_rfl)
  (go_end0 (by kernel_rfl)
  (go_ret (by kernel_rfl)))))))
theorem xk38_0_ret (cx : Cx) (K : Out → St → Option (V × Hp)) (s : St) : runK cx K xk38_0 .ret s = K .ret s := by kernel_rfl
-- names: xb38,xm38_0,xm38_1,xm38_2,xm38_3,xm38_4,xk38_0_ret
noncomputable def xg39_0 : Code := codeAt (bodyOf Try.f39) [1,0,0]
noncomputable def xk39_0 : List Fr := [.seq (codeAt (bodyOf Try.f39) [1,0,1]),.seq (codeAt (bodyOf Try.f39) [1,1])]
noncomputable def xg39_1 : Code := codeAt (bodyOf Try.f39) [1,1,0]
noncomputable def xk39_1 : List Fr := [.seq (codeAt (bodyOf Try.f39) [1,1,1])]
theorem xb39 (s : Sys) (k wl : Nat) (t0 t1 : V) (h : Hp) : bodyV (xX s 39 wl k false) Try.f39 [t0,t1] h =
  bp (opBox t0 h) fun v1 h2 =>
  bm (vLoad s.P 28 v1 h2) h2 fun v3 h4 =>
  bp (callV (xX s 39 wl k false) false true (.fn (.func 43) [] []) [v3] h4) fun v5 h6 =>
  gd v5 (
  opsP (xX s 39 wl k false) xg39_0 6 h2.length ([],[]) (runK (xX s 39 wl k false) (bodyK s.P Try.f39) xk39_0) ⟨[t0,t1,v1,uu,(V.lit (Value.bool false)),v3,v5,(V.lit (Value.bool true)),uu,uu,uu,uu,uu,uu,uu,uu,uu,uu,uu,uu,uu,uu,uu,uu,uu,uu,uu,uu,uu,uu,uu,uu,uu,uu,uu,uu,uu,uu,uu,uu,uu,uu,uu],h6⟩) (
  bm (vFieldAddr s.P 28 v1 1) h6 fun v7 h8 =>
  bm (vLoad s.P 3 v7 h8) h8 fun v9 h10 =>
  bm (vBin s.P .neq 3 v9 (V.lit (Value.int .i64 2))) h10 fun v11 h12 =>
  opsP (xX s 39 wl k false) xg39_0 6 h2.length ([],[]) (runK (xX s 39 wl k false) (bodyK s.P Try.f39) xk39_0) ⟨[t0,t1,v1,uu,(V.lit (Value.bool false)),v3,v5,(V.lit (Value.bool false)),v7,v9,v11,uu,uu,uu,uu,uu,uu,uu,uu,uu,uu,uu,uu,uu,uu,uu,uu,uu,uu,uu,uu,uu,uu,uu,uu,uu,uu,uu,uu,uu,uu,uu,uu],h12⟩) (
  opsP (xX s 39 wl k false) xg39_0 4 h2.length ([],[]) (runK (xX s 39 wl k false) (bodyK s.P Try.f39) xk39_0) ⟨[t0,t1,v1,uu,(V.lit (Value.bool false)),v3,v5,v5,uu,uu,uu,uu,uu,uu,uu,uu,uu,uu,uu,uu,uu,uu,uu,uu,uu,uu,uu,uu,uu,uu,uu,uu,uu,uu,uu,uu,uu,uu,uu,uu,uu,uu,uu],h6⟩) :=
  bodyV_run rfl (go_seq (go_reg0
  (go_op0 rfl rfl (st_bp (by kernel_rfl) fun v1 h2 =>
  (go_op0 rfl rfl (st_id (v := (V.lit (Value.bool false))) (H := h2) (by kernel_rfl)
  (go_end0 (by kernel_rfl)
  (go_seq (go_seq (go_reg0
  (go_op0 rfl rfl (st_bm (by kernel_rfl) fun v3 h4 =>
  (go_op0 rfl rfl (st_bp (by kernel_rfl) fun v5 h6 =>
  (go_op0 rfl rfl (st_id (v := v5) (H := h6) (by kernel_rfl)
  (go_gdF0 rfl rfl rfl (by kernel_rfl)
  (go_skip0 rfl rfl rfl (by kernel_rfl)
  (go_skip0 rfl rfl rfl (by kernel_rfl)
  (by kernel_rfl)))
  (st_bm (by kernel_rfl) fun v7 h8 =>
  (go_run0 rfl rfl rfl (by kernel_rfl) (st_bm (by kernel_rfl) fun v9 h10 =>
  (go_run0 rfl rfl rfl (by kernel_rfl) (st_bm (by kernel_rfl) fun v11 h12 =>
  (by kernel_rfl))))))
  (by kernel_rfl))))))))))))))))))
theorem xe39 (k wl : Nat) (t0 t1 : V) (h : Hp) : evF Try.prog xM (k + 1) wl 39 [t0,t1] h = bodyV (xX (xS k) 39 wl k false) Try.f39 [t0,t1] h := by kernel_rfl
theorem xm39_0 (s : Sys) (k wl : Nat) (m0 : Nat) (ac : List Nat × List Nat) (t0 t1 t2 t3 t4 t5 t6 t7 t8 t9 t10 t11 t12 t13 t14 t15 t16 t17 t18 t19 t20 t21 t22 t23 t24 t25 t26 t27 t28 t29 t30 t31 t32 t33 t34 t35 t36 t37 t38 t39 t40 t41 t42 : V) (h : Hp) : opsP (xX s 39 wl k false) xg39_0 6 m0 ac (runK (xX s 39 wl k false) (bodyK s.P Try.f39) xk39_0) ⟨[t0,t1,t2,t3,t4,t5,t6,t7,t8,t9,t10,t11,t12,t13,t14,t15,t16,t17,t18,t19,t20,t21,t22,t23,t24,t25,t26,t27,t28,t29,t30,t31,t32,t33,t34,t35,t36,t37,t38,t39,t40,t41,t42],h⟩ =
  bm (vPick t7 (V.lit (Value.bool true)) t10) h fun v13 h14 =>
  gd v13 (
  opsP (xX s 39 wl k false) xg39_0 10 m0 ac (runK (xX s 39 wl k false) (bodyK s.P Try.f39) xk39_0) ⟨[t0,t1,t2,t3,t4,t5,t6,t7,t8,t9,t10,v13,(V.lit (Value.bool true)),uu,uu,t15,t16,t17,t18,t19,t20,t21,t22,t23,t24,t25,t26,t27,t28,t29,t30,t31,t32,t33,t34,t35,t36,t37,t38,t39,t40,t41,t42],h14⟩) (
  bm (vBin s.P .lss 3 t1 (V.lit (Value.int .i64 0))) h14 fun v15 h16 =>
  opsP (xX s 39 wl k false) xg39_0 10 m0 ac (runK (xX s 39 wl k false) (bodyK s.P Try.f39) xk39_0) ⟨[t0,t1,t2,t3,t4,t5,t6,t7,t8,t9,t10,v13,(V.lit (Value.bool false)),t1,v15,t15,t16,t17,t18,t19,t20,t21,t22,t23,t24,t25,t26,t27,t28,t29,t30,t31,t32,t33,t34,t35,t36,t37,t38,t39,t40,t41,t42],h16⟩) (
  opsP (xX s 39 wl k false) xg39_0 9 m0 ac (runK (xX s 39 wl k false) (bodyK s.P Try.f39) xk39_0) ⟨[t0,t1,t2,t3,t4,t5,t6,t7,t8,t9,t10,v13,v13,uu,t14,t15,t16,t17,t18,t19,t20,t21,t22,t23,t24,t25,t26,t27,t28,t29,t30,t31,t32,t33,t34,t35,t36,t37,t38,t39,t40,t41,t42],h14⟩) :=
  (go_op0 rfl rfl (st_bm (by kernel_rfl) fun v13 h14 =>
  (go_op0 rfl rfl (st_id (v := v13) (H := h14) (by kernel_rfl)
  (go_gdF0 rfl rfl rfl (by kernel_rfl)
  (go_skip0 rfl rfl rfl (by kernel_rfl)
  (by kernel_rfl))
  (st_id (v := t1) (H := h14) (by kernel_rfl)
  (go_run0 rfl rfl rfl (by kernel_rfl) (st_bm (by kernel_rfl) fun v15 h16 =>
  (by kernel_rfl))))
  (by kernel_rfl))))))
theorem xm39_1 (s : Sys) (k wl : Nat) (m0 : Nat) (ac : List Nat × List Nat) (t0 t1 t2 t3 t4 t5 t6 t7 t8 t9 t10 t11 t12 t13 t14 t15 t16 t17 t18 t19 t20 t21 t22 t23 t24 t25 t26 t27 t28 t29 t30 t31 t32 t33 t34 t35 t36 t37 t38 t39 t40 t41 t42 : V) (h : Hp) : opsP (xX s 39 wl k false) xg39_0 10 m0 ac (runK (xX s 39 wl k false) (bodyK s.P Try.f39) xk39_0) ⟨[t0,t1,t2,t3,t4,t5,t6,t7,t8,t9,t10,t11,t12,t13,t14,t15,t16,t17,t18,t19,t20,t21,t22,t23,t24,t25,t26,t27,t28,t29,t30,t31,t32,t33,t34,t35,t36,t37,t38,t39,t40,t41,t42],h⟩ =
  bm (vPick t12 (V.lit (Value.bool true)) t14) h fun v17 h18 =>
  gd v17 (
  opsP (xX s 39 wl k false) xg39_0 14 m0 ac (runK (xX s 39 wl k false) (bodyK s.P Try.f39) xk39_0) ⟨[t0,t1,t2,t3,t4,t5,t6,t7,t8,t9,t10,t11,t12,t13,t14,v17,(V.lit (Value.bool true)),uu,uu,t19,t20,t21,t22,t23,t24,t25,t26,t27,t28,t29,t30,t31,t32,t33,t34,t35,t36,t37,t38,t39,t40,t41,t42],h18⟩) (
  bm (vBin s.P .geq 3 t1 (V.lit (Value.int .i64 16))) h18 fun v19 h20 =>
  opsP (xX s 39 wl k false) xg39_0 14 m0 ac (runK (xX s 39 wl k false) (bodyK s.P Try.f39) xk39_0) ⟨[t0,t1,t2,t3,t4,t5,t6,t7,t8,t9,t10,t11,t12,t13,t14,v17,(V.lit (Value.bool false)),t1,v19,t19,t20,t21,t22,t23,t24,t25,t26,t27,t28,t29,t30,t31,t32,t33,t34,t35,t36,t37,t38,t39,t40,t41,t42],h20⟩) (
  opsP (xX s 39 wl k false) xg39_0 13 m0 ac (runK (xX s 39 wl k false) (bodyK s.P Try.f39) xk39_0) ⟨[t0,t1,t2,t3,t4,t5,t6,t7,t8,t9,t10,t11,t12,t13,t14,v17,v17,uu,t18,t19,t20,t21,t22,t23,t24,t25,t26,t27,t28,t29,t30,t31,t32,t33,t34,t35,t36,t37,t38,t39,t40,t41,t42],h18⟩) :=
  (go_op0 rfl rfl (st_bm (by kernel_rfl) fun v17 h18 =>
  (go_op0 rfl rfl (st_id (v := v17) (H := h18) (by kernel_rfl)
  (go_gdF0 rfl rfl rfl (by kernel_rfl)
  (go_skip0 rfl rfl rfl (by kernel_rfl)
  (by kernel_rfl))
  (st_id (v := t1) (H := h18) (by kernel_rfl)
  (go_run0 rfl rfl rfl (by kernel_rfl) (st_bm (by kernel_rfl) fun v19 h20 =>
  (by kernel_rfl))))
  (by kernel_rfl))))))
theorem xm39_2 (s : Sys) (k wl : Nat) (m0 : Nat) (ac : List Nat × List Nat) (t0 t1 t2 t3 t4 t5 t6 t7 t8 t9 t10 t11 t12 t13 t14 t15 t16 t17 t18 t19 t20 t21 t22 t23 t24 t25 t26 t27 t28 t29 t30 t31 t32 t33 t34 t35 t36 t37 t38 t39 t40 t41 t42 : V) (h : Hp) : opsP (xX s 39 wl k false) xg39_0 14 m0 ac (runK (xX s 39 wl k false) (bodyK s.P Try.f39) xk39_0) ⟨[t0,t1,t2,t3,t4,t5,t6,t7,t8,t9,t10,t11,t12,t13,t14,t15,t16,t17,t18,t19,t20,t21,t22,t23,t24,t25,t26,t27,t28,t29,t30,t31,t32,t33,t34,t35,t36,t37,t38,t39,t40,t41,t42],h⟩ =
  bm (vPick t16 (V.lit (Value.bool true)) t18) h fun v21 h22 =>
  cnd v21 (
  some ((V.lit (Value.bool false)),h22)) (
  bm (vFieldAddr s.P 28 t2 0) h22 fun v23 h24 =>
  bm (vLoad s.P 3 v23 h24) h24 fun v25 h26 =>
  bm (vBin s.P .eql 3 v25 (V.lit (Value.int .i64 6))) h26 fun v27 h28 =>
  gd v27 (
  bm (vFieldAddr s.P 28 t2 5) h28 fun v29 h30 =>
  bm (vLoad s.P 26 v29 h30) h30 fun v31 h32 =>
  bm (vConv s.P 3 26 t1) h32 fun v33 h34 =>
  bm (vBin s.P .eql 26 v31 v33) h34 fun v35 h36 =>
  opsP (xX s 39 wl k false) xg39_1 9 h22.length ([],[]) (runK (xX s 39 wl k false) (bodyK s.P Try.f39) xk39_1) ⟨[t0,t1,t2,t3,t4,t5,t6,t7,t8,t9,t10,t11,t12,t13,t14,t15,t16,t17,t18,v21,v23,v25,v27,(V.lit (Value.bool true)),v29,v31,t1,v33,v35,t29,t30,t31,t32,t33,t34,t35,t36,t37,t38,t39,t40,t41,t42],h36⟩) (
  opsP (xX s 39 wl k false) xg39_1 9 h22.length ([],[]) (runK (xX s 39 wl k false) (bodyK s.P Try.f39) xk39_1) ⟨[t0,t1,t2,t3,t4,t5,t6,t7,t8,t9,t10,t11,t12,t13,t14,t15,t16,t17,t18,v21,v23,v25,v27,(V.lit (Value.bool false)),uu,uu,uu,uu,uu,t29,t30,t31,t32,t33,t34,t35,t36,t37,t38,t39,t40,t41,t42],h28⟩) (
  opsP (xX s 39 wl k false) xg39_1 5 h22.length ([],[]) (runK (xX s 39 wl k false) (bodyK s.P Try.f39) xk39_1) ⟨[t0,t1,t2,t3,t4,t5,t6,t7,t8,t9,t10,t11,t12,t13,t14,t15,t16,t17,t18,v21,v23,v25,v27,v27,uu,t25,t26,t27,t28,t29,t30,t31,t32,t33,t34,t35,t36,t37,t38,t39,t40,t41,t42],h28⟩)) :=
  (go_op0 rfl rfl (st_bm (by kernel_rfl) fun v21 h22 =>
  (go_end0 (by kernel_rfl)
  (go_cond (by kernel_rfl)
  (go_seq (go_reg0
  (go_op0 rfl rfl (st_id (v := (V.lit (Value.bool false))) (H := h22) (by kernel_rfl)
  (go_end0 (by kernel_rfl)
  (go_ret (rt_seq_ret (by kernel_rfl))))))))
  (go_skip (go_seq (go_reg0
  (go_op0 rfl rfl (st_bm (by kernel_rfl) fun v23 h24 =>
  (go_op0 rfl rfl (st_bm (by kernel_rfl) fun v25 h26 =>
  (go_op0 rfl rfl (st_bm (by kernel_rfl) fun v27 h28 =>
  (go_op0 rfl rfl (st_id (v := v27) (H := h28) (by kernel_rfl)
  (go_gdT0 rfl rfl rfl (by kernel_rfl)
  (st_bm (by kernel_rfl) fun v29 h30 =>
  (go_run0 rfl rfl rfl (by kernel_rfl) (st_bm (by kernel_rfl) fun v31 h32 =>
  (go_run0 rfl rfl rfl (by kernel_rfl) (st_id (v := t1) (H := h32) (by kernel_rfl)
  (go_run0 rfl rfl rfl (by kernel_rfl) (st_bm (by kernel_rfl) fun v33 h34 =>
  (go_run0 rfl rfl rfl (by kernel_rfl) (st_bm (by kernel_rfl) fun v35 h36 =>
  (by kernel_rfl))))))))))
  (go_skip0 rfl rfl rfl (by kernel_rfl)
  (go_skip0 rfl rfl rfl (by kernel_rfl)
  (go_skip0 rfl rfl rfl (by kernel_rfl)
  (go_skip0 rfl rfl rfl (by kernel_rfl)
  (by kernel_rfl)))))
  (by kernel_rfl)))))))))))))))))
theorem xm39_3 (s : Sys) (k wl : Nat) (m0 : Nat) (ac : List Nat × List Nat) (t0 t1 t2 t3 t4 t5 t6 t7 t8 t9 t10 t11 t12 t13 t14 t15 t16 t17 t18 t19 t20 t21 t22 t23 t24 t25 t26 t27 t28 t29 t30 t31 t32 t33 t34 t35 t36 t37 t38 t39 t40 t41 t42 : V) (h : Hp) : opsP (xX s 39 wl k false) xg39_1 9 m0 ac (runK (xX s 39 wl k false) (bodyK s.P Try.f39) xk39_1) ⟨[t0,t1,t2,t3,t4,t5,t6,t7,t8,t9,t10,t11,t12,t13,t14,t15,t16,t17,t18,t19,t20,t21,t22,t23,t24,t25,t26,t27,t28,t29,t30,t31,t32,t33,t34,t35,t36,t37,t38,t39,t40,t41,t42],h⟩ =
  bm (vPick t23 t28 (V.lit (Value.bool false))) h fun v37 h38 =>
  gd v37 (
  opsP (xX s 39 wl k false) xg39_1 22 m0 ac (runK (xX s 39 wl k false) (bodyK s.P Try.f39) xk39_1) ⟨[t0,t1,t2,t3,t4,t5,t6,t7,t8,t9,t10,t11,t12,t13,t14,t15,t16,t17,t18,t19,t20,t21,t22,t23,t24,t25,t26,t27,t28,v37,(V.lit (Value.bool true)),uu,uu,uu,uu,uu,uu,uu,uu,uu,uu,uu,t42],h38⟩) (
  bm (vFieldAddr s.P 28 t2 0) h38 fun v39 h40 =>
  bm (vLoad s.P 3 v39 h40) h40 fun v41 h42 =>
  bm (vBin s.P .eql 3 v41 (V.lit (Value.int .i64 7))) h42 fun v43 h44 =>
  opsP (xX s 39 wl k false) xg39_1 15 m0 ac (runK (xX s 39 wl k false) (bodyK s.P Try.f39) xk39_1) ⟨[t0,t1,t2,t3,t4,t5,t6,t7,t8,t9,t10,t11,t12,t13,t14,t15,t16,t17,t18,t19,t20,t21,t22,t23,t24,t25,t26,t27,t28,v37,(V.lit (Value.bool false)),v39,v41,v43,v43,t35,t36,t37,t38,t39,t40,t41,t42],h44⟩) (
  opsP (xX s 39 wl k false) xg39_1 12 m0 ac (runK (xX s 39 wl k false) (bodyK s.P Try.f39) xk39_1) ⟨[t0,t1,t2,t3,t4,t5,t6,t7,t8,t9,t10,t11,t12,t13,t14,t15,t16,t17,t18,t19,t20,t21,t22,t23,t24,t25,t26,t27,t28,v37,v37,uu,t32,t33,t34,t35,t36,t37,t38,t39,t40,t41,t42],h38⟩) :=
  (go_op0 rfl rfl (st_bm (by kernel_rfl) fun v37 h38 =>
  (go_op0 rfl rfl (st_id (v := v37) (H := h38) (by kernel_rfl)
  (go_gdF0 rfl rfl rfl (by kernel_rfl)
  (go_skip0 rfl rfl rfl (by kernel_rfl)
  (go_skip0 rfl rfl rfl (by kernel_rfl)
  (go_skip0 rfl rfl rfl (by kernel_rfl)
  (go_none0 (x := #[]) rfl rfl rfl (by kernel_rfl)
  (go_none0 (x := #[]) rfl rfl rfl (by kernel_rfl)
  (go_none0 (x := #[]) rfl rfl rfl (by kernel_rfl)
  (go_none0 (x := #[]) rfl rfl rfl (by kernel_rfl)
  (go_none0 (x := #[]) rfl rfl rfl (by kernel_rfl)
  (go_none0 (x := #[]) rfl rfl rfl (by kernel_rfl)
  (go_skip0 rfl rfl rfl (by kernel_rfl)
  (by kernel_rfl)))))))))))
  (st_bm (by kernel_rfl) fun v39 h40 =>
  (go_run0 rfl rfl rfl (by kernel_rfl) (st_bm (by kernel_rfl) fun v41 h42 =>
  (go_run0 rfl rfl rfl (by kernel_rfl) (st_bm (by kernel_rfl) fun v43 h44 =>
  (go_run0 rfl rfl rfl (by kernel_rfl) (st_id (v := v43) (H := h44) (by kernel_rfl)
  (by kernel_rfl))))))))
  (by kernel_rfl))))))
theorem xm39_4 (s : Sys) (k wl : Nat) (m0 : Nat) (ac : List Nat × List Nat) (t0 t1 t2 t3 t4 t5 t6 t7 t8 t9 t10 t11 t12 t13 t14 t15 t16 t17 t18 t19 t20 t21 t22 t23 t24 t25 t26 t27 t28 t29 t30 t31 t32 t33 t34 t35 t36 t37 t38 t39 t40 t41 t42 : V) (h : Hp) : opsP (xX s 39 wl k false) xg39_1 22 m0 ac (runK (xX s 39 wl k false) (bodyK s.P Try.f39) xk39_1) ⟨[t0,t1,t2,t3,t4,t5,t6,t7,t8,t9,t10,t11,t12,t13,t14,t15,t16,t17,t18,t19,t20,t21,t22,t23,t24,t25,t26,t27,t28,t29,t30,t31,t32,t33,t34,t35,t36,t37,t38,t39,t40,t41,t42],h⟩ =
  bm (vPick t30 (V.lit (Value.bool true)) t41) h fun v45 h46 =>
  some (v45,h46) :=
  (go_op0 rfl rfl (st_bm (by kernel_rfl) fun v45 h46 =>
  (go_op0 rfl rfl (st_id (v := v45) (H := h46) (by kernel_rfl)
  (go_end0 (by kernel_rfl)
  (go_ret (by kernel_rfl)))))))
theorem xm39_5 (s : Sys) (k wl : Nat) (m0 : Nat) (ac : List Nat × List Nat) (t0 t1 t2 t3 t4 t5 t6 t7 t8 t9 t10 t11 t12 t13 t14 t15 t16 t17 t18 t19 t20 t21 t22 t23 t24 t25 t26 t27 t28 t29 t30 t31 t32 t33 t34 t35 t36 t37 t38 t39 t40 t41 t42 : V) (h : Hp) : opsP (xX s 39 wl k false) xg39_1 15 m0 ac (runK (xX s 39 wl k false) (bodyK s.P Try.f39) xk39_1) ⟨[t0,t1,t2,t3,t4,t5,t6,t7,t8,t9,t10,t11,t12,t13,t14,t15,t16,t17,t18,t19,t20,t21,t22,t23,t24,t25,t26,t27,t28,t29,t30,t31,t32,t33,t34,t35,t36,t37,t38,t39,t40,t41,t42],h⟩ =
  gd t34 (
  bm (vFieldAddr s.P 28 t2 5) h fun v47 h48 =>
  bm (vLoad s.P 26 v47 h48) h48 fun v49 h50 =>
  bm (vBin s.P .shr 26 v49 t1) h50 fun v51 h52 =>
  bm (vBin s.P .and 26 v51 (V.lit (Value.int .u64 1))) h52 fun v53 h54 =>
  bm (vBin s.P .eql 26 v53 (V.lit (Value.int .u64 1))) h54 fun v55 h56 =>
  opsP (xX s 39 wl k false) xg39_1 21 m0 ac (runK (xX s 39 wl k false) (bodyK s.P Try.f39) xk39_1) ⟨[t0,t1,t2,t3,t4,t5,t6,t7,t8,t9,t10,t11,t12,t13,t14,t15,t16,t17,t18,t19,t20,t21,t22,t23,t24,t25,t26,t27,t28,t29,t30,t31,t32,t33,(V.lit (Value.bool true)),v47,v49,t1,v51,v53,v55,t41,t42],h56⟩) (
  opsP (xX s 39 wl k false) xg39_1 21 m0 ac (runK (xX s 39 wl k false) (bodyK s.P Try.f39) xk39_1) ⟨[t0,t1,t2,t3,t4,t5,t6,t7,t8,t9,t10,t11,t12,t13,t14,t15,t16,t17,t18,t19,t20,t21,t22,t23,t24,t25,t26,t27,t28,t29,t30,t31,t32,t33,(V.lit (Value.bool false)),uu,uu,uu,uu,uu,uu,t41,t42],h⟩) (
  opsP (xX s 39 wl k false) xg39_1 16 m0 ac (runK (xX s 39 wl k false) (bodyK s.P Try.f39) xk39_1) ⟨[t0,t1,t2,t3,t4,t5,t6,t7,t8,t9,t10,t11,t12,t13,t14,t15,t16,t17,t18,t19,t20,t21,t22,t23,t24,t25,t26,t27,t28,t29,t30,t31,t32,t33,t34,uu,t36,t37,t38,t39,t40,t41,t42],h⟩) :=
  (go_gdT0 rfl rfl rfl (by kernel_rfl)
  (st_bm (by kernel_rfl) fun v47 h48 =>
  (go_run0 rfl rfl rfl (by kernel_rfl) (st_bm (by kernel_rfl) fun v49 h50 =>
  (go_run0 rfl rfl rfl (by kernel_rfl) (st_id (v := t1) (H := h50) (by kernel_rfl)
  (go_run0 rfl rfl rfl (by kernel_rfl) (st_bm (by kernel_rfl) fun v51 h52 =>
  (go_run0 rfl rfl rfl (by kernel_rfl) (st_bm (by kernel_rfl) fun v53 h54 =>
  (go_run0 rfl rfl rfl (by kernel_rfl) (st_bm (by kernel_rfl) fun v55 h56 =>
  (by kernel_rfl))))))))))))
  (go_skip0 rfl rfl rfl (by kernel_rfl)
  (go_skip0 rfl rfl rfl (by kernel_rfl)
  (go_skip0 rfl rfl rfl (by kernel_rfl)
  (go_skip0 rfl rfl rfl (by kernel_rfl)
  (go_skip0 rfl rfl rfl (by kernel_rfl)
  (by kernel_rfl))))))
  (by kernel_rfl))
theorem xm39_6 (s : Sys) (k wl : Nat) (m0 : Nat) (ac : List Nat × List Nat) (t0 t1 t2 t3 t4 t5 t6 t7 t8 t9 t10 t11 t12 t13 t14 t15 t16 t17 t18 t19 t20 t21 t22 t23 t24 t25 t26 t27 t28 t29 t30 t31 t32 t33 t34 t35 t36 t37 t38 t39 t40 t41 t42 : V) (h : Hp) : opsP (xX s 39 wl k false) xg39_1 21 m0 ac (runK (xX s 39 wl k false) (bodyK s.P Try.f39) xk39_1) ⟨[t0,t1,t2,t3,t4,t5,t6,t7,t8,t9,t10,t11,t12,t13,t14,t15,t16,t17,t18,t19,t20,t21,t22,t23,t24,t25,t26,t27,t28,t29,t30,t31,t32,t33,t34,t35,t36,t37,t38,t39,t40,t41,t42],h⟩ =
  gd t30 (
  opsP (xX s 39 wl k false) xg39_1 22 m0 ac (runK (xX s 39 wl k false) (bodyK s.P Try.f39) xk39_1) ⟨[t0,t1,t2,t3,t4,t5,t6,t7,t8,t9,t10,t11,t12,t13,t14,t15,t16,t17,t18,t19,t20,t21,t22,t23,t24,t25,t26,t27,t28,t29,(V.lit (Value.bool true)),t31,t32,t33,t34,t35,t36,t37,t38,t39,t40,uu,t42],h⟩) (
  bm (vPick t34 t40 (V.lit (Value.bool false))) h fun v57 h58 =>
  opsP (xX s 39 wl k false) xg39_1 22 m0 ac (runK (xX s 39 wl k false) (bodyK s.P Try.f39) xk39_1) ⟨[t0,t1,t2,t3,t4,t5,t6,t7,t8,t9,t10,t11,t12,t13,t14,t15,t16,t17,t18,t19,t20,t21,t22,t23,t24,t25,t26,t27,t28,t29,(V.lit (Value.bool false)),t31,t32,t33,t34,t35,t36,t37,t38,t39,t40,v57,t42],h58⟩) (
  opsP (xX s 39 wl k false) xg39_1 22 m0 ac (runK (xX s 39 wl k false) (bodyK s.P Try.f39) xk39_1) ⟨[t0,t1,t2,t3,t4,t5,t6,t7,t8,t9,t10,t11,t12,t13,t14,t15,t16,t17,t18,t19,t20,t21,t22,t23,t24,t25,t26,t27,t28,t29,t30,t31,t32,t33,t34,t35,t36,t37,t38,t39,t40,uu,t42],h⟩) :=
  (go_gdF0 rfl rfl rfl (by kernel_rfl)
  (by kernel_rfl)
  (st_bm (by kernel_rfl) fun v57 h58 =>
  (by kernel_rfl))
  (by kernel_rfl))
theorem xm39_7 (s : Sys) (k wl : Nat) (m0 : Nat) (ac : List Nat × List Nat) (t0 t1 t2 t3 t4 t5 t6 t7 t8 t9 t10 t11 t12 t13 t14 t15 t16 t17 t18 t19 t20 t21 t22 t23 t24 t25 t26 t27 t28 t29 t30 t31 t32 t33 t34 t35 t36 t37 t38 t39 t40 t41 t42 : V) (h : Hp) : opsP (xX s 39 wl k false) xg39_1 16 m0 ac (runK (xX s 39 wl k false) (bodyK s.P Try.f39) xk39_1) ⟨[t0,t1,t2,t3,t4,t5,t6,t7,t8,t9,t10,t11,t12,t13,t14,t15,t16,t17,t18,t19,t20,t21,t22,t23,t24,t25,t26,t27,t28,t29,t30,t31,t32,t33,t34,t35,t36,t37,t38,t39,t40,t41,t42],h⟩ =
  gd t34 (
  bm (vLoad s.P 26 t35 h) h fun v59 h60 =>
  bm (vBin s.P .shr 26 v59 t1) h60 fun v61 h62 =>
  bm (vBin s.P .and 26 v61 (V.lit (Value.int .u64 1))) h62 fun v63 h64 =>
  bm (vBin s.P .eql 26 v63 (V.lit (Value.int .u64 1))) h64 fun v65 h66 =>
  opsP (xX s 39 wl k false) xg39_1 21 m0 ac (runK (xX s 39 wl k false) (bodyK s.P Try.f39) xk39_1) ⟨[t0,t1,t2,t3,t4,t5,t6,t7,t8,t9,t10,t11,t12,t13,t14,t15,t16,t17,t18,t19,t20,t21,t22,t23,t24,t25,t26,t27,t28,t29,t30,t31,t32,t33,(V.lit (Value.bool true)),t35,v59,t1,v61,v63,v65,t41,t42],h66⟩) (
  opsP (xX s 39 wl k false) xg39_1 21 m0 ac (runK (xX s 39 wl k false) (bodyK s.P Try.f39) xk39_1) ⟨[t0,t1,t2,t3,t4,t5,t6,t7,t8,t9,t10,t11,t12,t13,t14,t15,t16,t17,t18,t19,t20,t21,t22,t23,t24,t25,t26,t27,t28,t29,t30,t31,t32,t33,(V.lit (Value.bool false)),t35,uu,uu,uu,uu,uu,t41,t42],h⟩) (
  opsP (xX s 39 wl k false) xg39_1 17 m0 ac (runK (xX s 39 wl k false) (bodyK s.P Try.f39) xk39_1) ⟨[t0,t1,t2,t3,t4,t5,t6,t7,t8,t9,t10,t11,t12,t13,t14,t15,t16,t17,t18,t19,t20,t21,t22,t23,t24,t25,t26,t27,t28,t29,t30,t31,t32,t33,t34,t35,uu,t37,t38,t39,t40,t41,t42],h⟩) :=
  (go_gdT0 rfl rfl rfl (by kernel_rfl)
  (st_bm (by kernel_rfl) fun v59 h60 =>
  (go_run0 rfl rfl rfl (by kernel_rfl) (st_id (v := t1) (H := h60) (by kernel_rfl)
  (go_run0 rfl rfl rfl (by kernel_rfl) (st_bm (by kernel_rfl) fun v61 h62 =>
  (go_run0 rfl rfl rfl (by kernel_rfl) (st_bm (by kernel_rfl) fun v63 h64 =>
  (go_run0 rfl rfl rfl (by kernel_rfl) (st_bm (by kernel_rfl) fun v65 h66 =>
  (by kernel_rfl))))))))))
  (go_skip0 rfl rfl rfl (by kernel_rfl)
  (go_skip0 rfl rfl rfl (by kernel_rfl)
  (go_skip0 rfl rfl rfl (by kernel_rfl)
  (go_skip0 rfl rfl rfl (by kernel_rfl)
  (by kernel_rfl)))))
  (by kernel_rfl))
theorem xm39_8 (s : Sys) (k wl : Nat) (m0 : Nat) (ac : List Nat × List Nat) (t0 t1 t2 t3 t4 t5 t6 t7 t8 t9 t10 t11 t12 t13 t14 t15 t16 t17 t18 t19 t20 t21 t22 t23 t24 t25 t26 t27 t28 t29 t30 t31 t32 t33 t34 t35 t36 t37 t38 t39 t40 t41 t42 : V) (h : Hp) : opsP (xX s 39 wl k false) xg39_1 17 m0 ac (runK (xX s 39 wl k false) (bodyK s.P Try.f39) xk39_1) ⟨[t0,t1,t2,t3,t4,t5,t6,t7,t8,t9,t10,t11,t12,t13,t14,t15,t16,t17,t18,t19,t20,t21,t22,t23,t24,t25,t26,t27,t28,t29,t30,t31,t32,t33,t34,t35,t36,t37,t38,t39,t40,t41,t42],h⟩ =
  gd t34 (
  bm (vBin s.P .shr 26 t36 t1) h fun v67 h68 =>
  bm (vBin s.P .and 26 v67 (V.lit (Value.int .u64 1))) h68 fun v69 h70 =>
  bm (vBin s.P .eql 26 v69 (V.lit (Value.int .u64 1))) h70 fun v71 h72 =>
  opsP (xX s 39 wl k false) xg39_1 21 m0 ac (runK (xX s 39 wl k false) (bodyK s.P Try.f39) xk39_1) ⟨[t0,t1,t2,t3,t4,t5,t6,t7,t8,t9,t10,t11,t12,t13,t14,t15,t16,t17,t18,t19,t20,t21,t22,t23,t24,t25,t26,t27,t28,t29,t30,t31,t32,t33,(V.lit (Value.bool true)),t35,t36,t1,v67,v69,v71,t41,t42],h72⟩) (
  opsP (xX s 39 wl k false) xg39_1 21 m0 ac (runK (xX s 39 wl k false) (bodyK s.P Try.f39) xk39_1) ⟨[t0,t1,t2,t3,t4,t5,t6,t7,t8,t9,t10,t11,t12,t13,t14,t15,t16,t17,t18,t19,t20,t21,t22,t23,t24,t25,t26,t27,t28,t29,t30,t31,t32,t33,(V.lit (Value.bool false)),t35,t36,uu,uu,uu,uu,t41,t42],h⟩) (
  opsP (xX s 39 wl k false) xg39_1 18 m0 ac (runK (xX s 39 wl k false) (bodyK s.P Try.f39) xk39_1) ⟨[t0,t1,t2,t3,t4,t5,t6,t7,t8,t9,t10,t11,t12,t13,t14,t15,t16,t17,t18,t19,t20,t21,t22,t23,t24,t25,t26,t27,t28,t29,t30,t31,t32,t33,t34,t35,t36,uu,t38,t39,t40,t41,t42],h⟩) :=
  (go_gdT0 rfl rfl rfl (by kernel_rfl)
  (st_id (v := t1) (H := h) (by kernel_rfl)
  (go_run0 rfl rfl rfl (by kernel_rfl) (st_bm (by kernel_rfl) fun v67 h68 =>
  (go_run0 rfl rfl rfl (by kernel_rfl) (st_bm (by kernel_rfl) fun v69 h70 =>
  (go_run0 rfl rfl rfl (by kernel_rfl) (st_bm (by kernel_rfl) fun v71 h72 =>
  (by kernel_rfl))))))))
  (go_skip0 rfl rfl rfl (by kernel_rfl)
  (go_skip0 rfl rfl rfl (by kernel_rfl)
  (go_skip0 rfl rfl rfl (by kernel_rfl)
  (by kernel_rfl))))
  (by kernel_rfl))
theorem xm39_9 (s : Sys) (k wl : Nat) (m0 : Nat) (ac : List Nat × List Nat) (t0 t1 t2 t3 t4 t5 t6 t7 t8 t9 t10 t11 t12 t13 t14 t15 t16 t17 t18 t19 t20 t21 t22 t23 t24 t25 t26 t27 t28 t29 t30 t31 t32 t33 t34 t35 t36 t37 t38 t39 t40 t41 t42 : V) (h : Hp) : opsP (xX s 39 wl k false) xg39_1 18 m0 ac (runK (xX s 39 wl k false) (bodyK s.P Try.f39) xk39_1) ⟨[t0,t1,t2,t3,t4,t5,t6,t7,t8,t9,t10,t11,t12,t13,t14,t15,t16,t17,t18,t19,t20,t21,t22,t23,t24,t25,t26,t27,t28,t29,t30,t31,t32,t33,t34,t35,t36,t37,t38,t39,t40,t41,t42],h⟩ =
  gd t34 (
  bm (vBin s.P .shr 26 t36 t37) h fun v73 h74 =>
  bm (vBin s.P .and 26 v73 (V.lit (Value.int .u64 1))) h74 fun v75 h76 =>
  bm (vBin s.P .eql 26 v75 (V.lit (Value.int .u64 1))) h76 fun v77 h78 =>
  opsP (xX s 39 wl k false) xg39_1 21 m0 ac (runK (xX s 39 wl k false) (bodyK s.P Try.f39) xk39_1) ⟨[t0,t1,t2,t3,t4,t5,t6,t7,t8,t9,t10,t11,t12,t13,t14,t15,t16,t17,t18,t19,t20,t21,t22,t23,t24,t25,t26,t27,t28,t29,t30,t31,t32,t33,(V.lit (Value.bool true)),t35,t36,t37,v73,v75,v77,t41,t42],h78⟩) (
  opsP (xX s 39 wl k false) xg39_1 21 m0 ac (runK (xX s 39 wl k false) (bodyK s.P Try.f39) xk39_1) ⟨[t0,t1,t2,t3,t4,t5,t6,t7,t8,t9,t10,t11,t12,t13,t14,t15,t16,t17,t18,t19,t20,t21,t22,t23,t24,t25,t26,t27,t28,t29,t30,t31,t32,t33,(V.lit (Value.bool false)),t35,t36,t37,uu,uu,uu,t41,t42],h⟩) (
  opsP (xX s 39 wl k false) xg39_1 19 m0 ac (runK (xX s 39 wl k false) (bodyK s.P Try.f39) xk39_1) ⟨[t0,t1,t2,t3,t4,t5,t6,t7,t8,t9,t10,t11,t12,t13,t14,t15,t16,t17,t18,t19,t20,t21,t22,t23,t24,t25,t26,t27,t28,t29,t30,t31,t32,t33,t34,t35,t36,t37,uu,t39,t40,t41,t42],h⟩) :=
  (go_gdT0 rfl rfl rfl (by kernel_rfl)
  (st_bm (by kernel_rfl) fun v73 h74 =>
  (go_run0 rfl rfl rfl (by kernel_rfl) (st_bm (by kernel_rfl) fun v75 h76 =>
  (go_run0 rfl rfl rfl (by kernel_rfl) (st_bm (by kernel_rfl) fun v77 h78 =>
  (by kernel_rfl))))))
  (go_skip0 rfl rfl rfl (by kernel_rfl)
  (go_skip0 rfl rfl rfl (by kernel_rfl)
  (by kernel_rfl)))
  (by kernel_rfl))
theorem xm39_10 (s : Sys) (k wl : Nat) (m0 : Nat) (ac : List Nat × List Nat) (t0 t1 t2 t3 t4 t5 t6 t7 t8 t9 t10 t11 t12 t13 t14 t15 t16 t17 t18 t19 t20 t21 t22 t23 t24 t25 t26 t27 t28 t29 t30 t31 t32 t33 t34 t35 t36 t37 t38 t39 t40 t41 t42 : V) (h : Hp) : opsP (xX s 39 wl k false) xg39_1 19 m0 ac (runK (xX s 39 wl k false) (bodyK s.P Try.f39) xk39_1) ⟨[t0,t1,t2,t3,t4,t5,t6,t7,t8,t9,t10,t11,t12,t13,t14,t15,t16,t17,t18,t19,t20,t21,t22,t23,t24,t25,t26,t27,t28,t29,t30,t31,t32,t33,t34,t35,t36,t37,t38,t39,t40,t41,t42],h⟩ =
  gd t34 (
  bm (vBin s.P .and 26 t38 (V.lit (Value.int .u64 1))) h fun v79 h80 =>
  bm (vBin s.P .eql 26 v79 (V.lit (Value.int .u64 1))) h80 fun v81 h82 =>
  opsP (xX s 39 wl k false) xg39_1 21 m0 ac (runK (xX s 39 wl k false) (bodyK s.P Try.f39) xk39_1) ⟨[t0,t1,t2,t3,t4,t5,t6,t7,t8,t9,t10,t11,t12,t13,t14,t15,t16,t17,t18,t19,t20,t21,t22,t23,t24,t25,t26,t27,t28,t29,t30,t31,t32,t33,(V.lit (Value.bool true)),t35,t36,t37,t38,v79,v81,t41,t42],h82⟩) (
  opsP (xX s 39 wl k false) xg39_1 21 m0 ac (runK (xX s 39 wl k false) (bodyK s.P Try.f39) xk39_1) ⟨[t0,t1,t2,t3,t4,t5,t6,t7,t8,t9,t10,t11,t12,t13,t14,t15,t16,t17,t18,t19,t20,t21,t22,t23,t24,t25,t26,t27,t28,t29,t30,t31,t32,t33,(V.lit (Value.bool false)),t35,t36,t37,t38,uu,uu,t41,t42],h⟩) (
  opsP (xX s 39 wl k false) xg39_1 20 m0 ac (runK (xX s 39 wl k false) (bodyK s.P Try.f39) xk39_1) ⟨[t0,t1,t2,t3,t4,t5,t6,t7,t8,t9,t10,t11,t12,t13,t14,t15,t16,t17,t18,t19,t20,t21,t22,t23,t24,t25,t26,t27,t28,t29,t30,t31,t32,t33,t34,t35,t36,t37,t38,uu,t40,t41,t42],h⟩) :=
  (go_gdT0 rfl rfl rfl (by kernel_rfl)
  (st_bm (by kernel_rfl) fun v79 h80 =>
  (go_run0 rfl rfl rfl (by kernel_rfl) (st_bm (by kernel_rfl) fun v81 h82 =>
  (by kernel_rfl))))
  (go_skip0 rfl rfl rfl (by kernel_rfl)
  (by kernel_rfl))
  (by kernel_rfl))
theorem xm39_11 (s : Sys) (k wl : Nat) (m0 : Nat) (ac : List Nat × List Nat) (t0 t1 t2 t3 t4 t5 t6 t7 t8 t9 t10 t11 t12 t13 t14 t15 t16 t17 t18 t19 t20 t21 t22 t23 t24 t25 t26 t27 t28 t29 t30 t31 t32 t33 t34 t35 t36 t37 t38 t39 t40 t41 t42 : V) (h : Hp) : opsP (xX s 39 wl k false) xg39_1 20 m0 ac (runK (xX s 39 wl k false) (bodyK s.P Try.f39) xk39_1) ⟨[t0,t1,t2,t3,t4,t5,t6,t7,t8,t9,t10,t11,t12,t13,t14,t15,t16,t17,t18,t19,t20,t21,t22,t23,t24,t25,t26,t27,t28,t29,t30,t31,t32,t33,t34,t35,t36,t37,t38,t39,t40,t41,t42],h⟩ =
  gd t34 (
  bm (vBin s.P .eql 26 t39 (V.lit (Value.int .u64 1))) h fun v83 h84 =>
  opsP (xX s 39 wl k false) xg39_1 21 m0 ac (runK (xX s 39 wl k false) (bodyK s.P Try.f39) xk39_1) ⟨[t0,t1,t2,t3,t4,t5,t6,t7,t8,t9,t10,t11,t12,t13,t14,t15,t16,t17,t18,t19,t20,t21,t22,t23,t24,t25,t26,t27,t28,t29,t30,t31,t32,t33,(V.lit (Value.bool true)),t35,t36,t37,t38,t39,v83,t41,t42],h84⟩) (
  opsP (xX s 39 wl k false) xg39_1 21 m0 ac (runK (xX s 39 wl k false) (bodyK s.P Try.f39) xk39_1) ⟨[t0,t1,t2,t3,t4,t5,t6,t7,t8,t9,t10,t11,t12,t13,t14,t15,t16,t17,t18,t19,t20,t21,t22,t23,t24,t25,t26,t27,t28,t29,t30,t31,t32,t33,(V.lit (Value.bool false)),t35,t36,t37,t38,t39,uu,t41,t42],h⟩) (
  opsP (xX s 39 wl k false) xg39_1 21 m0 ac (runK (xX s 39 wl k false) (bodyK s.P Try.f39) xk39_1) ⟨[t0,t1,t2,t3,t4,t5,t6,t7,t8,t9,t10,t11,t12,t13,t14,t15,t16,t17,t18,t19,t20,t21,t22,t23,t24,t25,t26,t27,t28,t29,t30,t31,t32,t33,t34,t35,t36,t37,t38,t39,uu,t41,t42],h⟩) :=
  (go_gdT0 rfl rfl rfl (by kernel_rfl)
  (st_bm (by kernel_rfl) fun v83 h84 =>
  (by kernel_rfl))
  (by kernel_rfl)
  (by kernel_rfl))
theorem xk39_0_ret (cx : Cx) (K : Out → St → Option (V × Hp)) (s : St) : runK cx K xk39_0 .ret s = K .ret s := by kernel_rfl
theorem xk39_1_ret (cx : Cx) (K : Out → St → Option (V × Hp)) (s : St) : runK cx K xk39_1 .ret s = K .ret s := by kernel_rfl
-- names: xb39,xm39_0,xm39_1,xm39_2,xm39_3,xm39_4,xm39_5,xm39_6,xm39_7,xm39_8,xm39_9,xm39_10,xm39_11,xk39_0_ret,xk39_1_ret

theorem xb40 (s : Sys) (k wl : Nat) (t0 : V) (h : Hp) : bodyV (xX s 40 wl k false) Try.f40 [t0] h =
  bm (vBin s.P .and 26 t0 (V.lit (Value.int .u64 65535))) h fun v1 h2 =>
  some (v1,h2) :=
  bodyV_run rfl (go_seq (go_reg0
  (go_op0 rfl rfl (st_id (v := (V.lit (Value.int .u64 0))) (H := h) (by kernel_rfl)
  (go_end0 (by kernel_rfl)
  (go_seq (go_reg0
  (go_op0 rfl rfl (st_id (v := t0) (H := h) (by kernel_rfl)
  (go_op0 rfl rfl (st_bm (by kernel_rfl) fun v1 h2 =>
  (go_op0 rfl rfl (st_id (v := v1) (H := h2) (by kernel_rfl)
  (go_end0 (by kernel_rfl)
  (go_ret (by kernel_rfl))))))))))))))))
theorem xe40 (k wl : Nat) (t0 : V) (h : Hp) : evF Try.prog xM (k + 1) wl 40 [t0] h = bodyV (xX (xS k) 40 wl k false) Try.f40 [t0] h := by kernel_rfl
-- names: xb40,
noncomputable def xq42_0 : Code := codeAt (bodyOf Try.f42) [1,0,1,0]
noncomputable def xl42_0 : Code := codeAt (bodyOf Try.f42) [1,0,1,0,0]
noncomputable def xl42_1 : Code := codeAt (bodyOf Try.f42) [1,0,1,0,1]
noncomputable def xk42_0 : List Fr := [.block 0,.seq (codeAt (bodyOf Try.f42) [1,1])]
theorem xq42_0_eq : xq42_0 = .rangeFunc (.tmp 5) #[6] xl42_0 xl42_1 := by kernel_rfl
theorem xb42 (s : Sys) (k wl : Nat) (t0 : V) (h : Hp) : bodyV (xX s 42 wl k false) Try.f42 [t0] h =
  bp (opAlloc s.P 3 h) fun v1 h2 =>
  bp (callV (xX s 42 wl k false) false true (.fn (.func 81) [] []) [t0] h2) fun v3 h4 =>
  execK (xX s 42 wl k false) xq42_0 none (runK (xX s 42 wl k false) (bodyK s.P Try.f42) xk42_0) ⟨[t0,uu,v1,uu,t0,v3,uu,uu],h4⟩ :=
  bodyV_run rfl (go_seq (go_reg0
  (go_op0 rfl rfl (st_bp (by kernel_rfl) fun v1 h2 =>
  (go_end0 (by kernel_rfl)
  (go_seq (go_seq (go_reg0
  (go_op0 rfl rfl (st_id (v := t0) (H := h2) (by kernel_rfl)
  (go_op0 rfl rfl (st_bp (by kernel_rfl) fun v3 h4 =>
  (go_end0 (by kernel_rfl)
  (go_block (by kernel_rfl)))))))))))))))
theorem xe42 (k wl : Nat) (t0 : V) (h : Hp) : evF Try.prog xM (k + 1) wl 42 [t0] h = bodyV (xX (xS k) 42 wl k false) Try.f42 [t0] h := by kernel_rfl
theorem xz42 (P : Program) (t0 t1 t2 t3 t4 t5 t6 t7 : V) (h : Hp) : bodyK P Try.f42 .ret ⟨[t0,t1,t2,t3,t4,t5,t6,t7],h⟩ = resO [vLoad P 3 t2 h] h := by kernel_rfl
theorem xj42_0 (s : Sys) (k wl : Nat) (t0 t1 t2 t3 t4 t5 t6 t7 : V) (h : Hp) : runK (xX s 42 wl k false) (bodyK s.P Try.f42) xk42_0 .norm ⟨[t0,t1,t2,t3,t4,t5,t6,t7],h⟩ =
  bs (vStore s.P wl 3 t2 (V.lit (Value.int .i64 (-1))) h) fun h5 =>
  resO [vLoad s.P 3 t2 h5] h5 :=
  (rt_block_norm (go_seq (go_reg0
  (go_op0 rfl rfl (st_bs (by kernel_rfl) fun h5 =>
  (go_end0 (by kernel_rfl)
  (go_ret (by kernel_rfl))))))))
theorem xq42_1_0_1_0_1 (s : Sys) (K : Out → St → Option (V × Hp)) (k wl : Nat) (rd : Bool) (t0 t1 t2 t3 t4 t5 t6 t7 : V) (h : Hp) : runK (xX s 42 wl k rd) K [.seq xl42_1] .norm ⟨[t0,t1,t2,t3,t4,t5,t6,t7],h⟩ =
  bs (vStore s.P wl 3 t2 t3 h) fun h6 =>
  K .ret ⟨[t0,t1,t2,t3,t4,t5,t6,t3],h6⟩ :=
  (go_block (go_seq (go_reg0
  (go_op0 rfl rfl (st_id (v := t3) (H := h) (by kernel_rfl)
  (go_op0 rfl rfl (st_bs (by kernel_rfl) fun h6 =>
  (go_end0 (by kernel_rfl)
  (go_ret (rt_block_ret (by kernel_rfl)))))))))))
theorem xq42_1_0_1_0_0 (s : Sys) (K : Out → St → Option (V × Hp)) (k wl : Nat) (rd : Bool) (t0 t1 t2 t3 t4 t5 t6 t7 : V) (h : Hp) : runK (xX s 42 wl k rd) K [.seq xl42_0] .norm ⟨[t0,t1,t2,t3,t4,t5,t6,t7],h⟩ =
  K .norm ⟨[t0,t1,t2,t6,t4,t5,t6,t7],h⟩ :=
  (go_reg0
  (go_op0 rfl rfl (st_id (v := t6) (H := h) (by kernel_rfl)
  (go_end0 (by kernel_rfl)
  (by kernel_rfl)))))
theorem xk42_0_ret (cx : Cx) (K : Out → St → Option (V × Hp)) (s : St) : runK cx K xk42_0 .ret s = K .ret s := by kernel_rfl
-- names: xb42,xz42,xj42_0,xq42_1_0_1_0_1,xq42_1_0_1_0_0,xk42_0_ret
-- range over a function at [1,0,1,0]

theorem xb43 (s : Sys) (k wl : Nat) (t0 : V) (h : Hp) : bodyV (xX s 43 wl k false) Try.f43 [t0] h =
  bp (opBox t0 h) fun v1 h2 =>
  bm (vFieldAddr s.P 28 v1 6) h2 fun v3 h4 =>
  bm (vLoad s.P 3 v3 h4) h4 fun v5 h6 =>
  bm (vBin s.P .neq 3 v5 (V.lit (Value.int .i64 0))) h6 fun v7 h8 =>
  some (v7,h8) :=
  bodyV_run rfl (go_seq (go_reg0
  (go_op0 rfl rfl (st_bp (by kernel_rfl) fun v1 h2 =>
  (go_op0 rfl rfl (st_id (v := (V.lit (Value.bool false))) (H := h2) (by kernel_rfl)
  (go_end0 (by kernel_rfl)
  (go_seq (go_reg0
  (go_op0 rfl rfl (st_bm (by kernel_rfl) fun v3 h4 =>
  (go_op0 rfl rfl (st_bm (by kernel_rfl) fun v5 h6 =>
  (go_op0 rfl rfl (st_bm (by kernel_rfl) fun v7 h8 =>
  (go_op0 rfl rfl (st_id (v := v7) (H := h8) (by kernel_rfl)
  (go_end0 (by kernel_rfl)
  (go_ret (by kernel_rfl))))))))))))))))))))
theorem xe43 (k wl : Nat) (t0 : V) (h : Hp) : evF Try.prog xM (k + 1) wl 43 [t0] h = bodyV (xX (xS k) 43 wl k false) Try.f43 [t0] h := by kernel_rfl
-- names: xb43,
noncomputable def xl45_0 : Code := codeAt (bodyOf Try.f45) [1,0,1,0,0]
noncomputable def xk45_0 : List Fr := [.block 0,.seq (codeAt (bodyOf Try.f45) [1,1])]
noncomputable def xg45_0 : Code := codeAt (bodyOf Try.f45) [1,0,1,0,0,0,0]
noncomputable def xk45_1 : List Fr := [.seq (codeAt (bodyOf Try.f45) [1,0,1,0,0,0,1]),.seq (codeAt (bodyOf Try.f45) [1,0,1,0,0,1])]
theorem xb45 (s : Sys) (k wl : Nat) (t0 : V) (h : Hp) : bodyV (xX s 45 wl k false) Try.f45 [t0] h =
  itX (xX s 45 wl k false) xl45_0 h.length (runK (xX s 45 wl k false) (bodyK s.P Try.f45) xk45_0) k ⟨[(V.kill h.length t0),(V.kill h.length uu),(V.lit (Value.bool false)),(V.lit (Value.int .i64 0)),.junk,.junk,.junk,.junk,.junk,.junk,.junk,.junk,.junk,.junk,.junk,.junk,.junk,.junk,.junk,.junk,(V.kill h.length uu),(V.kill h.length uu),(V.kill h.length uu)],cutH h.length h⟩ :=
  bodyV_run rfl (go_seq (go_reg0
  (go_op0 rfl rfl (st_id (v := (V.lit (Value.bool false))) (H := h) (by kernel_rfl)
  (go_end0 (by kernel_rfl)
  (go_seq (go_seq (go_reg0
  (go_op0 rfl rfl (st_id (v := (V.lit (Value.int .i64 0))) (H := h) (by kernel_rfl)
  (go_end0 (by kernel_rfl)
  (go_block (by kernel_rfl)))))))))))))
theorem xe45 (k wl : Nat) (t0 : V) (h : Hp) : evF Try.prog xM (k + 1) wl 45 [t0] h = bodyV (xX (xS k) 45 wl k false) Try.f45 [t0] h := by kernel_rfl
theorem xz45 (P : Program) (t0 t1 t2 t3 t4 t5 t6 t7 t8 t9 t10 t11 t12 t13 t14 t15 t16 t17 t18 t19 t20 t21 t22 : V) (h : Hp) : bodyK P Try.f45 .ret ⟨[t0,t1,t2,t3,t4,t5,t6,t7,t8,t9,t10,t11,t12,t13,t14,t15,t16,t17,t18,t19,t20,t21,t22],h⟩ = some (t2,h) := by kernel_rfl
theorem xr45_0 (s : Sys) (K : Out → St → Option (V × Hp)) (k wl : Nat) (rd : Bool) (n n0 : Nat) (t0 t1 t2 t3 t4 t5 t6 t7 t8 t9 t10 t11 t12 t13 t14 t15 t16 t17 t18 t19 t20 t21 t22 : V) (h : Hp) : itX (xX s 45 wl k rd) xl45_0 n0 K (n + 1) ⟨[t0,t1,t2,t3,t4,t5,t6,t7,t8,t9,t10,t11,t12,t13,t14,t15,t16,t17,t18,t19,t20,t21,t22],h⟩ =
  bp (opLen s.P 50 t0 h) fun v1 h2 =>
  bm (vBin s.P .lss 3 t3 v1) h2 fun v3 h4 =>
  gd v3 (
  bm (vBin s.P .leq 3 t3 (V.lit (Value.int .i64 10))) h4 fun v5 h6 =>
  opsP (xX s 45 wl k rd) xg45_0 7 h.length ([],[]) (runK (xX s 45 wl k rd) (nextK (xX s 45 wl k rd) xl45_0 n0 K n) xk45_1) ⟨[t0,t1,t2,t3,t3,t0,v1,v3,(V.lit (Value.bool true)),t3,v5,t11,t12,t13,t14,t15,t16,t17,t18,t19,t20,t21,t22],h6⟩) (
  opsP (xX s 45 wl k rd) xg45_0 7 h.length ([],[]) (runK (xX s 45 wl k rd) (nextK (xX s 45 wl k rd) xl45_0 n0 K n) xk45_1) ⟨[t0,t1,t2,t3,t3,t0,v1,v3,(V.lit (Value.bool false)),uu,uu,t11,t12,t13,t14,t15,t16,t17,t18,t19,t20,t21,t22],h4⟩) (
  opsP (xX s 45 wl k rd) xg45_0 6 h.length ([],[]) (runK (xX s 45 wl k rd) (nextK (xX s 45 wl k rd) xl45_0 n0 K n) xk45_1) ⟨[t0,t1,t2,t3,t3,t0,v1,v3,v3,uu,t10,t11,t12,t13,t14,t15,t16,t17,t18,t19,t20,t21,t22],h4⟩) :=
  itX_step (go_seq (go_seq (go_reg0
  (go_op0 rfl rfl (st_id (v := t3) (H := h) (by kernel_rfl)
  (go_op0 rfl rfl (st_id (v := t0) (H := h) (by kernel_rfl)
  (go_op0 rfl rfl (st_bp (by kernel_rfl) fun v1 h2 =>
  (go_op0 rfl rfl (st_bm (by kernel_rfl) fun v3 h4 =>
  (go_op0 rfl rfl (st_id (v := v3) (H := h4) (by kernel_rfl)
  (go_gdT0 rfl rfl rfl (by kernel_rfl)
  (st_id (v := t3) (H := h4) (by kernel_rfl)
  (go_run0 rfl rfl rfl (by kernel_rfl) (st_bm (by kernel_rfl) fun v5 h6 =>
  (by kernel_rfl))))
  (go_skip0 rfl rfl rfl (by kernel_rfl)
  (by kernel_rfl))
  (by kernel_rfl)))))))))))))))
theorem xj45_0 (s : Sys) (k wl : Nat) (t0 t1 t2 t3 t4 t5 t6 t7 t8 t9 t10 t11 t12 t13 t14 t15 t16 t17 t18 t19 t20 t21 t22 : V) (h : Hp) : runK (xX s 45 wl k false) (bodyK s.P Try.f45) xk45_0 (.exit 0) ⟨[t0,t1,t2,t3,t4,t5,t6,t7,t8,t9,t10,t11,t12,t13,t14,t15,t16,t17,t18,t19,t20,t21,t22],h⟩ =
  bp (opLen s.P 50 t0 h) fun v7 h8 =>
  bm (vBin s.P .leq 3 v7 (V.lit (Value.int .i64 10))) h8 fun v9 h10 =>
  some (v9,h10) :=
  (rt_block_eq (go_seq (go_reg0
  (go_op0 rfl rfl (st_id (v := t0) (H := h) (by kernel_rfl)
  (go_op0 rfl rfl (st_bp (by kernel_rfl) fun v7 h8 =>
  (go_op0 rfl rfl (st_bm (by kernel_rfl) fun v9 h10 =>
  (go_op0 rfl rfl (st_id (v := v9) (H := h10) (by kernel_rfl)
  (go_end0 (by kernel_rfl)
  (go_ret (by kernel_rfl))))))))))))))
theorem xm45_1 (s : Sys) (K : Out → St → Option (V × Hp)) (k wl : Nat) (rd : Bool) (n n0 : Nat) (m0 : Nat) (ac : List Nat × List Nat) (t0 t1 t2 t3 t4 t5 t6 t7 t8 t9 t10 t11 t12 t13 t14 t15 t16 t17 t18 t19 t20 t21 t22 : V) (h : Hp) : opsP (xX s 45 wl k rd) xg45_0 7 m0 ac (runK (xX s 45 wl k rd) (nextK (xX s 45 wl k rd) xl45_0 n0 K n) xk45_1) ⟨[t0,t1,t2,t3,t4,t5,t6,t7,t8,t9,t10,t11,t12,t13,t14,t15,t16,t17,t18,t19,t20,t21,t22],h⟩ =
  bm (vPick t8 t10 (V.lit (Value.bool false))) h fun v11 h12 =>
  cnd v11 (
  bm (vIndexAddr s.P 50 t0 t3 h12) h12 fun v13 h14 =>
  bm (vLoad s.P 51 v13 h14) h14 fun v15 h16 =>
  bp (opLen s.P 51 v15 h16) fun v17 h18 =>
  bm (vBin s.P .gtr 3 v17 (V.lit (Value.int .i64 30))) h18 fun v19 h20 =>
  cnd v19 (
  K .ret ⟨[t0,t1,(V.lit (Value.bool false)),t3,t4,t5,t6,t7,t8,t9,t10,v11,t12,t13,t0,t3,v13,v15,v17,v19,t20,t21,t22],h20⟩) (
  bm (vBin s.P .add 3 t3 (V.lit (Value.int .i64 1))) h20 fun v21 h22 =>
  itX (xX s 45 wl k rd) xl45_0 n0 K n ⟨[(V.kill n0 t0),(V.kill n0 t1),(V.kill n0 t2),(V.kill n0 v21),.junk,.junk,.junk,.junk,.junk,.junk,.junk,.junk,.junk,.junk,.junk,.junk,.junk,.junk,.junk,.junk,(V.kill n0 t20),(V.kill n0 t21),(V.kill n0 t22)],cutH n0 h22⟩)) (
  K (.exit 0) ⟨[(V.kill n0 t0),(V.kill n0 t1),(V.kill n0 t2),(V.kill n0 t3),.junk,.junk,.junk,.junk,.junk,.junk,.junk,.junk,.junk,.junk,.junk,.junk,.junk,.junk,.junk,.junk,(V.kill n0 t20),(V.kill n0 t21),(V.kill n0 t22)],cutH n0 h12⟩) :=
  (go_op0 rfl rfl (st_bm (by kernel_rfl) fun v11 h12 =>
  (go_end0 (by kernel_rfl)
  (go_cond (by kernel_rfl)
  (go_skip (go_seq (go_block (go_seq (go_reg0
  (go_op0 rfl rfl (st_id (v := t0) (H := h12) (by kernel_rfl)
  (go_op0 rfl rfl (st_id (v := t3) (H := h12) (by kernel_rfl)
  (go_op0 rfl rfl (st_bm (by kernel_rfl) fun v13 h14 =>
  (go_op0 rfl rfl (st_bm (by kernel_rfl) fun v15 h16 =>
  (go_op0 rfl rfl (st_bp (by kernel_rfl) fun v17 h18 =>
  (go_op0 rfl rfl (st_bm (by kernel_rfl) fun v19 h20 =>
  (go_end0 (by kernel_rfl)
  (go_cond (by kernel_rfl)
  (go_seq (go_reg0
  (go_op0 rfl rfl (st_id (v := (V.lit (Value.bool false))) (H := h20) (by kernel_rfl)
  (go_end0 (by kernel_rfl)
  (go_ret (rt_block_ret (rt_seq_ret (by kernel_rfl)))))))))
  (go_skip (rt_block_norm (go_reg0
  (go_op0 rfl rfl (st_id (v := t3) (H := h20) (by kernel_rfl)
  (go_op0 rfl rfl (st_bm (by kernel_rfl) fun v21 h22 =>
  (go_op0 rfl rfl (st_id (v := v21) (H := h22) (by kernel_rfl)
  (go_end0 (by kernel_rfl)
  (by kernel_rfl))))))))))))))))))))))))))))))
  (go_exit (rt_seq_exit (by kernel_rfl)))))))
theorem xk45_0_ret (cx : Cx) (K : Out → St → Option (V × Hp)) (s : St) : runK cx K xk45_0 .ret s = K .ret s := by kernel_rfl
theorem xk45_1_ret (cx : Cx) (K : Out → St → Option (V × Hp)) (s : St) : runK cx K xk45_1 .ret s = K .ret s := by kernel_rfl
-- names: xb45,xz45,xr45_0,xj45_0,xm45_1,xk45_0_ret,xk45_1_ret
end Go.Ab
