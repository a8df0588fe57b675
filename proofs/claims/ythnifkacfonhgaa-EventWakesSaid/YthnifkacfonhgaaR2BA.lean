/- The program's code,point by point: printed by gen.py. -/
import Derived.Test.YthnifkacfonhgaaR2Seat
set_option linter.unusedVariables false
set_option linter.unusedSimpArgs false
set_option maxRecDepth 100000
set_option linter.unusedVariables false
namespace Go.Ab
open Go.Proofs
noncomputable def xg44_0 : Code := codeAt (bodyOf Try.f44) [1,1,1,0]
noncomputable def xk44_0 : List Fr := [.seq (codeAt (bodyOf Try.f44) [1,1,1,1])]
theorem xb44 (s : Sys) (k wl : Nat) (h : Hp) : bodyV (xX s 44 wl k false) Try.f44 [] h =
  bp (vBuildSlice s.P wl 51 1 [(0,(V.lit (Value.int .i64 5)))] h) fun v1 h2 =>
  bp (vBuildSlice s.P wl 51 1 [(0,(V.lit (Value.int .i64 6)))] h2) fun v3 h4 =>
  bp (vBuildSlice s.P wl 50 2 [(0,v1),(1,v3)] h4) fun v5 h6 =>
  bp (vBuildSlice s.P wl 51 8 [(0,(V.lit (Value.int .i64 0))),(1,(V.lit (Value.int .i64 0))),(2,(V.lit (Value.int .i64 0))),(3,(V.lit (Value.int .i64 1))),(4,(V.lit (Value.int .i64 1))),(5,(V.lit (Value.int .i64 1))),(6,(V.lit (Value.int .i64 0))),(7,(V.lit (Value.int .i64 0)))] h6) fun v7 h8 =>
  bp (callV (xX s 44 wl k false) false true (.fn (.func 46) [] []) [v5,v7] h8) fun v9 h10 =>
  bm (vExtract v9 0) h10 fun v11 h12 =>
  bm (vExtract v9 1) h12 fun v13 h14 =>
  bm (vExtract v9 2) h14 fun v15 h16 =>
  bp (vBuildSlice s.P wl 51 3 [(0,(V.lit (Value.int .i64 0))),(1,(V.lit (Value.int .i64 0))),(2,(V.lit (Value.int .i64 0)))] h16) fun v17 h18 =>
  bp (callV (xX s 44 wl k false) false true (.fn (.func 47) [] []) [v5,v17,(V.lit (Value.int .i64 0))] h18) fun v19 h20 =>
  bm (vBin s.P .eql 3 v19 (V.lit (Value.int .i64 1))) h20 fun v21 h22 =>
  gd v21 (
  bp (vBuildSlice s.P wl 51 6 [(0,(V.lit (Value.int .i64 0))),(1,(V.lit (Value.int .i64 0))),(2,(V.lit (Value.int .i64 0))),(3,(V.lit (Value.int .i64 1))),(4,(V.lit (Value.int .i64 1))),(5,(V.lit (Value.int .i64 1)))] h22) fun v23 h24 =>
  bp (callV (xX s 44 wl k false) false true (.fn (.func 47) [] []) [v5,v23,(V.lit (Value.int .i64 0))] h24) fun v25 h26 =>
  bm (vBin s.P .eql 3 v25 (V.lit (Value.int .i64 1))) h26 fun v27 h28 =>
  opsP (xX s 44 wl k false) xg44_0 9 h16.length ([],[]) (runK (xX s 44 wl k false) (bodyK s.P Try.f44) xk44_0) ⟨[(V.lit (Value.bool false)),v5,v11,v13,v15,v1,v3,v5,v9,v5,v7,v9,v11,v13,v15,v5,v17,v19,v21,(V.lit (Value.bool true)),v5,v23,v25,v27,uu,uu,uu,uu,uu,uu,uu,uu,uu,uu,uu,uu,uu,uu,uu,uu,uu,uu,uu,uu,uu,uu,uu,uu,uu,uu,uu,uu,uu,uu,uu,uu,uu,uu,uu],h28⟩) (
  opsP (xX s 44 wl k false) xg44_0 9 h16.length ([],[]) (runK (xX s 44 wl k false) (bodyK s.P Try.f44) xk44_0) ⟨[(V.lit (Value.bool false)),v5,v11,v13,v15,v1,v3,v5,v9,v5,v7,v9,v11,v13,v15,v5,v17,v19,v21,(V.lit (Value.bool false)),uu,uu,uu,uu,uu,uu,uu,uu,uu,uu,uu,uu,uu,uu,uu,uu,uu,uu,uu,uu,uu,uu,uu,uu,uu,uu,uu,uu,uu,uu,uu,uu,uu,uu,uu,uu,uu,uu,uu],h22⟩) (
  opsP (xX s 44 wl k false) xg44_0 6 h16.length ([],[]) (runK (xX s 44 wl k false) (bodyK s.P Try.f44) xk44_0) ⟨[(V.lit (Value.bool false)),v5,v11,v13,v15,v1,v3,v5,v9,v5,v7,v9,v11,v13,v15,v5,v17,v19,v21,v21,uu,uu,uu,uu,uu,uu,uu,uu,uu,uu,uu,uu,uu,uu,uu,uu,uu,uu,uu,uu,uu,uu,uu,uu,uu,uu,uu,uu,uu,uu,uu,uu,uu,uu,uu,uu,uu,uu,uu],h22⟩) :=
  bodyV_run rfl (go_seq (go_reg0
  (go_op0 rfl rfl (st_id (v := (V.lit (Value.bool false))) (H := h) (by kernel_rfl)
  (go_end0 (by kernel_rfl)
  (go_seq (go_reg0
  (go_op0 rfl rfl (st_bp (by kernel_rfl) fun v1 h2 =>
  (go_op0 rfl rfl (st_bp (by kernel_rfl) fun v3 h4 =>
  (go_op0 rfl rfl (st_bp (by kernel_rfl) fun v5 h6 =>
  (go_op0 rfl rfl (st_id (v := v5) (H := h6) (by kernel_rfl)
  (go_end0 (by kernel_rfl)
  (go_seq (go_reg0
  (go_op0 rfl rfl (st_id (v := v5) (H := h6) (by kernel_rfl)
  (go_op0 rfl rfl (st_bp (by kernel_rfl) fun v7 h8 =>
  (go_op0 rfl rfl (st_bp (by kernel_rfl) fun v9 h10 =>
  (go_op0 rfl rfl (st_id (v := v9) (H := h10) (by kernel_rfl)
  (go_op0 rfl rfl (st_bm (by kernel_rfl) fun v11 h12 =>
  (go_op0 rfl rfl (st_bm (by kernel_rfl) fun v13 h14 =>
  (go_op0 rfl rfl (st_bm (by kernel_rfl) fun v15 h16 =>
  (go_op0 rfl rfl (st_id (v := v11) (H := h16) (by kernel_rfl)
  (go_op0 rfl rfl (st_id (v := v13) (H := h16) (by kernel_rfl)
  (go_op0 rfl rfl (st_id (v := v15) (H := h16) (by kernel_rfl)
  (go_end0 (by kernel_rfl)
  (go_seq (go_reg0
  (go_op0 rfl rfl (st_id (v := v5) (H := h16) (by kernel_rfl)
  (go_op0 rfl rfl (st_bp (by kernel_rfl) fun v17 h18 =>
  (go_op0 rfl rfl (st_bp (by kernel_rfl) fun v19 h20 =>
  (go_op0 rfl rfl (st_bm (by kernel_rfl) fun v21 h22 =>
  (go_op0 rfl rfl (st_id (v := v21) (H := h22) (by kernel_rfl)
  (go_gdT0 rfl rfl rfl (by kernel_rfl)
  (st_id (v := v5) (H := h22) (by kernel_rfl)
  (go_run0 rfl rfl rfl (by kernel_rfl) (st_bp (by kernel_rfl) fun v23 h24 =>
  (go_run0 rfl rfl rfl (by kernel_rfl) (st_bp (by kernel_rfl) fun v25 h26 =>
  (go_run0 rfl rfl rfl (by kernel_rfl) (st_bm (by kernel_rfl) fun v27 h28 =>
  (by kernel_rfl))))))))
  (go_skip0 rfl rfl rfl (by kernel_rfl)
  (go_skip0 rfl rfl rfl (by kernel_rfl)
  (go_skip0 rfl rfl rfl (by kernel_rfl)
  (by kernel_rfl))))
  (by kernel_rfl)))))))))))))))))))))))))))))))))))))))))))))))))))))
theorem xe44 (k wl : Nat) (h : Hp) : evF Try.prog xM (k + 1) wl 44 [] h = bodyV (xX (xS k) 44 wl k false) Try.f44 [] h := by kernel_rfl
theorem xm44_0 (s : Sys) (k wl : Nat) (m0 : Nat) (ac : List Nat × List Nat) (t0 t1 t2 t3 t4 t5 t6 t7 t8 t9 t10 t11 t12 t13 t14 t15 t16 t17 t18 t19 t20 t21 t22 t23 t24 t25 t26 t27 t28 t29 t30 t31 t32 t33 t34 t35 t36 t37 t38 t39 t40 t41 t42 t43 t44 t45 t46 t47 t48 t49 t50 t51 t52 t53 t54 t55 t56 t57 t58 : V) (h : Hp) : opsP (xX s 44 wl k false) xg44_0 9 m0 ac (runK (xX s 44 wl k false) (bodyK s.P Try.f44) xk44_0) ⟨[t0,t1,t2,t3,t4,t5,t6,t7,t8,t9,t10,t11,t12,t13,t14,t15,t16,t17,t18,t19,t20,t21,t22,t23,t24,t25,t26,t27,t28,t29,t30,t31,t32,t33,t34,t35,t36,t37,t38,t39,t40,t41,t42,t43,t44,t45,t46,t47,t48,t49,t50,t51,t52,t53,t54,t55,t56,t57,t58],h⟩ =
  bm (vPick t19 t23 (V.lit (Value.bool false))) h fun v29 h30 =>
  gd v29 (
  bp (opLen s.P 53 t3 h30) fun v31 h32 =>
  bm (vBin s.P .eql 3 v31 (V.lit (Value.int .i64 2))) h32 fun v33 h34 =>
  opsP (xX s 44 wl k false) xg44_0 14 m0 ac (runK (xX s 44 wl k false) (bodyK s.P Try.f44) xk44_0) ⟨[t0,t1,t2,t3,t4,t5,t6,t7,t8,t9,t10,t11,t12,t13,t14,t15,t16,t17,t18,t19,t20,t21,t22,t23,v29,(V.lit (Value.bool true)),t3,v31,v33,t29,t30,t31,t32,t33,t34,t35,t36,t37,t38,t39,t40,t41,t42,t43,t44,t45,t46,t47,t48,t49,t50,t51,t52,t53,t54,t55,t56,t57,t58],h34⟩) (
  opsP (xX s 44 wl k false) xg44_0 14 m0 ac (runK (xX s 44 wl k false) (bodyK s.P Try.f44) xk44_0) ⟨[t0,t1,t2,t3,t4,t5,t6,t7,t8,t9,t10,t11,t12,t13,t14,t15,t16,t17,t18,t19,t20,t21,t22,t23,v29,(V.lit (Value.bool false)),uu,uu,uu,t29,t30,t31,t32,t33,t34,t35,t36,t37,t38,t39,t40,t41,t42,t43,t44,t45,t46,t47,t48,t49,t50,t51,t52,t53,t54,t55,t56,t57,t58],h30⟩) (
  opsP (xX s 44 wl k false) xg44_0 12 m0 ac (runK (xX s 44 wl k false) (bodyK s.P Try.f44) xk44_0) ⟨[t0,t1,t2,t3,t4,t5,t6,t7,t8,t9,t10,t11,t12,t13,t14,t15,t16,t17,t18,t19,t20,t21,t22,t23,v29,v29,uu,t27,t28,t29,t30,t31,t32,t33,t34,t35,t36,t37,t38,t39,t40,t41,t42,t43,t44,t45,t46,t47,t48,t49,t50,t51,t52,t53,t54,t55,t56,t57,t58],h30⟩) :=
  (go_op0 rfl rfl (st_bm (by kernel_rfl) fun v29 h30 =>
  (go_op0 rfl rfl (st_id (v := v29) (H := h30) (by kernel_rfl)
  (go_gdT0 rfl rfl rfl (by kernel_rfl)
  (st_id (v := t3) (H := h30) (by kernel_rfl)
  (go_run0 rfl rfl rfl (by kernel_rfl) (st_bp (by kernel_rfl) fun v31 h32 =>
  (go_run0 rfl rfl rfl (by kernel_rfl) (st_bm (by kernel_rfl) fun v33 h34 =>
  (by kernel_rfl))))))
  (go_skip0 rfl rfl rfl (by kernel_rfl)
  (go_skip0 rfl rfl rfl (by kernel_rfl)
  (by kernel_rfl)))
  (by kernel_rfl))))))
theorem xm44_1 (s : Sys) (k wl : Nat) (m0 : Nat) (ac : List Nat × List Nat) (t0 t1 t2 t3 t4 t5 t6 t7 t8 t9 t10 t11 t12 t13 t14 t15 t16 t17 t18 t19 t20 t21 t22 t23 t24 t25 t26 t27 t28 t29 t30 t31 t32 t33 t34 t35 t36 t37 t38 t39 t40 t41 t42 t43 t44 t45 t46 t47 t48 t49 t50 t51 t52 t53 t54 t55 t56 t57 t58 : V) (h : Hp) : opsP (xX s 44 wl k false) xg44_0 14 m0 ac (runK (xX s 44 wl k false) (bodyK s.P Try.f44) xk44_0) ⟨[t0,t1,t2,t3,t4,t5,t6,t7,t8,t9,t10,t11,t12,t13,t14,t15,t16,t17,t18,t19,t20,t21,t22,t23,t24,t25,t26,t27,t28,t29,t30,t31,t32,t33,t34,t35,t36,t37,t38,t39,t40,t41,t42,t43,t44,t45,t46,t47,t48,t49,t50,t51,t52,t53,t54,t55,t56,t57,t58],h⟩ =
  bm (vPick t25 t28 (V.lit (Value.bool false))) h fun v35 h36 =>
  gd v35 (
  bm (vIndexAddr s.P 53 t3 (V.lit (Value.int .i64 1)) h36) h36 fun v37 h38 =>
  bm (vFieldAddr s.P 28 v37 2) h38 fun v39 h40 =>
  bm (vLoad s.P 3 v39 h40) h40 fun v41 h42 =>
  bm (vBin s.P .eql 3 v41 (V.lit (Value.int .i64 0))) h42 fun v43 h44 =>
  opsP (xX s 44 wl k false) xg44_0 21 m0 ac (runK (xX s 44 wl k false) (bodyK s.P Try.f44) xk44_0) ⟨[t0,t1,t2,t3,t4,t5,t6,t7,t8,t9,t10,t11,t12,t13,t14,t15,t16,t17,t18,t19,t20,t21,t22,t23,t24,t25,t26,t27,t28,v35,(V.lit (Value.bool true)),t3,v37,v39,v41,v43,t36,t37,t38,t39,t40,t41,t42,t43,t44,t45,t46,t47,t48,t49,t50,t51,t52,t53,t54,t55,t56,t57,t58],h44⟩) (
  opsP (xX s 44 wl k false) xg44_0 21 m0 ac (runK (xX s 44 wl k false) (bodyK s.P Try.f44) xk44_0) ⟨[t0,t1,t2,t3,t4,t5,t6,t7,t8,t9,t10,t11,t12,t13,t14,t15,t16,t17,t18,t19,t20,t21,t22,t23,t24,t25,t26,t27,t28,v35,(V.lit (Value.bool false)),uu,uu,uu,uu,uu,t36,t37,t38,t39,t40,t41,t42,t43,t44,t45,t46,t47,t48,t49,t50,t51,t52,t53,t54,t55,t56,t57,t58],h36⟩) (
  opsP (xX s 44 wl k false) xg44_0 17 m0 ac (runK (xX s 44 wl k false) (bodyK s.P Try.f44) xk44_0) ⟨[t0,t1,t2,t3,t4,t5,t6,t7,t8,t9,t10,t11,t12,t13,t14,t15,t16,t17,t18,t19,t20,t21,t22,t23,t24,t25,t26,t27,t28,v35,v35,uu,t32,t33,t34,t35,t36,t37,t38,t39,t40,t41,t42,t43,t44,t45,t46,t47,t48,t49,t50,t51,t52,t53,t54,t55,t56,t57,t58],h36⟩) :=
  (go_op0 rfl rfl (st_bm (by kernel_rfl) fun v35 h36 =>
  (go_op0 rfl rfl (st_id (v := v35) (H := h36) (by kernel_rfl)
  (go_gdT0 rfl rfl rfl (by kernel_rfl)
  (st_id (v := t3) (H := h36) (by kernel_rfl)
  (go_run0 rfl rfl rfl (by kernel_rfl) (st_bm (by kernel_rfl) fun v37 h38 =>
  (go_run0 rfl rfl rfl (by kernel_rfl) (st_bm (by kernel_rfl) fun v39 h40 =>
  (go_run0 rfl rfl rfl (by kernel_rfl) (st_bm (by kernel_rfl) fun v41 h42 =>
  (go_run0 rfl rfl rfl (by kernel_rfl) (st_bm (by kernel_rfl) fun v43 h44 =>
  (by kernel_rfl))))))))))
  (go_skip0 rfl rfl rfl (by kernel_rfl)
  (go_skip0 rfl rfl rfl (by kernel_rfl)
  (go_skip0 rfl rfl rfl (by kernel_rfl)
  (go_skip0 rfl rfl rfl (by kernel_rfl)
  (by kernel_rfl)))))
  (by kernel_rfl))))))
theorem xm44_2 (s : Sys) (k wl : Nat) (m0 : Nat) (ac : List Nat × List Nat) (t0 t1 t2 t3 t4 t5 t6 t7 t8 t9 t10 t11 t12 t13 t14 t15 t16 t17 t18 t19 t20 t21 t22 t23 t24 t25 t26 t27 t28 t29 t30 t31 t32 t33 t34 t35 t36 t37 t38 t39 t40 t41 t42 t43 t44 t45 t46 t47 t48 t49 t50 t51 t52 t53 t54 t55 t56 t57 t58 : V) (h : Hp) : opsP (xX s 44 wl k false) xg44_0 21 m0 ac (runK (xX s 44 wl k false) (bodyK s.P Try.f44) xk44_0) ⟨[t0,t1,t2,t3,t4,t5,t6,t7,t8,t9,t10,t11,t12,t13,t14,t15,t16,t17,t18,t19,t20,t21,t22,t23,t24,t25,t26,t27,t28,t29,t30,t31,t32,t33,t34,t35,t36,t37,t38,t39,t40,t41,t42,t43,t44,t45,t46,t47,t48,t49,t50,t51,t52,t53,t54,t55,t56,t57,t58],h⟩ =
  bm (vPick t30 t35 (V.lit (Value.bool false))) h fun v45 h46 =>
  gd v45 (
  bm (vIndexAddr s.P 53 t3 (V.lit (Value.int .i64 1)) h46) h46 fun v47 h48 =>
  bm (vFieldAddr s.P 28 v47 6) h48 fun v49 h50 =>
  bm (vLoad s.P 3 v49 h50) h50 fun v51 h52 =>
  bm (vBin s.P .eql 3 v51 (V.lit (Value.int .i64 1))) h52 fun v53 h54 =>
  opsP (xX s 44 wl k false) xg44_0 28 m0 ac (runK (xX s 44 wl k false) (bodyK s.P Try.f44) xk44_0) ⟨[t0,t1,t2,t3,t4,t5,t6,t7,t8,t9,t10,t11,t12,t13,t14,t15,t16,t17,t18,t19,t20,t21,t22,t23,t24,t25,t26,t27,t28,t29,t30,t31,t32,t33,t34,t35,v45,(V.lit (Value.bool true)),t3,v47,v49,v51,v53,t43,t44,t45,t46,t47,t48,t49,t50,t51,t52,t53,t54,t55,t56,t57,t58],h54⟩) (
  opsP (xX s 44 wl k false) xg44_0 28 m0 ac (runK (xX s 44 wl k false) (bodyK s.P Try.f44) xk44_0) ⟨[t0,t1,t2,t3,t4,t5,t6,t7,t8,t9,t10,t11,t12,t13,t14,t15,t16,t17,t18,t19,t20,t21,t22,t23,t24,t25,t26,t27,t28,t29,t30,t31,t32,t33,t34,t35,v45,(V.lit (Value.bool false)),uu,uu,uu,uu,uu,t43,t44,t45,t46,t47,t48,t49,t50,t51,t52,t53,t54,t55,t56,t57,t58],h46⟩) (
  opsP (xX s 44 wl k false) xg44_0 24 m0 ac (runK (xX s 44 wl k false) (bodyK s.P Try.f44) xk44_0) ⟨[t0,t1,t2,t3,t4,t5,t6,t7,t8,t9,t10,t11,t12,t13,t14,t15,t16,t17,t18,t19,t20,t21,t22,t23,t24,t25,t26,t27,t28,t29,t30,t31,t32,t33,t34,t35,v45,v45,uu,t39,t40,t41,t42,t43,t44,t45,t46,t47,t48,t49,t50,t51,t52,t53,t54,t55,t56,t57,t58],h46⟩) :=
  (go_op0 rfl rfl (st_bm (by kernel_rfl) fun v45 h46 =>
  (go_op0 rfl rfl (st_id (v := v45) (H := h46) (by kernel_rfl)
  (go_gdT0 rfl rfl rfl (by kernel_rfl)
  (st_id (v := t3) (H := h46) (by kernel_rfl)
  (go_run0 rfl rfl rfl (by kernel_rfl) (st_bm (by kernel_rfl) fun v47 h48 =>
  (go_run0 rfl rfl rfl (by kernel_rfl) (st_bm (by kernel_rfl) fun v49 h50 =>
  (go_run0 rfl rfl rfl (by kernel_rfl) (st_bm (by kernel_rfl) fun v51 h52 =>
  (go_run0 rfl rfl rfl (by kernel_rfl) (st_bm (by kernel_rfl) fun v53 h54 =>
  (by kernel_rfl))))))))))
  (go_skip0 rfl rfl rfl (by kernel_rfl)
  (go_skip0 rfl rfl rfl (by kernel_rfl)
  (go_skip0 rfl rfl rfl (by kernel_rfl)
  (go_skip0 rfl rfl rfl (by kernel_rfl)
  (by kernel_rfl)))))
  (by kernel_rfl))))))
theorem xm44_3 (s : Sys) (k wl : Nat) (m0 : Nat) (ac : List Nat × List Nat) (t0 t1 t2 t3 t4 t5 t6 t7 t8 t9 t10 t11 t12 t13 t14 t15 t16 t17 t18 t19 t20 t21 t22 t23 t24 t25 t26 t27 t28 t29 t30 t31 t32 t33 t34 t35 t36 t37 t38 t39 t40 t41 t42 t43 t44 t45 t46 t47 t48 t49 t50 t51 t52 t53 t54 t55 t56 t57 t58 : V) (h : Hp) : opsP (xX s 44 wl k false) xg44_0 28 m0 ac (runK (xX s 44 wl k false) (bodyK s.P Try.f44) xk44_0) ⟨[t0,t1,t2,t3,t4,t5,t6,t7,t8,t9,t10,t11,t12,t13,t14,t15,t16,t17,t18,t19,t20,t21,t22,t23,t24,t25,t26,t27,t28,t29,t30,t31,t32,t33,t34,t35,t36,t37,t38,t39,t40,t41,t42,t43,t44,t45,t46,t47,t48,t49,t50,t51,t52,t53,t54,t55,t56,t57,t58],h⟩ =
  bm (vPick t37 t42 (V.lit (Value.bool false))) h fun v55 h56 =>
  gd v55 (
  bp (opLen s.P 53 t4 h56) fun v57 h58 =>
  bm (vBin s.P .eql 3 v57 (V.lit (Value.int .i64 2))) h58 fun v59 h60 =>
  opsP (xX s 44 wl k false) xg44_0 33 m0 ac (runK (xX s 44 wl k false) (bodyK s.P Try.f44) xk44_0) ⟨[t0,t1,t2,t3,t4,t5,t6,t7,t8,t9,t10,t11,t12,t13,t14,t15,t16,t17,t18,t19,t20,t21,t22,t23,t24,t25,t26,t27,t28,t29,t30,t31,t32,t33,t34,t35,t36,t37,t38,t39,t40,t41,t42,v55,(V.lit (Value.bool true)),t4,v57,v59,t48,t49,t50,t51,t52,t53,t54,t55,t56,t57,t58],h60⟩) (
  opsP (xX s 44 wl k false) xg44_0 33 m0 ac (runK (xX s 44 wl k false) (bodyK s.P Try.f44) xk44_0) ⟨[t0,t1,t2,t3,t4,t5,t6,t7,t8,t9,t10,t11,t12,t13,t14,t15,t16,t17,t18,t19,t20,t21,t22,t23,t24,t25,t26,t27,t28,t29,t30,t31,t32,t33,t34,t35,t36,t37,t38,t39,t40,t41,t42,v55,(V.lit (Value.bool false)),uu,uu,uu,t48,t49,t50,t51,t52,t53,t54,t55,t56,t57,t58],h56⟩) (
  opsP (xX s 44 wl k false) xg44_0 31 m0 ac (runK (xX s 44 wl k false) (bodyK s.P Try.f44) xk44_0) ⟨[t0,t1,t2,t3,t4,t5,t6,t7,t8,t9,t10,t11,t12,t13,t14,t15,t16,t17,t18,t19,t20,t21,t22,t23,t24,t25,t26,t27,t28,t29,t30,t31,t32,t33,t34,t35,t36,t37,t38,t39,t40,t41,t42,v55,v55,uu,t46,t47,t48,t49,t50,t51,t52,t53,t54,t55,t56,t57,t58],h56⟩) :=
  (go_op0 rfl rfl (st_bm (by kernel_rfl) fun v55 h56 =>
  (go_op0 rfl rfl (st_id (v := v55) (H := h56) (by kernel_rfl)
  (go_gdT0 rfl rfl rfl (by kernel_rfl)
  (st_id (v := t4) (H := h56) (by kernel_rfl)
  (go_run0 rfl rfl rfl (by kernel_rfl) (st_bp (by kernel_rfl) fun v57 h58 =>
  (go_run0 rfl rfl rfl (by kernel_rfl) (st_bm (by kernel_rfl) fun v59 h60 =>
  (by kernel_rfl))))))
  (go_skip0 rfl rfl rfl (by kernel_rfl)
  (go_skip0 rfl rfl rfl (by kernel_rfl)
  (by kernel_rfl)))
  (by kernel_rfl))))))
theorem xm44_4 (s : Sys) (k wl : Nat) (m0 : Nat) (ac : List Nat × List Nat) (t0 t1 t2 t3 t4 t5 t6 t7 t8 t9 t10 t11 t12 t13 t14 t15 t16 t17 t18 t19 t20 t21 t22 t23 t24 t25 t26 t27 t28 t29 t30 t31 t32 t33 t34 t35 t36 t37 t38 t39 t40 t41 t42 t43 t44 t45 t46 t47 t48 t49 t50 t51 t52 t53 t54 t55 t56 t57 t58 : V) (h : Hp) : opsP (xX s 44 wl k false) xg44_0 33 m0 ac (runK (xX s 44 wl k false) (bodyK s.P Try.f44) xk44_0) ⟨[t0,t1,t2,t3,t4,t5,t6,t7,t8,t9,t10,t11,t12,t13,t14,t15,t16,t17,t18,t19,t20,t21,t22,t23,t24,t25,t26,t27,t28,t29,t30,t31,t32,t33,t34,t35,t36,t37,t38,t39,t40,t41,t42,t43,t44,t45,t46,t47,t48,t49,t50,t51,t52,t53,t54,t55,t56,t57,t58],h⟩ =
  bm (vPick t44 t47 (V.lit (Value.bool false))) h fun v61 h62 =>
  gd v61 (
  bp (opLen s.P 25 t2 h62) fun v63 h64 =>
  bm (vBin s.P .gtr 3 v63 (V.lit (Value.int .i64 2))) h64 fun v65 h66 =>
  opsP (xX s 44 wl k false) xg44_0 38 m0 ac (runK (xX s 44 wl k false) (bodyK s.P Try.f44) xk44_0) ⟨[t0,t1,t2,t3,t4,t5,t6,t7,t8,t9,t10,t11,t12,t13,t14,t15,t16,t17,t18,t19,t20,t21,t22,t23,t24,t25,t26,t27,t28,t29,t30,t31,t32,t33,t34,t35,t36,t37,t38,t39,t40,t41,t42,t43,t44,t45,t46,t47,v61,(V.lit (Value.bool true)),t2,v63,v65,t53,t54,t55,t56,t57,t58],h66⟩) (
  opsP (xX s 44 wl k false) xg44_0 38 m0 ac (runK (xX s 44 wl k false) (bodyK s.P Try.f44) xk44_0) ⟨[t0,t1,t2,t3,t4,t5,t6,t7,t8,t9,t10,t11,t12,t13,t14,t15,t16,t17,t18,t19,t20,t21,t22,t23,t24,t25,t26,t27,t28,t29,t30,t31,t32,t33,t34,t35,t36,t37,t38,t39,t40,t41,t42,t43,t44,t45,t46,t47,v61,(V.lit (Value.bool false)),uu,uu,uu,t53,t54,t55,t56,t57,t58],h62⟩) (
  opsP (xX s 44 wl k false) xg44_0 36 m0 ac (runK (xX s 44 wl k false) (bodyK s.P Try.f44) xk44_0) ⟨[t0,t1,t2,t3,t4,t5,t6,t7,t8,t9,t10,t11,t12,t13,t14,t15,t16,t17,t18,t19,t20,t21,t22,t23,t24,t25,t26,t27,t28,t29,t30,t31,t32,t33,t34,t35,t36,t37,t38,t39,t40,t41,t42,t43,t44,t45,t46,t47,v61,v61,uu,t51,t52,t53,t54,t55,t56,t57,t58],h62⟩) :=
  (go_op0 rfl rfl (st_bm (by kernel_rfl) fun v61 h62 =>
  (go_op0 rfl rfl (st_id (v := v61) (H := h62) (by kernel_rfl)
  (go_gdT0 rfl rfl rfl (by kernel_rfl)
  (st_id (v := t2) (H := h62) (by kernel_rfl)
  (go_run0 rfl rfl rfl (by kernel_rfl) (st_bp (by kernel_rfl) fun v63 h64 =>
  (go_run0 rfl rfl rfl (by kernel_rfl) (st_bm (by kernel_rfl) fun v65 h66 =>
  (by kernel_rfl))))))
  (go_skip0 rfl rfl rfl (by kernel_rfl)
  (go_skip0 rfl rfl rfl (by kernel_rfl)
  (by kernel_rfl)))
  (by kernel_rfl))))))
theorem xm44_5 (s : Sys) (k wl : Nat) (m0 : Nat) (ac : List Nat × List Nat) (t0 t1 t2 t3 t4 t5 t6 t7 t8 t9 t10 t11 t12 t13 t14 t15 t16 t17 t18 t19 t20 t21 t22 t23 t24 t25 t26 t27 t28 t29 t30 t31 t32 t33 t34 t35 t36 t37 t38 t39 t40 t41 t42 t43 t44 t45 t46 t47 t48 t49 t50 t51 t52 t53 t54 t55 t56 t57 t58 : V) (h : Hp) : opsP (xX s 44 wl k false) xg44_0 38 m0 ac (runK (xX s 44 wl k false) (bodyK s.P Try.f44) xk44_0) ⟨[t0,t1,t2,t3,t4,t5,t6,t7,t8,t9,t10,t11,t12,t13,t14,t15,t16,t17,t18,t19,t20,t21,t22,t23,t24,t25,t26,t27,t28,t29,t30,t31,t32,t33,t34,t35,t36,t37,t38,t39,t40,t41,t42,t43,t44,t45,t46,t47,t48,t49,t50,t51,t52,t53,t54,t55,t56,t57,t58],h⟩ =
  bm (vPick t49 t52 (V.lit (Value.bool false))) h fun v67 h68 =>
  gd v67 (
  bp (callV (xX s 44 wl k false) false true (.fn (.func 47) [] []) [t1,.nil,(V.lit (Value.int .i64 0))] h68) fun v69 h70 =>
  bm (vBin s.P .eql 3 v69 (V.lit (Value.int .i64 0))) h70 fun v71 h72 =>
  opsP (xX s 44 wl k false) xg44_0 43 m0 ac (runK (xX s 44 wl k false) (bodyK s.P Try.f44) xk44_0) ⟨[t0,t1,t2,t3,t4,t5,t6,t7,t8,t9,t10,t11,t12,t13,t14,t15,t16,t17,t18,t19,t20,t21,t22,t23,t24,t25,t26,t27,t28,t29,t30,t31,t32,t33,t34,t35,t36,t37,t38,t39,t40,t41,t42,t43,t44,t45,t46,t47,t48,t49,t50,t51,t52,v67,(V.lit (Value.bool true)),t1,v69,v71,t58],h72⟩) (
  opsP (xX s 44 wl k false) xg44_0 43 m0 ac (runK (xX s 44 wl k false) (bodyK s.P Try.f44) xk44_0) ⟨[t0,t1,t2,t3,t4,t5,t6,t7,t8,t9,t10,t11,t12,t13,t14,t15,t16,t17,t18,t19,t20,t21,t22,t23,t24,t25,t26,t27,t28,t29,t30,t31,t32,t33,t34,t35,t36,t37,t38,t39,t40,t41,t42,t43,t44,t45,t46,t47,t48,t49,t50,t51,t52,v67,(V.lit (Value.bool false)),uu,uu,uu,t58],h68⟩) (
  opsP (xX s 44 wl k false) xg44_0 41 m0 ac (runK (xX s 44 wl k false) (bodyK s.P Try.f44) xk44_0) ⟨[t0,t1,t2,t3,t4,t5,t6,t7,t8,t9,t10,t11,t12,t13,t14,t15,t16,t17,t18,t19,t20,t21,t22,t23,t24,t25,t26,t27,t28,t29,t30,t31,t32,t33,t34,t35,t36,t37,t38,t39,t40,t41,t42,t43,t44,t45,t46,t47,t48,t49,t50,t51,t52,v67,v67,uu,t56,t57,t58],h68⟩) :=
  (go_op0 rfl rfl (st_bm (by kernel_rfl) fun v67 h68 =>
  (go_op0 rfl rfl (st_id (v := v67) (H := h68) (by kernel_rfl)
  (go_gdT0 rfl rfl rfl (by kernel_rfl)
  (st_id (v := t1) (H := h68) (by kernel_rfl)
  (go_run0 rfl rfl rfl (by kernel_rfl) (st_bp (by kernel_rfl) fun v69 h70 =>
  (go_run0 rfl rfl rfl (by kernel_rfl) (st_bm (by kernel_rfl) fun v71 h72 =>
  (by kernel_rfl))))))
  (go_skip0 rfl rfl rfl (by kernel_rfl)
  (go_skip0 rfl rfl rfl (by kernel_rfl)
  (by kernel_rfl)))
  (by kernel_rfl))))))
theorem xm44_6 (s : Sys) (k wl : Nat) (m0 : Nat) (ac : List Nat × List Nat) (t0 t1 t2 t3 t4 t5 t6 t7 t8 t9 t10 t11 t12 t13 t14 t15 t16 t17 t18 t19 t20 t21 t22 t23 t24 t25 t26 t27 t28 t29 t30 t31 t32 t33 t34 t35 t36 t37 t38 t39 t40 t41 t42 t43 t44 t45 t46 t47 t48 t49 t50 t51 t52 t53 t54 t55 t56 t57 t58 : V) (h : Hp) : opsP (xX s 44 wl k false) xg44_0 43 m0 ac (runK (xX s 44 wl k false) (bodyK s.P Try.f44) xk44_0) ⟨[t0,t1,t2,t3,t4,t5,t6,t7,t8,t9,t10,t11,t12,t13,t14,t15,t16,t17,t18,t19,t20,t21,t22,t23,t24,t25,t26,t27,t28,t29,t30,t31,t32,t33,t34,t35,t36,t37,t38,t39,t40,t41,t42,t43,t44,t45,t46,t47,t48,t49,t50,t51,t52,t53,t54,t55,t56,t57,t58],h⟩ =
  bm (vPick t54 t57 (V.lit (Value.bool false))) h fun v73 h74 =>
  some (v73,h74) :=
  (go_op0 rfl rfl (st_bm (by kernel_rfl) fun v73 h74 =>
  (go_op0 rfl rfl (st_id (v := v73) (H := h74) (by kernel_rfl)
  (go_end0 (by kernel_rfl)
  (go_ret (by kernel_rfl)))))))
theorem xk44_0_ret (cx : Cx) (K : Out → St → Option (V × Hp)) (s : St) : runK cx K xk44_0 .ret s = K .ret s := by kernel_rfl
-- names: xb44,xm44_0,xm44_1,xm44_2,xm44_3,xm44_4,xm44_5,xm44_6,xk44_0_ret
end Go.Ab
