/- The program's code, point by point: printed by gen.py. -/
import Derived.Test.YthnifkacfonhgaaR2Seat
set_option maxRecDepth 100000
set_option linter.unusedVariables false
namespace Go.Ab
open Go.Proofs
/-! 7 poacher/poacherlaw14.WaitMissed: 0 c, 1 m, 2 w, 3 e, 4 c, 5 m, 6 w, 7 e, 9 up, 10 f, 11 n, 12 g, 13 o, 14 h -/
noncomputable def xg7_0 : Code := codeAt (bodyOf Try.f7) [1, 1, 1, 0, 0]
noncomputable def xk7_0 : List Fr := [.seq (codeAt (bodyOf Try.f7) [1, 1, 1, 0, 1]), .seq (codeAt (bodyOf Try.f7) [1, 1, 1, 1])]
noncomputable def xg7_1 : Code := codeAt (bodyOf Try.f7) [1, 1, 1, 1, 1, 1, 1, 0]
noncomputable def xk7_1 : List Fr := [.seq (codeAt (bodyOf Try.f7) [1, 1, 1, 1, 1, 1, 1, 1])]
theorem xb7 (s : Sys) (k wl : Nat) (t0 t1 t2 t3 : V) (h : Hp) : bodyV (xX s 7 wl k false) Try.f7 [t0, t1, t2, t3] h =
  bp (opBox t0 h) fun v1 h2 =>
  bp (callV (xX s 7 wl k false) false true (.fn (.func 20) [] []) [] h2) fun v3 h4 =>
  bp (callV (xX s 7 wl k false) false true (.fn (.func 31) [] []) [(V.lit (Value.int .i64 5)), t2, (V.lit (Value.int .u64 0))] h4) fun v5 h6 =>
  bp (opAlloc s.P 28 h6) fun v7 h8 =>
  bs (vStore s.P wl 28 v7 v5 h8) fun h9 =>
  bm (vUn .not v3) h9 fun v10 h11 =>
  gd v10 (
  opsP (xX s 7 wl k false) xg7_0 6 h9.length ([], []) (runK (xX s 7 wl k false) (bodyK s.P Try.f7) xk7_0) ⟨(t0 :: t1 :: t2 :: t3 :: v1 :: uu :: uu :: uu :: (V.lit (Value.bool false)) :: v3 :: v7 :: uu :: uu :: uu :: uu :: v3 :: t2 :: v5 :: v3 :: v10 :: (V.lit (Value.bool true)) :: uu :: uu :: uu :: uu :: uu :: uu :: uu :: uu :: uu :: uu :: uu :: uu :: uu :: uu :: uu :: uu :: uu :: uu :: uu :: uu :: uu :: uu :: uu :: uu :: uu :: uu :: uu :: uu :: uu :: uu :: uu :: uu :: uu :: uu :: uu :: uu :: uu :: uu :: uu :: uu :: uu :: uu :: uu :: uu :: uu :: []), h11⟩) (
  bp (opLen s.P 25 t1 h11) fun v12 h13 =>
  bm (vBin s.P .gtr 3 v12 (V.lit (Value.int .i64 500))) h13 fun v14 h15 =>
  opsP (xX s 7 wl k false) xg7_0 6 h9.length ([], []) (runK (xX s 7 wl k false) (bodyK s.P Try.f7) xk7_0) ⟨(t0 :: t1 :: t2 :: t3 :: v1 :: uu :: uu :: uu :: (V.lit (Value.bool false)) :: v3 :: v7 :: uu :: uu :: uu :: uu :: v3 :: t2 :: v5 :: v3 :: v10 :: (V.lit (Value.bool false)) :: t1 :: v12 :: v14 :: uu :: uu :: uu :: uu :: uu :: uu :: uu :: uu :: uu :: uu :: uu :: uu :: uu :: uu :: uu :: uu :: uu :: uu :: uu :: uu :: uu :: uu :: uu :: uu :: uu :: uu :: uu :: uu :: uu :: uu :: uu :: uu :: uu :: uu :: uu :: uu :: uu :: uu :: uu :: uu :: uu :: uu :: []), h15⟩) (
  opsP (xX s 7 wl k false) xg7_0 4 h9.length ([], []) (runK (xX s 7 wl k false) (bodyK s.P Try.f7) xk7_0) ⟨(t0 :: t1 :: t2 :: t3 :: v1 :: uu :: uu :: uu :: (V.lit (Value.bool false)) :: v3 :: v7 :: uu :: uu :: uu :: uu :: v3 :: t2 :: v5 :: v3 :: v10 :: v10 :: uu :: uu :: uu :: uu :: uu :: uu :: uu :: uu :: uu :: uu :: uu :: uu :: uu :: uu :: uu :: uu :: uu :: uu :: uu :: uu :: uu :: uu :: uu :: uu :: uu :: uu :: uu :: uu :: uu :: uu :: uu :: uu :: uu :: uu :: uu :: uu :: uu :: uu :: uu :: uu :: uu :: uu :: uu :: uu :: uu :: []), h11⟩) :=
  bodyV_run rfl (go_seq (go_reg0
  (go_op0 rfl rfl (st_bp (by kernel_rfl) fun v1 h2 =>
  (go_op0 rfl rfl (st_id (v := (V.lit (Value.bool false))) (H := h2) (by kernel_rfl)
  (go_end0 (by kernel_rfl)
  (go_seq (go_reg0
  (go_op0 rfl rfl (st_bp (by kernel_rfl) fun v3 h4 =>
  (go_op0 rfl rfl (st_id (v := v3) (H := h4) (by kernel_rfl)
  (go_end0 (by kernel_rfl)
  (go_seq (go_reg0
  (go_op0 rfl rfl (st_id (v := t2) (H := h4) (by kernel_rfl)
  (go_op0 rfl rfl (st_bp (by kernel_rfl) fun v5 h6 =>
  (go_op0 rfl rfl (st_bp (by kernel_rfl) fun v7 h8 =>
  (go_op0 rfl rfl (st_bs (by kernel_rfl) fun h9 =>
  (go_end0 (by kernel_rfl)
  (go_seq (go_seq (go_reg0
  (go_op0 rfl rfl (st_id (v := v3) (H := h9) (by kernel_rfl)
  (go_op0 rfl rfl (st_bm (by kernel_rfl) fun v10 h11 =>
  (go_op0 rfl rfl (st_id (v := v10) (H := h11) (by kernel_rfl)
  (go_gdF0 rfl rfl rfl (by kernel_rfl)
  (go_skip0 rfl rfl rfl (by kernel_rfl)
  (go_skip0 rfl rfl rfl (by kernel_rfl)
  (by kernel_rfl)))
  (st_id (v := t1) (H := h11) (by kernel_rfl)
  (go_run0 rfl rfl rfl (by kernel_rfl) (st_bp (by kernel_rfl) fun v12 h13 =>
  (go_run0 rfl rfl rfl (by kernel_rfl) (st_bm (by kernel_rfl) fun v14 h15 =>
  (by kernel_rfl))))))
  (by kernel_rfl))))))))))))))))))))))))))))))))))))
theorem xe7 (k wl : Nat) (t0 t1 t2 t3 : V) (h : Hp) : evF Try.prog xM (k + 1) wl 7 [t0, t1, t2, t3] h = bodyV (xX (xS k) 7 wl k false) Try.f7 [t0, t1, t2, t3] h := by kernel_rfl
theorem xm7_0 (s : Sys) (k wl : Nat) (m0 : Nat) (ac : List Nat × List Nat) (t0 t1 t2 t3 t4 t5 t6 t7 t8 t9 t10 t11 t12 t13 t14 t15 t16 t17 t18 t19 t20 t21 t22 t23 t24 t25 t26 t27 t28 t29 t30 t31 t32 t33 t34 t35 t36 t37 t38 t39 t40 t41 t42 t43 t44 t45 t46 t47 t48 t49 t50 t51 t52 t53 t54 t55 t56 t57 t58 t59 t60 t61 t62 t63 t64 t65 : V) (h : Hp) : opsP (xX s 7 wl k false) xg7_0 6 m0 ac (runK (xX s 7 wl k false) (bodyK s.P Try.f7) xk7_0) ⟨(t0 :: t1 :: t2 :: t3 :: t4 :: t5 :: t6 :: t7 :: t8 :: t9 :: t10 :: t11 :: t12 :: t13 :: t14 :: t15 :: t16 :: t17 :: t18 :: t19 :: t20 :: t21 :: t22 :: t23 :: t24 :: t25 :: t26 :: t27 :: t28 :: t29 :: t30 :: t31 :: t32 :: t33 :: t34 :: t35 :: t36 :: t37 :: t38 :: t39 :: t40 :: t41 :: t42 :: t43 :: t44 :: t45 :: t46 :: t47 :: t48 :: t49 :: t50 :: t51 :: t52 :: t53 :: t54 :: t55 :: t56 :: t57 :: t58 :: t59 :: t60 :: t61 :: t62 :: t63 :: t64 :: t65 :: []), h⟩ =
  bm (vPick t20 (V.lit (Value.bool true)) t23) h fun v16 h17 =>
  gd v16 (
  opsP (xX s 7 wl k false) xg7_0 13 m0 ac (runK (xX s 7 wl k false) (bodyK s.P Try.f7) xk7_0) ⟨(t0 :: t1 :: t2 :: t3 :: t4 :: t5 :: t6 :: t7 :: t8 :: t9 :: t10 :: t11 :: t12 :: t13 :: t14 :: t15 :: t16 :: t17 :: t18 :: t19 :: t20 :: t21 :: t22 :: t23 :: v16 :: (V.lit (Value.bool true)) :: uu :: uu :: uu :: uu :: uu :: t31 :: t32 :: t33 :: t34 :: t35 :: t36 :: t37 :: t38 :: t39 :: t40 :: t41 :: t42 :: t43 :: t44 :: t45 :: t46 :: t47 :: t48 :: t49 :: t50 :: t51 :: t52 :: t53 :: t54 :: t55 :: t56 :: t57 :: t58 :: t59 :: t60 :: t61 :: t62 :: t63 :: t64 :: t65 :: []), h17⟩) (
  bm (vLoad s.P 23 t4 h17) h17 fun v18 h19 =>
  bm (vLoad s.P 28 t10 h19) h19 fun v20 h21 =>
  bp (callV (xX s 7 wl k false) false true (.fn (.func 28) [] []) [v18, t1, v20, (V.lit (Value.int .i64 5)), (V.lit (Value.int .i64 5))] h21) fun v22 h23 =>
  bm (vUn .not v22) h23 fun v24 h25 =>
  opsP (xX s 7 wl k false) xg7_0 13 m0 ac (runK (xX s 7 wl k false) (bodyK s.P Try.f7) xk7_0) ⟨(t0 :: t1 :: t2 :: t3 :: t4 :: t5 :: t6 :: t7 :: t8 :: t9 :: t10 :: t11 :: t12 :: t13 :: t14 :: t15 :: t16 :: t17 :: t18 :: t19 :: t20 :: t21 :: t22 :: t23 :: v16 :: (V.lit (Value.bool false)) :: v18 :: t1 :: v20 :: v22 :: v24 :: t31 :: t32 :: t33 :: t34 :: t35 :: t36 :: t37 :: t38 :: t39 :: t40 :: t41 :: t42 :: t43 :: t44 :: t45 :: t46 :: t47 :: t48 :: t49 :: t50 :: t51 :: t52 :: t53 :: t54 :: t55 :: t56 :: t57 :: t58 :: t59 :: t60 :: t61 :: t62 :: t63 :: t64 :: t65 :: []), h25⟩) (
  opsP (xX s 7 wl k false) xg7_0 9 m0 ac (runK (xX s 7 wl k false) (bodyK s.P Try.f7) xk7_0) ⟨(t0 :: t1 :: t2 :: t3 :: t4 :: t5 :: t6 :: t7 :: t8 :: t9 :: t10 :: t11 :: t12 :: t13 :: t14 :: t15 :: t16 :: t17 :: t18 :: t19 :: t20 :: t21 :: t22 :: t23 :: v16 :: v16 :: uu :: t27 :: t28 :: t29 :: t30 :: t31 :: t32 :: t33 :: t34 :: t35 :: t36 :: t37 :: t38 :: t39 :: t40 :: t41 :: t42 :: t43 :: t44 :: t45 :: t46 :: t47 :: t48 :: t49 :: t50 :: t51 :: t52 :: t53 :: t54 :: t55 :: t56 :: t57 :: t58 :: t59 :: t60 :: t61 :: t62 :: t63 :: t64 :: t65 :: []), h17⟩) :=
  (go_op0 rfl rfl (st_bm (by kernel_rfl) fun v16 h17 =>
  (go_op0 rfl rfl (st_id (v := v16) (H := h17) (by kernel_rfl)
  (go_gdF0 rfl rfl rfl (by kernel_rfl)
  (go_skip0 rfl rfl rfl (by kernel_rfl)
  (go_skip0 rfl rfl rfl (by kernel_rfl)
  (go_skip0 rfl rfl rfl (by kernel_rfl)
  (go_skip0 rfl rfl rfl (by kernel_rfl)
  (by kernel_rfl)))))
  (st_bm (by kernel_rfl) fun v18 h19 =>
  (go_run0 rfl rfl rfl (by kernel_rfl) (st_id (v := t1) (H := h19) (by kernel_rfl)
  (go_run0 rfl rfl rfl (by kernel_rfl) (st_bm (by kernel_rfl) fun v20 h21 =>
  (go_run0 rfl rfl rfl (by kernel_rfl) (st_bp (by kernel_rfl) fun v22 h23 =>
  (go_run0 rfl rfl rfl (by kernel_rfl) (st_bm (by kernel_rfl) fun v24 h25 =>
  (by kernel_rfl))))))))))
  (by kernel_rfl))))))
theorem xm7_1 (s : Sys) (k wl : Nat) (m0 : Nat) (ac : List Nat × List Nat) (t0 t1 t2 t3 t4 t5 t6 t7 t8 t9 t10 t11 t12 t13 t14 t15 t16 t17 t18 t19 t20 t21 t22 t23 t24 t25 t26 t27 t28 t29 t30 t31 t32 t33 t34 t35 t36 t37 t38 t39 t40 t41 t42 t43 t44 t45 t46 t47 t48 t49 t50 t51 t52 t53 t54 t55 t56 t57 t58 t59 t60 t61 t62 t63 t64 t65 : V) (h : Hp) : opsP (xX s 7 wl k false) xg7_0 13 m0 ac (runK (xX s 7 wl k false) (bodyK s.P Try.f7) xk7_0) ⟨(t0 :: t1 :: t2 :: t3 :: t4 :: t5 :: t6 :: t7 :: t8 :: t9 :: t10 :: t11 :: t12 :: t13 :: t14 :: t15 :: t16 :: t17 :: t18 :: t19 :: t20 :: t21 :: t22 :: t23 :: t24 :: t25 :: t26 :: t27 :: t28 :: t29 :: t30 :: t31 :: t32 :: t33 :: t34 :: t35 :: t36 :: t37 :: t38 :: t39 :: t40 :: t41 :: t42 :: t43 :: t44 :: t45 :: t46 :: t47 :: t48 :: t49 :: t50 :: t51 :: t52 :: t53 :: t54 :: t55 :: t56 :: t57 :: t58 :: t59 :: t60 :: t61 :: t62 :: t63 :: t64 :: t65 :: []), h⟩ =
  bm (vPick t25 (V.lit (Value.bool true)) t30) h fun v26 h27 =>
  gd v26 (
  opsP (xX s 7 wl k false) xg7_0 21 m0 ac (runK (xX s 7 wl k false) (bodyK s.P Try.f7) xk7_0) ⟨(t0 :: t1 :: t2 :: t3 :: t4 :: t5 :: t6 :: t7 :: t8 :: t9 :: t10 :: t11 :: t12 :: t13 :: t14 :: t15 :: t16 :: t17 :: t18 :: t19 :: t20 :: t21 :: t22 :: t23 :: t24 :: t25 :: t26 :: t27 :: t28 :: t29 :: t30 :: v26 :: (V.lit (Value.bool true)) :: uu :: uu :: uu :: uu :: uu :: uu :: t39 :: t40 :: t41 :: t42 :: t43 :: t44 :: t45 :: t46 :: t47 :: t48 :: t49 :: t50 :: t51 :: t52 :: t53 :: t54 :: t55 :: t56 :: t57 :: t58 :: t59 :: t60 :: t61 :: t62 :: t63 :: t64 :: t65 :: []), h27⟩) (
  bp (callV (xX s 7 wl k false) false true (.fn (.func 33) [] []) [t3] h27) fun v28 h29 =>
  bp (callV (xX s 7 wl k false) false true (.fn (.func 34) [] []) [t1, (V.lit (Value.int .i64 2))] h29) fun v30 h31 =>
  bp (callV (xX s 7 wl k false) false true (.fn (.func 33) [] []) [v30] h31) fun v32 h33 =>
  bm (vBin s.P .eql 26 v28 v32) h33 fun v34 h35 =>
  opsP (xX s 7 wl k false) xg7_0 21 m0 ac (runK (xX s 7 wl k false) (bodyK s.P Try.f7) xk7_0) ⟨(t0 :: t1 :: t2 :: t3 :: t4 :: t5 :: t6 :: t7 :: t8 :: t9 :: t10 :: t11 :: t12 :: t13 :: t14 :: t15 :: t16 :: t17 :: t18 :: t19 :: t20 :: t21 :: t22 :: t23 :: t24 :: t25 :: t26 :: t27 :: t28 :: t29 :: t30 :: v26 :: (V.lit (Value.bool false)) :: t3 :: v28 :: t1 :: v30 :: v32 :: v34 :: t39 :: t40 :: t41 :: t42 :: t43 :: t44 :: t45 :: t46 :: t47 :: t48 :: t49 :: t50 :: t51 :: t52 :: t53 :: t54 :: t55 :: t56 :: t57 :: t58 :: t59 :: t60 :: t61 :: t62 :: t63 :: t64 :: t65 :: []), h35⟩) (
  opsP (xX s 7 wl k false) xg7_0 16 m0 ac (runK (xX s 7 wl k false) (bodyK s.P Try.f7) xk7_0) ⟨(t0 :: t1 :: t2 :: t3 :: t4 :: t5 :: t6 :: t7 :: t8 :: t9 :: t10 :: t11 :: t12 :: t13 :: t14 :: t15 :: t16 :: t17 :: t18 :: t19 :: t20 :: t21 :: t22 :: t23 :: t24 :: t25 :: t26 :: t27 :: t28 :: t29 :: t30 :: v26 :: v26 :: uu :: t34 :: t35 :: t36 :: t37 :: t38 :: t39 :: t40 :: t41 :: t42 :: t43 :: t44 :: t45 :: t46 :: t47 :: t48 :: t49 :: t50 :: t51 :: t52 :: t53 :: t54 :: t55 :: t56 :: t57 :: t58 :: t59 :: t60 :: t61 :: t62 :: t63 :: t64 :: t65 :: []), h27⟩) :=
  (go_op0 rfl rfl (st_bm (by kernel_rfl) fun v26 h27 =>
  (go_op0 rfl rfl (st_id (v := v26) (H := h27) (by kernel_rfl)
  (go_gdF0 rfl rfl rfl (by kernel_rfl)
  (go_skip0 rfl rfl rfl (by kernel_rfl)
  (go_skip0 rfl rfl rfl (by kernel_rfl)
  (go_skip0 rfl rfl rfl (by kernel_rfl)
  (go_skip0 rfl rfl rfl (by kernel_rfl)
  (go_skip0 rfl rfl rfl (by kernel_rfl)
  (by kernel_rfl))))))
  (st_id (v := t3) (H := h27) (by kernel_rfl)
  (go_run0 rfl rfl rfl (by kernel_rfl) (st_bp (by kernel_rfl) fun v28 h29 =>
  (go_run0 rfl rfl rfl (by kernel_rfl) (st_id (v := t1) (H := h29) (by kernel_rfl)
  (go_run0 rfl rfl rfl (by kernel_rfl) (st_bp (by kernel_rfl) fun v30 h31 =>
  (go_run0 rfl rfl rfl (by kernel_rfl) (st_bp (by kernel_rfl) fun v32 h33 =>
  (go_run0 rfl rfl rfl (by kernel_rfl) (st_bm (by kernel_rfl) fun v34 h35 =>
  (by kernel_rfl))))))))))))
  (by kernel_rfl))))))
theorem xm7_2 (s : Sys) (k wl : Nat) (m0 : Nat) (ac : List Nat × List Nat) (t0 t1 t2 t3 t4 t5 t6 t7 t8 t9 t10 t11 t12 t13 t14 t15 t16 t17 t18 t19 t20 t21 t22 t23 t24 t25 t26 t27 t28 t29 t30 t31 t32 t33 t34 t35 t36 t37 t38 t39 t40 t41 t42 t43 t44 t45 t46 t47 t48 t49 t50 t51 t52 t53 t54 t55 t56 t57 t58 t59 t60 t61 t62 t63 t64 t65 : V) (h : Hp) : opsP (xX s 7 wl k false) xg7_0 21 m0 ac (runK (xX s 7 wl k false) (bodyK s.P Try.f7) xk7_0) ⟨(t0 :: t1 :: t2 :: t3 :: t4 :: t5 :: t6 :: t7 :: t8 :: t9 :: t10 :: t11 :: t12 :: t13 :: t14 :: t15 :: t16 :: t17 :: t18 :: t19 :: t20 :: t21 :: t22 :: t23 :: t24 :: t25 :: t26 :: t27 :: t28 :: t29 :: t30 :: t31 :: t32 :: t33 :: t34 :: t35 :: t36 :: t37 :: t38 :: t39 :: t40 :: t41 :: t42 :: t43 :: t44 :: t45 :: t46 :: t47 :: t48 :: t49 :: t50 :: t51 :: t52 :: t53 :: t54 :: t55 :: t56 :: t57 :: t58 :: t59 :: t60 :: t61 :: t62 :: t63 :: t64 :: t65 :: []), h⟩ =
  bm (vPick t32 (V.lit (Value.bool true)) t38) h fun v36 h37 =>
  cnd v36 (
  some (t9, h37)) (
  bm (vLoad s.P 23 t4 h37) h37 fun v38 h39 =>
  bm (vLoad s.P 28 t10 h39) h39 fun v40 h41 =>
  bp (callV (xX s 7 wl k false) false true (.fn (.func 21) [] []) [v38, t1, v40] h41) fun v42 h43 =>
  bm (vExtract v42 0) h43 fun v44 h45 =>
  bm (vExtract v42 1) h45 fun v46 h47 =>
  bp (opAlloc s.P 28 h47) fun v48 h49 =>
  bs (vStore s.P wl 28 v48 v46 h49) fun h50 =>
  bp (callV (xX s 7 wl k false) false true (.fn (.func 32) [] []) [v44, (V.lit (Value.int .i64 2)), t3] h50) fun v51 h52 =>
  bm (vLoad s.P 23 t4 h52) h52 fun v53 h54 =>
  bm (vLoad s.P 28 v48 h54) h54 fun v55 h56 =>
  bp (callV (xX s 7 wl k false) false true (.fn (.func 21) [] []) [v53, v51, v55] h56) fun v57 h58 =>
  bm (vExtract v57 0) h58 fun v59 h60 =>
  bm (vExtract v57 1) h60 fun v61 h62 =>
  bp (opAlloc s.P 28 h62) fun v63 h64 =>
  bs (vStore s.P wl 28 v63 v61 h64) fun h65 =>
  bm (vFieldAddr s.P 28 v63 6) h65 fun v66 h67 =>
  bm (vLoad s.P 3 v66 h67) h67 fun v68 h69 =>
  bm (vBin s.P .eql 3 v68 (V.lit (Value.int .i64 4))) h69 fun v70 h71 =>
  gd v70 (
  bp (callV (xX s 7 wl k false) false true (.fn (.func 35) [] []) [v59, v51] h71) fun v72 h73 =>
  opsP (xX s 7 wl k false) xg7_1 7 h65.length ([], []) (runK (xX s 7 wl k false) (bodyK s.P Try.f7) xk7_1) ⟨(t0 :: t1 :: t2 :: t3 :: t4 :: t5 :: t6 :: t7 :: t8 :: t9 :: t10 :: v51 :: v48 :: v59 :: v63 :: t15 :: t16 :: t17 :: t18 :: t19 :: t20 :: t21 :: t22 :: t23 :: t24 :: t25 :: t26 :: t27 :: t28 :: t29 :: t30 :: t31 :: t32 :: t33 :: t34 :: t35 :: t36 :: t37 :: t38 :: v36 :: t40 :: v42 :: v38 :: t1 :: v40 :: v42 :: v44 :: v46 :: v44 :: t3 :: v51 :: v57 :: v53 :: v51 :: v55 :: v57 :: v59 :: v61 :: v66 :: v68 :: v70 :: (V.lit (Value.bool true)) :: v59 :: v51 :: v72 :: t65 :: []), h73⟩) (
  opsP (xX s 7 wl k false) xg7_1 7 h65.length ([], []) (runK (xX s 7 wl k false) (bodyK s.P Try.f7) xk7_1) ⟨(t0 :: t1 :: t2 :: t3 :: t4 :: t5 :: t6 :: t7 :: t8 :: t9 :: t10 :: v51 :: v48 :: v59 :: v63 :: t15 :: t16 :: t17 :: t18 :: t19 :: t20 :: t21 :: t22 :: t23 :: t24 :: t25 :: t26 :: t27 :: t28 :: t29 :: t30 :: t31 :: t32 :: t33 :: t34 :: t35 :: t36 :: t37 :: t38 :: v36 :: t40 :: v42 :: v38 :: t1 :: v40 :: v42 :: v44 :: v46 :: v44 :: t3 :: v51 :: v57 :: v53 :: v51 :: v55 :: v57 :: v59 :: v61 :: v66 :: v68 :: v70 :: (V.lit (Value.bool false)) :: uu :: uu :: uu :: t65 :: []), h71⟩) (
  opsP (xX s 7 wl k false) xg7_1 5 h65.length ([], []) (runK (xX s 7 wl k false) (bodyK s.P Try.f7) xk7_1) ⟨(t0 :: t1 :: t2 :: t3 :: t4 :: t5 :: t6 :: t7 :: t8 :: t9 :: t10 :: v51 :: v48 :: v59 :: v63 :: t15 :: t16 :: t17 :: t18 :: t19 :: t20 :: t21 :: t22 :: t23 :: t24 :: t25 :: t26 :: t27 :: t28 :: t29 :: t30 :: t31 :: t32 :: t33 :: t34 :: t35 :: t36 :: t37 :: t38 :: v36 :: t40 :: v42 :: v38 :: t1 :: v40 :: v42 :: v44 :: v46 :: v44 :: t3 :: v51 :: v57 :: v53 :: v51 :: v55 :: v57 :: v59 :: v61 :: v66 :: v68 :: v70 :: v70 :: uu :: t63 :: t64 :: t65 :: []), h71⟩)) :=
  (go_op0 rfl rfl (st_bm (by kernel_rfl) fun v36 h37 =>
  (go_end0 (by kernel_rfl)
  (go_cond (by kernel_rfl)
  (go_seq (go_reg0
  (go_op0 rfl rfl (st_id (v := t9) (H := h37) (by kernel_rfl)
  (go_op0 rfl rfl (st_id (v := t9) (H := h37) (by kernel_rfl)
  (go_end0 (by kernel_rfl)
  (go_ret (rt_seq_ret (by kernel_rfl))))))))))
  (go_skip (go_seq (go_reg0
  (go_op0 rfl rfl (st_bm (by kernel_rfl) fun v38 h39 =>
  (go_op0 rfl rfl (st_id (v := t1) (H := h39) (by kernel_rfl)
  (go_op0 rfl rfl (st_bm (by kernel_rfl) fun v40 h41 =>
  (go_op0 rfl rfl (st_bp (by kernel_rfl) fun v42 h43 =>
  (go_op0 rfl rfl (st_id (v := v42) (H := h43) (by kernel_rfl)
  (go_op0 rfl rfl (st_bm (by kernel_rfl) fun v44 h45 =>
  (go_op0 rfl rfl (st_bm (by kernel_rfl) fun v46 h47 =>
  (go_op0 rfl rfl (st_bp (by kernel_rfl) fun v48 h49 =>
  (go_op0 rfl rfl (st_id (v := v44) (H := h49) (by kernel_rfl)
  (go_op0 rfl rfl (st_bs (by kernel_rfl) fun h50 =>
  (go_end0 (by kernel_rfl)
  (go_seq (go_reg0
  (go_op0 rfl rfl (st_id (v := v44) (H := h50) (by kernel_rfl)
  (go_op0 rfl rfl (st_id (v := t3) (H := h50) (by kernel_rfl)
  (go_op0 rfl rfl (st_bp (by kernel_rfl) fun v51 h52 =>
  (go_op0 rfl rfl (st_id (v := v51) (H := h52) (by kernel_rfl)
  (go_end0 (by kernel_rfl)
  (go_seq (go_reg0
  (go_op0 rfl rfl (st_bm (by kernel_rfl) fun v53 h54 =>
  (go_op0 rfl rfl (st_id (v := v51) (H := h54) (by kernel_rfl)
  (go_op0 rfl rfl (st_bm (by kernel_rfl) fun v55 h56 =>
  (go_op0 rfl rfl (st_bp (by kernel_rfl) fun v57 h58 =>
  (go_op0 rfl rfl (st_id (v := v57) (H := h58) (by kernel_rfl)
  (go_op0 rfl rfl (st_bm (by kernel_rfl) fun v59 h60 =>
  (go_op0 rfl rfl (st_bm (by kernel_rfl) fun v61 h62 =>
  (go_op0 rfl rfl (st_bp (by kernel_rfl) fun v63 h64 =>
  (go_op0 rfl rfl (st_id (v := v59) (H := h64) (by kernel_rfl)
  (go_op0 rfl rfl (st_bs (by kernel_rfl) fun h65 =>
  (go_end0 (by kernel_rfl)
  (go_seq (go_reg0
  (go_op0 rfl rfl (st_bm (by kernel_rfl) fun v66 h67 =>
  (go_op0 rfl rfl (st_bm (by kernel_rfl) fun v68 h69 =>
  (go_op0 rfl rfl (st_bm (by kernel_rfl) fun v70 h71 =>
  (go_op0 rfl rfl (st_id (v := v70) (H := h71) (by kernel_rfl)
  (go_gdT0 rfl rfl rfl (by kernel_rfl)
  (st_id (v := v59) (H := h71) (by kernel_rfl)
  (go_run0 rfl rfl rfl (by kernel_rfl) (st_id (v := v51) (H := h71) (by kernel_rfl)
  (go_run0 rfl rfl rfl (by kernel_rfl) (st_bp (by kernel_rfl) fun v72 h73 =>
  (by kernel_rfl))))))
  (go_skip0 rfl rfl rfl (by kernel_rfl)
  (go_skip0 rfl rfl rfl (by kernel_rfl)
  (by kernel_rfl)))
  (by kernel_rfl))))))))))))))))))))))))))))))))))))))))))))))))))))))))))))))))))))))))))
theorem xm7_3 (s : Sys) (k wl : Nat) (m0 : Nat) (ac : List Nat × List Nat) (t0 t1 t2 t3 t4 t5 t6 t7 t8 t9 t10 t11 t12 t13 t14 t15 t16 t17 t18 t19 t20 t21 t22 t23 t24 t25 t26 t27 t28 t29 t30 t31 t32 t33 t34 t35 t36 t37 t38 t39 t40 t41 t42 t43 t44 t45 t46 t47 t48 t49 t50 t51 t52 t53 t54 t55 t56 t57 t58 t59 t60 t61 t62 t63 t64 t65 : V) (h : Hp) : opsP (xX s 7 wl k false) xg7_1 7 m0 ac (runK (xX s 7 wl k false) (bodyK s.P Try.f7) xk7_1) ⟨(t0 :: t1 :: t2 :: t3 :: t4 :: t5 :: t6 :: t7 :: t8 :: t9 :: t10 :: t11 :: t12 :: t13 :: t14 :: t15 :: t16 :: t17 :: t18 :: t19 :: t20 :: t21 :: t22 :: t23 :: t24 :: t25 :: t26 :: t27 :: t28 :: t29 :: t30 :: t31 :: t32 :: t33 :: t34 :: t35 :: t36 :: t37 :: t38 :: t39 :: t40 :: t41 :: t42 :: t43 :: t44 :: t45 :: t46 :: t47 :: t48 :: t49 :: t50 :: t51 :: t52 :: t53 :: t54 :: t55 :: t56 :: t57 :: t58 :: t59 :: t60 :: t61 :: t62 :: t63 :: t64 :: t65 :: []), h⟩ =
  bm (vPick t61 t64 (V.lit (Value.bool false))) h fun v74 h75 =>
  some (v74, h75) :=
  (go_op0 rfl rfl (st_bm (by kernel_rfl) fun v74 h75 =>
  (go_op0 rfl rfl (st_id (v := v74) (H := h75) (by kernel_rfl)
  (go_end0 (by kernel_rfl)
  (go_ret (by kernel_rfl)))))))
theorem xk7_0_ret (cx : Cx) (K : Out → St → Option (V × Hp)) (s : St) : runK cx K xk7_0 .ret s = K .ret s := by kernel_rfl
theorem xk7_1_ret (cx : Cx) (K : Out → St → Option (V × Hp)) (s : St) : runK cx K xk7_1 .ret s = K .ret s := by kernel_rfl
-- names: xb7, xm7_0, xm7_1, xm7_2, xm7_3, xk7_0_ret, xk7_1_ret
end Go.Ab
