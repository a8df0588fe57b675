/- The program's code, point by point: printed by gen.py. -/
import Derived.Test.YthnifkacfonhgaaR2Seat
set_option maxRecDepth 100000
set_option linter.unusedVariables false
namespace Go.Ab
open Go.Proofs
/-! 22 poacher/poacherref14.Step: 0 c, 1 m, 2 f, 3 c, 4 m, 5 f, 8 goes, 9 n, 10 done -/
noncomputable def xg22_0 : Code := codeAt (bodyOf Try.f22) [1, 1, 0, 1, 0, 0]
noncomputable def xg22_1 : Code := codeAt (bodyOf Try.f22) [1, 1, 1, 0, 1, 0, 1, 0, 1, 1, 0]
noncomputable def xg22_2 : Code := codeAt (bodyOf Try.f22) [1, 1, 1, 0, 1, 0, 1, 1, 1, 0, 1, 1, 0, 0]
noncomputable def xg22_3 : Code := codeAt (bodyOf Try.f22) [1, 1, 1, 0, 1, 0, 1, 1, 1, 0, 1, 1, 1, 0]
noncomputable def xg22_4 : Code := codeAt (bodyOf Try.f22) [1, 1, 1, 0, 1, 0, 1, 1, 1, 1, 1, 0, 0]
noncomputable def xk22_0 : List Fr := [.seq (codeAt (bodyOf Try.f22) [1, 1, 1, 0, 1, 0, 1, 1, 1, 1, 1, 0, 1, 1, 1]), .block 0, .seq (codeAt (bodyOf Try.f22) [1, 1, 1, 1])]
noncomputable def xk22_1 : List Fr := [.seq (codeAt (bodyOf Try.f22) [1, 1, 1, 0, 1, 0, 1, 1, 1, 1, 1, 1, 1, 0, 1, 1]), .block 0, .seq (codeAt (bodyOf Try.f22) [1, 1, 1, 1])]
noncomputable def xg22_5 : Code := codeAt (bodyOf Try.f22) [1, 1, 1, 1, 0]
noncomputable def xg22_6 : Code := codeAt (bodyOf Try.f22) [1, 1, 1, 0, 1, 0, 1, 1, 1, 1, 1, 0, 1, 1, 1, 0]
noncomputable def xg22_7 : Code := codeAt (bodyOf Try.f22) [1, 1, 1, 0, 1, 0, 1, 1, 1, 1, 1, 1, 1, 0, 1, 1, 0]
theorem xo22_3 : orderIx (opsOf xg22_0) = [0, 1, 2, 3] := by kernel_rfl
theorem xo22_3a : (rgOf (opsOf xg22_0)).any = false := by kernel_rfl
theorem xo22_3r : regOk (opsOf xg22_0) = true := by kernel_rfl
theorem xo22_8 : orderIx (opsOf xg22_1) = [0, 1, 2, 3] := by kernel_rfl
theorem xo22_8a : (rgOf (opsOf xg22_1)).any = false := by kernel_rfl
theorem xo22_8r : regOk (opsOf xg22_1) = true := by kernel_rfl
theorem xo22_12 : orderIx (opsOf xg22_2) = [0, 1, 2, 3, 4, 5, 6] := by kernel_rfl
theorem xo22_12a : (rgOf (opsOf xg22_2)).any = false := by kernel_rfl
theorem xo22_12r : regOk (opsOf xg22_2) = true := by kernel_rfl
theorem xo22_14 : orderIx (opsOf xg22_3) = [0, 1, 2, 3] := by kernel_rfl
theorem xo22_14a : (rgOf (opsOf xg22_3)).any = false := by kernel_rfl
theorem xo22_14r : regOk (opsOf xg22_3) = true := by kernel_rfl
theorem xo22_16 : orderIx (opsOf xg22_4) = [0, 1, 2, 3, 4, 5, 6, 7, 8, 9, 10, 11, 12, 13] := by kernel_rfl
theorem xo22_16a : (rgOf (opsOf xg22_4)).any = false := by kernel_rfl
theorem xo22_16r : regOk (opsOf xg22_4) = true := by kernel_rfl
theorem xo22_26 : orderIx (opsOf xg22_5) = [0, 1, 2, 3, 4, 5, 6, 7, 8, 9] := by kernel_rfl
theorem xo22_26a : (rgOf (opsOf xg22_5)).any = false := by kernel_rfl
theorem xo22_26r : regOk (opsOf xg22_5) = true := by kernel_rfl
theorem xo22_20 : orderIx (opsOf xg22_6) = [0, 1, 2, 3] := by kernel_rfl
theorem xo22_20a : (rgOf (opsOf xg22_6)).any = false := by kernel_rfl
theorem xo22_20r : regOk (opsOf xg22_6) = true := by kernel_rfl
theorem xo22_25 : orderIx (opsOf xg22_7) = [0, 1, 2, 3] := by kernel_rfl
theorem xo22_25a : (rgOf (opsOf xg22_7)).any = false := by kernel_rfl
theorem xo22_25r : regOk (opsOf xg22_7) = true := by kernel_rfl
theorem xb22 (s : Sys) (k wl : Nat) (t0 t1 t2 : V) (h : Hp) : bodyV (xX s 22 wl k false) Try.f22 [t0, t1, t2] h =
  bp (opBox t0 h) fun v1 h2 =>
  bp (opBox t2 h2) fun v3 h4 =>
  bp (some (.own h4.length 0 0, h4 ++ [.rows 0 [] 0 true])) fun v5 h6 =>
  bp (opAlloc s.P 28 h6) fun v7 h8 =>
  bm (vLoad s.P 23 v1 h8) h8 fun v9 h10 =>
  bm (vLoad s.P 28 v3 h10) h10 fun v11 h12 =>
  bp (callV (xX s 22 wl k false) false true (.fn (.func 56) [] []) [v9, t1, v11, (V.lit (Value.int .i64 5)), (V.lit (Value.int .i64 5))] h12) fun v13 h14 =>
  bm (vUn .not v13) h14 fun v15 h16 =>
  cnd v15 (
  bm (vLoad s.P 28 v3 h16) h16 fun v17 h18 =>
  bs (vStore s.P wl 28 v7 v17 h18) fun h19 =>
  resO [some t1, vLoad s.P 28 v7 h19] h19) (
  bm (vFieldAddr s.P 28 v3 1) h16 fun v20 h21 =>
  bm (vLoad s.P 3 v20 h21) h21 fun v22 h23 =>
  bm (vBin s.P .eql 3 v22 (V.lit (Value.int .i64 0))) h23 fun v24 h25 =>
  cnd v24 (
  bp (callV (xX s 22 wl k false) false true (.fn (.func 57) [] []) [t1, (V.lit (Value.int .i64 2))] h25) fun v26 h27 =>
  bm (vFieldAddr s.P 28 v3 4) h27 fun v28 h29 =>
  bs (vStore s.P wl 26 v28 v26 h29) fun h30 =>
  bm (vFieldAddr s.P 28 v3 1) h30 fun v31 h32 =>
  bs (vStore s.P wl 3 v31 (V.lit (Value.int .i64 1)) h32) fun h33 =>
  bm (vLoad s.P 28 v3 h33) h33 fun v34 h35 =>
  bs (vStore s.P wl 28 v7 v34 h35) fun h36 =>
  resO [some t1, vLoad s.P 28 v7 h36] h36) (
  bm (vBin s.P .eql 3 v22 (V.lit (Value.int .i64 1))) h25 fun v37 h38 =>
  cnd v37 (
  bp (callV (xX s 22 wl k false) false true (.fn (.func 57) [] []) [t1, (V.lit (Value.int .i64 2))] h38) fun v39 h40 =>
  bm (vFieldAddr s.P 28 v3 5) h40 fun v41 h42 =>
  bs (vStore s.P wl 26 v41 v39 h42) fun h43 =>
  bm (vFieldAddr s.P 28 v3 1) h43 fun v44 h45 =>
  bs (vStore s.P wl 3 v44 (V.lit (Value.int .i64 2)) h45) fun h46 =>
  bm (vFieldAddr s.P 28 v3 5) h46 fun v47 h48 =>
  bm (vLoad s.P 26 v47 h48) h48 fun v49 h50 =>
  bp (callV (xX s 22 wl k false) true true (.fn (.func 58) [] []) [v49] h50) fun v51 h52 =>
  bm (vFieldAddr s.P 28 v3 4) h52 fun v53 h54 =>
  stO h46.length v53 (
  bm (vLoad s.P 26 v53 h54) h54 fun v55 h56 =>
  bp (callV (xX s 22 wl k false) false true (.fn (.func 58) [] []) [v55] h56) fun v57 h58 =>
  bm (vBin s.P .neq 26 v51 v57) h58 fun v59 h60 =>
  cnd v59 (
  bm (vLoad s.P 28 v3 h60) h60 fun v61 h62 =>
  bp (callV (xX s 22 wl k false) false true (.fn (.func 59) [] []) [v61, (V.lit (Value.int .i64 4)), (V.lit (Value.int .u64 0))] h62) fun v63 h64 =>
  bs (vStore s.P wl 28 v7 v63 h64) fun h65 =>
  resO [some t1, vLoad s.P 28 v7 h65] h65) (
  bm (vLoad s.P 28 v3 h60) h60 fun v66 h67 =>
  bs (vStore s.P wl 28 v7 v66 h67) fun h68 =>
  resO [some t1, vLoad s.P 28 v7 h68] h68))) (
  bm (vBin s.P .eql 3 v22 (V.lit (Value.int .i64 2))) h38 fun v69 h70 =>
  cnd v69 (
  bm (vFieldAddr s.P 28 v3 5) h70 fun v71 h72 =>
  stO h70.length v71 (
  bm (vLoad s.P 26 v71 h72) h72 fun v73 h74 =>
  bm (vFieldAddr s.P 28 v3 5) h74 fun v75 h76 =>
  bm (vLoad s.P 26 v75 h76) h76 fun v77 h78 =>
  bm (vFieldAddr s.P 28 v3 2) h78 fun v79 h80 =>
  bm (vLoad s.P 3 v79 h80) h80 fun v81 h82 =>
  bp (callV (xX s 22 wl k false) true true (.fn (.func 61) [] []) [v77, v81] h82) fun v83 h84 =>
  bp (callV (xX s 22 wl k false) false true (.fn (.func 60) [] []) [t1, (V.lit (Value.int .i64 2)), v73, v83] h84) fun v85 h86 =>
  bm (vExtract v85 0) h86 fun v87 h88 =>
  bm (vExtract v85 1) h88 fun v89 h90 =>
  bm (vFieldAddr s.P 28 v3 1) h90 fun v91 h92 =>
  bs (vStore s.P wl 3 v91 (V.lit (Value.int .i64 1)) h92) fun h93 =>
  cnd v89 (
  bm (vFieldAddr s.P 28 v3 1) h93 fun v94 h95 =>
  bs (vStore s.P wl 3 v94 (V.lit (Value.int .i64 3)) h95) fun h96 =>
  runK (xX s 22 wl k false) (bodyK s.P Try.f22) xk22_0 .norm ⟨(t0 :: t1 :: t2 :: v1 :: uu :: v3 :: v5 :: v7 :: v13 :: v87 :: v89 :: v9 :: t1 :: v11 :: v13 :: v13 :: v15 :: uu :: uu :: v20 :: v22 :: v24 :: v24 :: uu :: uu :: uu :: uu :: uu :: uu :: v37 :: v37 :: uu :: uu :: uu :: uu :: uu :: uu :: uu :: uu :: uu :: uu :: uu :: uu :: uu :: uu :: uu :: uu :: v69 :: v69 :: v85 :: t1 :: v71 :: v73 :: v75 :: v77 :: v79 :: v81 :: v83 :: v85 :: v87 :: v89 :: v91 :: v89 :: v94 :: uu :: uu :: uu :: uu :: uu :: uu :: uu :: uu :: uu :: uu :: uu :: uu :: uu :: uu :: uu :: uu :: uu :: uu :: uu :: uu :: uu :: uu :: uu :: uu :: uu :: []), h96⟩) (
  runK (xX s 22 wl k false) (bodyK s.P Try.f22) xk22_0 .norm ⟨(t0 :: t1 :: t2 :: v1 :: uu :: v3 :: v5 :: v7 :: v13 :: v87 :: v89 :: v9 :: t1 :: v11 :: v13 :: v13 :: v15 :: uu :: uu :: v20 :: v22 :: v24 :: v24 :: uu :: uu :: uu :: uu :: uu :: uu :: v37 :: v37 :: uu :: uu :: uu :: uu :: uu :: uu :: uu :: uu :: uu :: uu :: uu :: uu :: uu :: uu :: uu :: uu :: v69 :: v69 :: v85 :: t1 :: v71 :: v73 :: v75 :: v77 :: v79 :: v81 :: v83 :: v85 :: v87 :: v89 :: v91 :: v89 :: uu :: uu :: uu :: uu :: uu :: uu :: uu :: uu :: uu :: uu :: uu :: uu :: uu :: uu :: uu :: uu :: uu :: uu :: uu :: uu :: uu :: uu :: uu :: uu :: uu :: uu :: []), h93⟩))) (
  bm (vBin s.P .eql 3 v22 (V.lit (Value.int .i64 3))) h70 fun v97 h98 =>
  cnd v97 (
  bm (vLoad s.P 23 v1 h98) h98 fun v99 h100 =>
  bm (vFieldAddr s.P 28 v3 2) h100 fun v101 h102 =>
  bm (vLoad s.P 3 v101 h102) h102 fun v103 h104 =>
  bp (callV (xX s 22 wl k false) false true (.fn (.func 62) [] []) [v99, v103] h104) fun v105 h106 =>
  bp (callV (xX s 22 wl k false) false true (.fn (.func 57) [] []) [t1, v105] h106) fun v107 h108 =>
  bm (vFieldAddr s.P 28 v3 5) h108 fun v109 h110 =>
  bs (vStore s.P wl 26 v109 v107 h110) fun h111 =>
  bm (vFieldAddr s.P 28 v3 5) h111 fun v112 h113 =>
  bm (vLoad s.P 26 v112 h113) h113 fun v114 h115 =>
  bm (vBin s.P .neq 26 v114 (V.lit (Value.int .u64 0))) h115 fun v116 h117 =>
  cnd v116 (
  bm (vFieldAddr s.P 28 v3 1) h117 fun v118 h119 =>
  bs (vStore s.P wl 3 v118 (V.lit (Value.int .i64 4)) h119) fun h120 =>
  runK (xX s 22 wl k false) (bodyK s.P Try.f22) xk22_1 .norm ⟨(t0 :: t1 :: t2 :: v1 :: uu :: v3 :: v5 :: v7 :: v13 :: uu :: uu :: v9 :: t1 :: v11 :: v13 :: v13 :: v15 :: uu :: uu :: v20 :: v22 :: v24 :: v24 :: uu :: uu :: uu :: uu :: uu :: uu :: v37 :: v37 :: uu :: uu :: uu :: uu :: uu :: uu :: uu :: uu :: uu :: uu :: uu :: uu :: uu :: uu :: uu :: uu :: v69 :: v69 :: uu :: uu :: uu :: uu :: uu :: uu :: uu :: uu :: uu :: uu :: uu :: uu :: uu :: uu :: uu :: uu :: uu :: v97 :: v97 :: t1 :: v99 :: v101 :: v103 :: v105 :: v107 :: v109 :: v112 :: v114 :: v116 :: v118 :: uu :: uu :: uu :: uu :: uu :: uu :: uu :: uu :: uu :: uu :: []), h120⟩) (
  runK (xX s 22 wl k false) (bodyK s.P Try.f22) xk22_1 .norm ⟨(t0 :: t1 :: t2 :: v1 :: uu :: v3 :: v5 :: v7 :: v13 :: uu :: uu :: v9 :: t1 :: v11 :: v13 :: v13 :: v15 :: uu :: uu :: v20 :: v22 :: v24 :: v24 :: uu :: uu :: uu :: uu :: uu :: uu :: v37 :: v37 :: uu :: uu :: uu :: uu :: uu :: uu :: uu :: uu :: uu :: uu :: uu :: uu :: uu :: uu :: uu :: uu :: v69 :: v69 :: uu :: uu :: uu :: uu :: uu :: uu :: uu :: uu :: uu :: uu :: uu :: uu :: uu :: uu :: uu :: uu :: uu :: v97 :: v97 :: t1 :: v99 :: v101 :: v103 :: v105 :: v107 :: v109 :: v112 :: v114 :: v116 :: uu :: uu :: uu :: uu :: uu :: uu :: uu :: uu :: uu :: uu :: uu :: []), h117⟩)) (
  bm (vLoad s.P 23 v1 h98) h98 fun v121 h122 =>
  bm (vFieldAddr s.P 28 v3 2) h122 fun v123 h124 =>
  bm (vLoad s.P 3 v123 h124) h124 fun v125 h126 =>
  bp (callV (xX s 22 wl k false) true true (.fn (.func 62) [] []) [v121, v125] h126) fun v127 h128 =>
  bp (callV (xX s 22 wl k false) true true (.fn (.func 63) [] []) [t1, v127, (V.lit (Value.int .u64 0))] h128) fun v129 h130 =>
  stO h98.length v3 (
  bm (vLoad s.P 28 v3 h130) h130 fun v131 h132 =>
  bp (callV (xX s 22 wl k false) false true (.fn (.func 59) [] []) [v131, (V.lit (Value.int .i64 1)), (V.lit (Value.int .u64 0))] h132) fun v133 h134 =>
  bs (vStore s.P wl 28 v7 v133 h134) fun h135 =>
  resO [some v129, vLoad s.P 28 v7 h135] h135)))))) :=
  bodyV_run rfl (go_seq (go_reg0
  (go_op0 rfl rfl (st_bp (by kernel_rfl) fun v1 h2 =>
  (go_op0 rfl rfl (st_bp (by kernel_rfl) fun v3 h4 =>
  (go_op0 rfl rfl (st_bp (by kernel_rfl) fun v5 h6 =>
  (go_op0 rfl rfl (st_bp (by kernel_rfl) fun v7 h8 =>
  (go_end0 (by kernel_rfl)
  (go_seq (go_reg0
  (go_op0 rfl rfl (st_bm (by kernel_rfl) fun v9 h10 =>
  (go_op0 rfl rfl (st_id (v := t1) (H := h10) (by kernel_rfl)
  (go_op0 rfl rfl (st_bm (by kernel_rfl) fun v11 h12 =>
  (go_op0 rfl rfl (st_bp (by kernel_rfl) fun v13 h14 =>
  (go_op0 rfl rfl (st_id (v := v13) (H := h14) (by kernel_rfl)
  (go_end0 (by kernel_rfl)
  (go_seq (go_seq (go_reg0
  (go_op0 rfl rfl (st_id (v := v13) (H := h14) (by kernel_rfl)
  (go_op0 rfl rfl (st_bm (by kernel_rfl) fun v15 h16 =>
  (go_end0 (by kernel_rfl)
  (go_cond (by kernel_rfl)
  (go_seq (go_reg1 xo22_3r
  (go_op1 xo22_3 xo22_3a rfl rfl rfl (st_no (by kernel_rfl) (st_id (v := t1) (H := h16) (by kernel_rfl)
  (go_op1 xo22_3 xo22_3a rfl rfl rfl (st_no (by kernel_rfl) (st_bm (by kernel_rfl) fun v17 h18 =>
  (go_op1 xo22_3 xo22_3a rfl rfl rfl (st_no (by kernel_rfl) (st_id (v := t1) (H := h18) (by kernel_rfl)
  (go_op1 xo22_3 xo22_3a rfl rfl rfl (st_no (by kernel_rfl) (st_bs (by kernel_rfl) fun h19 =>
  (go_end1 xo22_3 (by kernel_rfl) xo22_3a
  (go_ret (rt_seq_ret (by kernel_rfl))))))))))))))))))
  (go_skip (go_seq (go_seq (go_reg0
  (go_op0 rfl rfl (st_bm (by kernel_rfl) fun v20 h21 =>
  (go_op0 rfl rfl (st_bm (by kernel_rfl) fun v22 h23 =>
  (go_end0 (by kernel_rfl)
  (go_block (go_seq (go_reg0
  (go_op0 rfl rfl (st_bm (by kernel_rfl) fun v24 h25 =>
  (go_op0 rfl rfl (st_id (v := v24) (H := h25) (by kernel_rfl)
  (go_end0 (by kernel_rfl)
  (go_cond (by kernel_rfl)
  (go_seq (go_reg0
  (go_op0 rfl rfl (st_id (v := t1) (H := h25) (by kernel_rfl)
  (go_op0 rfl rfl (st_bp (by kernel_rfl) fun v26 h27 =>
  (go_op0 rfl rfl (st_bm (by kernel_rfl) fun v28 h29 =>
  (go_op0 rfl rfl (st_bs (by kernel_rfl) fun h30 =>
  (go_end0 (by kernel_rfl)
  (go_seq (go_reg0
  (go_op0 rfl rfl (st_bm (by kernel_rfl) fun v31 h32 =>
  (go_op0 rfl rfl (st_bs (by kernel_rfl) fun h33 =>
  (go_end0 (by kernel_rfl)
  (go_seq (go_reg1 xo22_8r
  (go_op1 xo22_8 xo22_8a rfl rfl rfl (st_no (by kernel_rfl) (st_id (v := t1) (H := h33) (by kernel_rfl)
  (go_op1 xo22_8 xo22_8a rfl rfl rfl (st_no (by kernel_rfl) (st_bm (by kernel_rfl) fun v34 h35 =>
  (go_op1 xo22_8 xo22_8a rfl rfl rfl (st_no (by kernel_rfl) (st_id (v := t1) (H := h35) (by kernel_rfl)
  (go_op1 xo22_8 xo22_8a rfl rfl rfl (st_no (by kernel_rfl) (st_bs (by kernel_rfl) fun h36 =>
  (go_end1 xo22_8 (by kernel_rfl) xo22_8a
  (go_ret (rt_block_ret (rt_seq_ret (by kernel_rfl)))))))))))))))))))))))))))))))))))))
  (go_seq (go_reg0
  (go_op0 rfl rfl (st_bm (by kernel_rfl) fun v37 h38 =>
  (go_op0 rfl rfl (st_id (v := v37) (H := h38) (by kernel_rfl)
  (go_end0 (by kernel_rfl)
  (go_cond (by kernel_rfl)
  (go_seq (go_reg0
  (go_op0 rfl rfl (st_id (v := t1) (H := h38) (by kernel_rfl)
  (go_op0 rfl rfl (st_bp (by kernel_rfl) fun v39 h40 =>
  (go_op0 rfl rfl (st_bm (by kernel_rfl) fun v41 h42 =>
  (go_op0 rfl rfl (st_bs (by kernel_rfl) fun h43 =>
  (go_end0 (by kernel_rfl)
  (go_seq (go_reg0
  (go_op0 rfl rfl (st_bm (by kernel_rfl) fun v44 h45 =>
  (go_op0 rfl rfl (st_bs (by kernel_rfl) fun h46 =>
  (go_end0 (by kernel_rfl)
  (go_seq (go_seq (go_reg1 xo22_12r
  (go_op1 xo22_12 xo22_12a rfl rfl rfl (st_no (by kernel_rfl) (st_bm (by kernel_rfl) fun v47 h48 =>
  (go_op1 xo22_12 xo22_12a rfl rfl rfl (st_no (by kernel_rfl) (st_bm (by kernel_rfl) fun v49 h50 =>
  (go_op1 xo22_12 xo22_12a rfl rfl rfl (st_no (by kernel_rfl) (st_bp (by kernel_rfl) fun v51 h52 =>
  (go_op1 xo22_12 xo22_12a rfl rfl rfl (st_no (by kernel_rfl) (st_bm (by kernel_rfl) fun v53 h54 =>
  (go_op1 xo22_12 xo22_12a rfl rfl rfl (st_yes (by kernel_rfl) (st_bm (by kernel_rfl) fun v55 h56 =>
  (go_op1 xo22_12 xo22_12a rfl rfl rfl (st_no (by kernel_rfl) (st_bp (by kernel_rfl) fun v57 h58 =>
  (go_op1 xo22_12 xo22_12a rfl rfl rfl (st_no (by kernel_rfl) (st_bm (by kernel_rfl) fun v59 h60 =>
  (go_end1 xo22_12 (by kernel_rfl) xo22_12a
  (go_cond (by kernel_rfl)
  (go_seq (go_reg0
  (go_op0 rfl rfl (st_id (v := t1) (H := h60) (by kernel_rfl)
  (go_op0 rfl rfl (st_bm (by kernel_rfl) fun v61 h62 =>
  (go_op0 rfl rfl (st_bp (by kernel_rfl) fun v63 h64 =>
  (go_op0 rfl rfl (st_id (v := t1) (H := h64) (by kernel_rfl)
  (go_op0 rfl rfl (st_bs (by kernel_rfl) fun h65 =>
  (go_end0 (by kernel_rfl)
  (go_ret (rt_seq_ret (rt_block_ret (rt_seq_ret (by kernel_rfl))))))))))))))))))
  (go_skip (go_seq (go_reg1 xo22_14r
  (go_op1 xo22_14 xo22_14a rfl rfl rfl (st_no (by kernel_rfl) (st_id (v := t1) (H := h60) (by kernel_rfl)
  (go_op1 xo22_14 xo22_14a rfl rfl rfl (st_no (by kernel_rfl) (st_bm (by kernel_rfl) fun v66 h67 =>
  (go_op1 xo22_14 xo22_14a rfl rfl rfl (st_no (by kernel_rfl) (st_id (v := t1) (H := h67) (by kernel_rfl)
  (go_op1 xo22_14 xo22_14a rfl rfl rfl (st_no (by kernel_rfl) (st_bs (by kernel_rfl) fun h68 =>
  (go_end1 xo22_14 (by kernel_rfl) xo22_14a
  (go_ret (rt_block_ret (rt_seq_ret (by kernel_rfl))))))))))))))))))))))))))))))))))))))))))))))))))))))))))))))))
  (go_seq (go_reg0
  (go_op0 rfl rfl (st_bm (by kernel_rfl) fun v69 h70 =>
  (go_op0 rfl rfl (st_id (v := v69) (H := h70) (by kernel_rfl)
  (go_end0 (by kernel_rfl)
  (go_cond (by kernel_rfl)
  (go_seq (go_reg1 xo22_16r
  (go_op1 xo22_16 xo22_16a rfl rfl rfl (st_no (by kernel_rfl) (st_id (v := t1) (H := h70) (by kernel_rfl)
  (go_op1 xo22_16 xo22_16a rfl rfl rfl (st_no (by kernel_rfl) (st_bm (by kernel_rfl) fun v71 h72 =>
  (go_op1 xo22_16 xo22_16a rfl rfl rfl (st_yes (by kernel_rfl) (st_bm (by kernel_rfl) fun v73 h74 =>
  (go_op1 xo22_16 xo22_16a rfl rfl rfl (st_no (by kernel_rfl) (st_bm (by kernel_rfl) fun v75 h76 =>
  (go_op1 xo22_16 xo22_16a rfl rfl rfl (st_no (by kernel_rfl) (st_bm (by kernel_rfl) fun v77 h78 =>
  (go_op1 xo22_16 xo22_16a rfl rfl rfl (st_no (by kernel_rfl) (st_bm (by kernel_rfl) fun v79 h80 =>
  (go_op1 xo22_16 xo22_16a rfl rfl rfl (st_no (by kernel_rfl) (st_bm (by kernel_rfl) fun v81 h82 =>
  (go_op1 xo22_16 xo22_16a rfl rfl rfl (st_no (by kernel_rfl) (st_bp (by kernel_rfl) fun v83 h84 =>
  (go_op1 xo22_16 xo22_16a rfl rfl rfl (st_no (by kernel_rfl) (st_bp (by kernel_rfl) fun v85 h86 =>
  (go_op1 xo22_16 xo22_16a rfl rfl rfl (st_no (by kernel_rfl) (st_id (v := v85) (H := h86) (by kernel_rfl)
  (go_op1 xo22_16 xo22_16a rfl rfl rfl (st_no (by kernel_rfl) (st_bm (by kernel_rfl) fun v87 h88 =>
  (go_op1 xo22_16 xo22_16a rfl rfl rfl (st_no (by kernel_rfl) (st_bm (by kernel_rfl) fun v89 h90 =>
  (go_op1 xo22_16 xo22_16a rfl rfl rfl (st_no (by kernel_rfl) (st_id (v := v87) (H := h90) (by kernel_rfl)
  (go_op1 xo22_16 xo22_16a rfl rfl rfl (st_no (by kernel_rfl) (st_id (v := v89) (H := h90) (by kernel_rfl)
  (go_end1 xo22_16 (by kernel_rfl) xo22_16a
  (go_seq (go_reg0
  (go_op0 rfl rfl (st_bm (by kernel_rfl) fun v91 h92 =>
  (go_op0 rfl rfl (st_bs (by kernel_rfl) fun h93 =>
  (go_end0 (by kernel_rfl)
  (go_seq (go_seq (go_reg0
  (go_op0 rfl rfl (st_id (v := v89) (H := h93) (by kernel_rfl)
  (go_end0 (by kernel_rfl)
  (go_cond (by kernel_rfl)
  (go_reg0
  (go_op0 rfl rfl (st_bm (by kernel_rfl) fun v94 h95 =>
  (go_op0 rfl rfl (st_bs (by kernel_rfl) fun h96 =>
  (go_end0 (by kernel_rfl)
  (by kernel_rfl)))))))
  (go_skip (by kernel_rfl)))))))))))))))))))))))))))))))))))))))))))))))))))))))))))))
  (go_seq (go_reg0
  (go_op0 rfl rfl (st_bm (by kernel_rfl) fun v97 h98 =>
  (go_op0 rfl rfl (st_id (v := v97) (H := h98) (by kernel_rfl)
  (go_end0 (by kernel_rfl)
  (go_cond (by kernel_rfl)
  (go_seq (go_reg0
  (go_op0 rfl rfl (st_id (v := t1) (H := h98) (by kernel_rfl)
  (go_op0 rfl rfl (st_bm (by kernel_rfl) fun v99 h100 =>
  (go_op0 rfl rfl (st_bm (by kernel_rfl) fun v101 h102 =>
  (go_op0 rfl rfl (st_bm (by kernel_rfl) fun v103 h104 =>
  (go_op0 rfl rfl (st_bp (by kernel_rfl) fun v105 h106 =>
  (go_op0 rfl rfl (st_bp (by kernel_rfl) fun v107 h108 =>
  (go_op0 rfl rfl (st_bm (by kernel_rfl) fun v109 h110 =>
  (go_op0 rfl rfl (st_bs (by kernel_rfl) fun h111 =>
  (go_end0 (by kernel_rfl)
  (go_seq (go_seq (go_reg0
  (go_op0 rfl rfl (st_bm (by kernel_rfl) fun v112 h113 =>
  (go_op0 rfl rfl (st_bm (by kernel_rfl) fun v114 h115 =>
  (go_op0 rfl rfl (st_bm (by kernel_rfl) fun v116 h117 =>
  (go_end0 (by kernel_rfl)
  (go_cond (by kernel_rfl)
  (go_reg0
  (go_op0 rfl rfl (st_bm (by kernel_rfl) fun v118 h119 =>
  (go_op0 rfl rfl (st_bs (by kernel_rfl) fun h120 =>
  (go_end0 (by kernel_rfl)
  (by kernel_rfl)))))))
  (go_skip (by kernel_rfl))))))))))))))))))))))))))))))))
  (go_skip (rt_block_norm (go_seq (go_reg1 xo22_26r
  (go_op1 xo22_26 xo22_26a rfl rfl rfl (st_no (by kernel_rfl) (st_id (v := t1) (H := h98) (by kernel_rfl)
  (go_op1 xo22_26 xo22_26a rfl rfl rfl (st_no (by kernel_rfl) (st_bm (by kernel_rfl) fun v121 h122 =>
  (go_op1 xo22_26 xo22_26a rfl rfl rfl (st_no (by kernel_rfl) (st_bm (by kernel_rfl) fun v123 h124 =>
  (go_op1 xo22_26 xo22_26a rfl rfl rfl (st_no (by kernel_rfl) (st_bm (by kernel_rfl) fun v125 h126 =>
  (go_op1 xo22_26 xo22_26a rfl rfl rfl (st_no (by kernel_rfl) (st_bp (by kernel_rfl) fun v127 h128 =>
  (go_op1 xo22_26 xo22_26a rfl rfl rfl (st_no (by kernel_rfl) (st_bp (by kernel_rfl) fun v129 h130 =>
  (go_op1 xo22_26 xo22_26a rfl rfl rfl (st_yes (by kernel_rfl) (st_bm (by kernel_rfl) fun v131 h132 =>
  (go_op1 xo22_26 xo22_26a rfl rfl rfl (st_no (by kernel_rfl) (st_bp (by kernel_rfl) fun v133 h134 =>
  (go_op1 xo22_26 xo22_26a rfl rfl rfl (st_no (by kernel_rfl) (st_id (v := v129) (H := h134) (by kernel_rfl)
  (go_op1 xo22_26 xo22_26a rfl rfl rfl (st_no (by kernel_rfl) (st_bs (by kernel_rfl) fun h135 =>
  (go_end1 xo22_26 (by kernel_rfl) xo22_26a
  (go_ret (by kernel_rfl))))))))))))))))))))))))))))))))))))))))))))))))))))))))))))))))))))))))))))))))))))))))))))))))))))))))))))))))
theorem xe22 (k wl : Nat) (t0 t1 t2 : V) (h : Hp) : evF Try.prog xM (k + 1) wl 22 [t0, t1, t2] h = bodyV (xX (xS k) 22 wl k false) Try.f22 [t0, t1, t2] h := by kernel_rfl
theorem xj22_0 (s : Sys) (k wl : Nat) (t0 t1 t2 t3 t4 t5 t6 t7 t8 t9 t10 t11 t12 t13 t14 t15 t16 t17 t18 t19 t20 t21 t22 t23 t24 t25 t26 t27 t28 t29 t30 t31 t32 t33 t34 t35 t36 t37 t38 t39 t40 t41 t42 t43 t44 t45 t46 t47 t48 t49 t50 t51 t52 t53 t54 t55 t56 t57 t58 t59 t60 t61 t62 t63 t64 t65 t66 t67 t68 t69 t70 t71 t72 t73 t74 t75 t76 t77 t78 t79 t80 t81 t82 t83 t84 t85 t86 t87 t88 : V) (h : Hp) : runK (xX s 22 wl k false) (bodyK s.P Try.f22) xk22_0 .norm ⟨(t0 :: t1 :: t2 :: t3 :: t4 :: t5 :: t6 :: t7 :: t8 :: t9 :: t10 :: t11 :: t12 :: t13 :: t14 :: t15 :: t16 :: t17 :: t18 :: t19 :: t20 :: t21 :: t22 :: t23 :: t24 :: t25 :: t26 :: t27 :: t28 :: t29 :: t30 :: t31 :: t32 :: t33 :: t34 :: t35 :: t36 :: t37 :: t38 :: t39 :: t40 :: t41 :: t42 :: t43 :: t44 :: t45 :: t46 :: t47 :: t48 :: t49 :: t50 :: t51 :: t52 :: t53 :: t54 :: t55 :: t56 :: t57 :: t58 :: t59 :: t60 :: t61 :: t62 :: t63 :: t64 :: t65 :: t66 :: t67 :: t68 :: t69 :: t70 :: t71 :: t72 :: t73 :: t74 :: t75 :: t76 :: t77 :: t78 :: t79 :: t80 :: t81 :: t82 :: t83 :: t84 :: t85 :: t86 :: t87 :: t88 :: []), h⟩ =
  bm (vLoad s.P 28 t5 h) h fun v136 h137 =>
  bs (vStore s.P wl 28 t7 v136 h137) fun h138 =>
  resO [some t9, vLoad s.P 28 t7 h138] h138 :=
  (go_seq (go_reg1 xo22_20r
  (go_op1 xo22_20 xo22_20a rfl rfl rfl (st_no (by kernel_rfl) (st_id (v := t9) (H := h) (by kernel_rfl)
  (go_op1 xo22_20 xo22_20a rfl rfl rfl (st_no (by kernel_rfl) (st_bm (by kernel_rfl) fun v136 h137 =>
  (go_op1 xo22_20 xo22_20a rfl rfl rfl (st_no (by kernel_rfl) (st_id (v := t9) (H := h137) (by kernel_rfl)
  (go_op1 xo22_20 xo22_20a rfl rfl rfl (st_no (by kernel_rfl) (st_bs (by kernel_rfl) fun h138 =>
  (go_end1 xo22_20 (by kernel_rfl) xo22_20a
  (go_ret (rt_block_ret (rt_seq_ret (by kernel_rfl)))))))))))))))))))
theorem xj22_1 (s : Sys) (k wl : Nat) (t0 t1 t2 t3 t4 t5 t6 t7 t8 t9 t10 t11 t12 t13 t14 t15 t16 t17 t18 t19 t20 t21 t22 t23 t24 t25 t26 t27 t28 t29 t30 t31 t32 t33 t34 t35 t36 t37 t38 t39 t40 t41 t42 t43 t44 t45 t46 t47 t48 t49 t50 t51 t52 t53 t54 t55 t56 t57 t58 t59 t60 t61 t62 t63 t64 t65 t66 t67 t68 t69 t70 t71 t72 t73 t74 t75 t76 t77 t78 t79 t80 t81 t82 t83 t84 t85 t86 t87 t88 : V) (h : Hp) : runK (xX s 22 wl k false) (bodyK s.P Try.f22) xk22_1 .norm ⟨(t0 :: t1 :: t2 :: t3 :: t4 :: t5 :: t6 :: t7 :: t8 :: t9 :: t10 :: t11 :: t12 :: t13 :: t14 :: t15 :: t16 :: t17 :: t18 :: t19 :: t20 :: t21 :: t22 :: t23 :: t24 :: t25 :: t26 :: t27 :: t28 :: t29 :: t30 :: t31 :: t32 :: t33 :: t34 :: t35 :: t36 :: t37 :: t38 :: t39 :: t40 :: t41 :: t42 :: t43 :: t44 :: t45 :: t46 :: t47 :: t48 :: t49 :: t50 :: t51 :: t52 :: t53 :: t54 :: t55 :: t56 :: t57 :: t58 :: t59 :: t60 :: t61 :: t62 :: t63 :: t64 :: t65 :: t66 :: t67 :: t68 :: t69 :: t70 :: t71 :: t72 :: t73 :: t74 :: t75 :: t76 :: t77 :: t78 :: t79 :: t80 :: t81 :: t82 :: t83 :: t84 :: t85 :: t86 :: t87 :: t88 :: []), h⟩ =
  bm (vLoad s.P 28 t5 h) h fun v139 h140 =>
  bs (vStore s.P wl 28 t7 v139 h140) fun h141 =>
  resO [some t1, vLoad s.P 28 t7 h141] h141 :=
  (go_seq (go_reg1 xo22_25r
  (go_op1 xo22_25 xo22_25a rfl rfl rfl (st_no (by kernel_rfl) (st_id (v := t1) (H := h) (by kernel_rfl)
  (go_op1 xo22_25 xo22_25a rfl rfl rfl (st_no (by kernel_rfl) (st_bm (by kernel_rfl) fun v139 h140 =>
  (go_op1 xo22_25 xo22_25a rfl rfl rfl (st_no (by kernel_rfl) (st_id (v := t1) (H := h140) (by kernel_rfl)
  (go_op1 xo22_25 xo22_25a rfl rfl rfl (st_no (by kernel_rfl) (st_bs (by kernel_rfl) fun h141 =>
  (go_end1 xo22_25 (by kernel_rfl) xo22_25a
  (go_ret (rt_block_ret (rt_seq_ret (by kernel_rfl)))))))))))))))))))
theorem xk22_0_ret (cx : Cx) (K : Out → St → Option (V × Hp)) (s : St) : runK cx K xk22_0 .ret s = K .ret s := by kernel_rfl
theorem xk22_1_ret (cx : Cx) (K : Out → St → Option (V × Hp)) (s : St) : runK cx K xk22_1 .ret s = K .ret s := by kernel_rfl
-- names: xb22, xj22_0, xj22_1, xk22_0_ret, xk22_1_ret
/-! 23 poacher/poacherref01.Same: 0 a, 1 b, 2 a, 3 b, 5 i -/
noncomputable def xl23_0 : Code := codeAt (bodyOf Try.f23) [1, 1, 0, 1, 0, 0]
noncomputable def xk23_0 : List Fr := [.block 0, .seq (codeAt (bodyOf Try.f23) [1, 1, 1])]
noncomputable def xg23_0 : Code := codeAt (bodyOf Try.f23) [1, 1, 0, 1, 0, 0, 1, 0, 0, 0]
theorem xo23_6 : orderIx (opsOf xg23_0) = [0, 1, 2, 3, 4, 5, 6, 7, 8] := by kernel_rfl
theorem xo23_6a : (rgOf (opsOf xg23_0)).any = false := by kernel_rfl
theorem xo23_6r : regOk (opsOf xg23_0) = true := by kernel_rfl
theorem xb23 (s : Sys) (k wl : Nat) (t0 t1 : V) (h : Hp) : bodyV (xX s 23 wl k false) Try.f23 [t0, t1] h =
  bp (opLen s.P 25 t0 h) fun v1 h2 =>
  bp (opLen s.P 25 t1 h2) fun v3 h4 =>
  bm (vBin s.P .neq 3 v1 v3) h4 fun v5 h6 =>
  cnd v5 (
  some ((V.lit (Value.bool false)), h6)) (
  itX (xX s 23 wl k false) xl23_0 h6.length (runK (xX s 23 wl k false) (bodyK s.P Try.f23) xk23_0) k ⟨[(V.kill h6.length t0), (V.kill h6.length t1), (V.kill h6.length uu), (V.kill h6.length uu), (V.lit (Value.bool false)), (V.lit (Value.int .i64 0)), (V.kill h6.length t0), (V.kill h6.length v1), (V.kill h6.length t1), (V.kill h6.length v3), (V.kill h6.length v5), .junk, .junk, .junk, .junk, .junk, .junk, .junk, .junk, .junk, .junk, .junk, .junk, .junk, .junk, .junk], cutH h6.length h6⟩) :=
  bodyV_run rfl (go_seq (go_reg0
  (go_op0 rfl rfl (st_id (v := (V.lit (Value.bool false))) (H := h) (by kernel_rfl)
  (go_end0 (by kernel_rfl)
  (go_seq (go_seq (go_reg0
  (go_op0 rfl rfl (st_id (v := t0) (H := h) (by kernel_rfl)
  (go_op0 rfl rfl (st_bp (by kernel_rfl) fun v1 h2 =>
  (go_op0 rfl rfl (st_id (v := t1) (H := h2) (by kernel_rfl)
  (go_op0 rfl rfl (st_bp (by kernel_rfl) fun v3 h4 =>
  (go_op0 rfl rfl (st_bm (by kernel_rfl) fun v5 h6 =>
  (go_end0 (by kernel_rfl)
  (go_cond (by kernel_rfl)
  (go_seq (go_reg0
  (go_op0 rfl rfl (st_id (v := (V.lit (Value.bool false))) (H := h6) (by kernel_rfl)
  (go_end0 (by kernel_rfl)
  (go_ret (rt_seq_ret (by kernel_rfl))))))))
  (go_skip (go_seq (go_seq (go_reg0
  (go_op0 rfl rfl (st_id (v := (V.lit (Value.int .i64 0))) (H := h6) (by kernel_rfl)
  (go_end0 (by kernel_rfl)
  (go_block (by kernel_rfl)))))))))))))))))))))))))))))
theorem xe23 (k wl : Nat) (t0 t1 : V) (h : Hp) : evF Try.prog xM (k + 1) wl 23 [t0, t1] h = bodyV (xX (xS k) 23 wl k false) Try.f23 [t0, t1] h := by kernel_rfl
theorem xz23 (P : Program) (t0 t1 t2 t3 t4 t5 t6 t7 t8 t9 t10 t11 t12 t13 t14 t15 t16 t17 t18 t19 t20 t21 t22 t23 t24 t25 : V) (h : Hp) : bodyK P Try.f23 .ret ⟨[t0, t1, t2, t3, t4, t5, t6, t7, t8, t9, t10, t11, t12, t13, t14, t15, t16, t17, t18, t19, t20, t21, t22, t23, t24, t25], h⟩ = some (t4, h) := by kernel_rfl
theorem xr23_0 (s : Sys) (K : Out → St → Option (V × Hp)) (k wl : Nat) (rd : Bool) (n n0 : Nat) (t0 t1 t2 t3 t4 t5 t6 t7 t8 t9 t10 t11 t12 t13 t14 t15 t16 t17 t18 t19 t20 t21 t22 t23 t24 t25 : V) (h : Hp) : itX (xX s 23 wl k rd) xl23_0 n0 K (n + 1) ⟨[t0, t1, t2, t3, t4, t5, t6, t7, t8, t9, t10, t11, t12, t13, t14, t15, t16, t17, t18, t19, t20, t21, t22, t23, t24, t25], h⟩ =
  bp (opLen s.P 25 t0 h) fun v7 h8 =>
  bm (vBin s.P .lss 3 t5 v7) h8 fun v9 h10 =>
  cnd v9 (
  bm (vIndexAddr s.P 25 t0 t5 h10) h10 fun v11 h12 =>
  bm (vLoad s.P 26 v11 h12) h12 fun v13 h14 =>
  bm (vIndexAddr s.P 25 t1 t5 h14) h14 fun v15 h16 =>
  bm (vLoad s.P 26 v15 h16) h16 fun v17 h18 =>
  bm (vBin s.P .neq 26 v13 v17) h18 fun v19 h20 =>
  cnd v19 (
  K .ret ⟨[t0, t1, t2, t3, (V.lit (Value.bool false)), t5, t6, t7, t8, t9, t10, t5, t0, v7, v9, t15, t16, t0, t5, v11, v13, t1, t5, v15, v17, v19], h20⟩) (
  bm (vBin s.P .add 3 t5 (V.lit (Value.int .i64 1))) h20 fun v21 h22 =>
  itX (xX s 23 wl k rd) xl23_0 n0 K n ⟨[(V.kill n0 t0), (V.kill n0 t1), (V.kill n0 t2), (V.kill n0 t3), (V.kill n0 t4), (V.kill n0 v21), (V.kill n0 t6), (V.kill n0 t7), (V.kill n0 t8), (V.kill n0 t9), (V.kill n0 t10), .junk, .junk, .junk, .junk, .junk, .junk, .junk, .junk, .junk, .junk, .junk, .junk, .junk, .junk, .junk], cutH n0 h22⟩)) (
  K (.exit 0) ⟨[(V.kill n0 t0), (V.kill n0 t1), (V.kill n0 t2), (V.kill n0 t3), (V.kill n0 t4), (V.kill n0 t5), (V.kill n0 t6), (V.kill n0 t7), (V.kill n0 t8), (V.kill n0 t9), (V.kill n0 t10), .junk, .junk, .junk, .junk, .junk, .junk, .junk, .junk, .junk, .junk, .junk, .junk, .junk, .junk, .junk], cutH n0 h10⟩) :=
  itX_step (go_seq (go_seq (go_reg0
  (go_op0 rfl rfl (st_id (v := t5) (H := h) (by kernel_rfl)
  (go_op0 rfl rfl (st_id (v := t0) (H := h) (by kernel_rfl)
  (go_op0 rfl rfl (st_bp (by kernel_rfl) fun v7 h8 =>
  (go_op0 rfl rfl (st_bm (by kernel_rfl) fun v9 h10 =>
  (go_end0 (by kernel_rfl)
  (go_cond (by kernel_rfl)
  (go_skip (go_seq (go_block (go_seq (go_reg1 xo23_6r
  (go_op1 xo23_6 xo23_6a rfl rfl rfl (st_no (by kernel_rfl) (st_id (v := t0) (H := h10) (by kernel_rfl)
  (go_op1 xo23_6 xo23_6a rfl rfl rfl (st_no (by kernel_rfl) (st_id (v := t5) (H := h10) (by kernel_rfl)
  (go_op1 xo23_6 xo23_6a rfl rfl rfl (st_no (by kernel_rfl) (st_bm (by kernel_rfl) fun v11 h12 =>
  (go_op1 xo23_6 xo23_6a rfl rfl rfl (st_no (by kernel_rfl) (st_bm (by kernel_rfl) fun v13 h14 =>
  (go_op1 xo23_6 xo23_6a rfl rfl rfl (st_no (by kernel_rfl) (st_id (v := t1) (H := h14) (by kernel_rfl)
  (go_op1 xo23_6 xo23_6a rfl rfl rfl (st_no (by kernel_rfl) (st_id (v := t5) (H := h14) (by kernel_rfl)
  (go_op1 xo23_6 xo23_6a rfl rfl rfl (st_no (by kernel_rfl) (st_bm (by kernel_rfl) fun v15 h16 =>
  (go_op1 xo23_6 xo23_6a rfl rfl rfl (st_no (by kernel_rfl) (st_bm (by kernel_rfl) fun v17 h18 =>
  (go_op1 xo23_6 xo23_6a rfl rfl rfl (st_no (by kernel_rfl) (st_bm (by kernel_rfl) fun v19 h20 =>
  (go_end1 xo23_6 (by kernel_rfl) xo23_6a
  (go_cond (by kernel_rfl)
  (go_seq (go_reg0
  (go_op0 rfl rfl (st_id (v := (V.lit (Value.bool false))) (H := h20) (by kernel_rfl)
  (go_end0 (by kernel_rfl)
  (go_ret (rt_block_ret (rt_seq_ret (by kernel_rfl)))))))))
  (go_skip (rt_block_norm (go_reg0
  (go_op0 rfl rfl (st_id (v := t5) (H := h20) (by kernel_rfl)
  (go_op0 rfl rfl (st_bm (by kernel_rfl) fun v21 h22 =>
  (go_op0 rfl rfl (st_id (v := v21) (H := h22) (by kernel_rfl)
  (go_end0 (by kernel_rfl)
  (by kernel_rfl)))))))))))))))))))))))))))))))))))))))))))))
  (go_exit (rt_seq_exit (by kernel_rfl))))))))))))))))
theorem xj23_0 (s : Sys) (k wl : Nat) (t0 t1 t2 t3 t4 t5 t6 t7 t8 t9 t10 t11 t12 t13 t14 t15 t16 t17 t18 t19 t20 t21 t22 t23 t24 t25 : V) (h : Hp) : runK (xX s 23 wl k false) (bodyK s.P Try.f23) xk23_0 (.exit 0) ⟨[t0, t1, t2, t3, t4, t5, t6, t7, t8, t9, t10, t11, t12, t13, t14, t15, t16, t17, t18, t19, t20, t21, t22, t23, t24, t25], h⟩ =
  some ((V.lit (Value.bool true)), h) :=
  (rt_block_eq (go_seq (go_reg0
  (go_op0 rfl rfl (st_id (v := (V.lit (Value.bool true))) (H := h) (by kernel_rfl)
  (go_end0 (by kernel_rfl)
  (go_ret (by kernel_rfl))))))))
theorem xk23_0_ret (cx : Cx) (K : Out → St → Option (V × Hp)) (s : St) : runK cx K xk23_0 .ret s = K .ret s := by kernel_rfl
-- names: xb23, xz23, xr23_0, xj23_0, xk23_0_ret
/-! 24 poacher/poacherref14.Parked: 0 f, 1 f -/
noncomputable def xg24_0 : Code := codeAt (bodyOf Try.f24) [1, 0]
noncomputable def xk24_0 : List Fr := [.seq (codeAt (bodyOf Try.f24) [1, 1])]
theorem xb24 (s : Sys) (k wl : Nat) (t0 : V) (h : Hp) : bodyV (xX s 24 wl k false) Try.f24 [t0] h =
  bp (opBox t0 h) fun v1 h2 =>
  bm (vFieldAddr s.P 28 v1 0) h2 fun v3 h4 =>
  bm (vLoad s.P 3 v3 h4) h4 fun v5 h6 =>
  bm (vBin s.P .eql 3 v5 (V.lit (Value.int .i64 5))) h6 fun v7 h8 =>
  gd v7 (
  bm (vFieldAddr s.P 28 v1 6) h8 fun v9 h10 =>
  bm (vLoad s.P 3 v9 h10) h10 fun v11 h12 =>
  bm (vBin s.P .eql 3 v11 (V.lit (Value.int .i64 0))) h12 fun v13 h14 =>
  opsP (xX s 24 wl k false) xg24_0 7 h2.length ([], []) (runK (xX s 24 wl k false) (bodyK s.P Try.f24) xk24_0) ⟨[t0, v1, (V.lit (Value.bool false)), v3, v5, v7, (V.lit (Value.bool true)), v9, v11, v13, uu, uu, uu, uu, uu, uu], h14⟩) (
  opsP (xX s 24 wl k false) xg24_0 7 h2.length ([], []) (runK (xX s 24 wl k false) (bodyK s.P Try.f24) xk24_0) ⟨[t0, v1, (V.lit (Value.bool false)), v3, v5, v7, (V.lit (Value.bool false)), uu, uu, uu, uu, uu, uu, uu, uu, uu], h8⟩) (
  opsP (xX s 24 wl k false) xg24_0 5 h2.length ([], []) (runK (xX s 24 wl k false) (bodyK s.P Try.f24) xk24_0) ⟨[t0, v1, (V.lit (Value.bool false)), v3, v5, v7, v7, uu, uu, uu, uu, uu, uu, uu, uu, uu], h8⟩) :=
  bodyV_run rfl (go_seq (go_reg0
  (go_op0 rfl rfl (st_bp (by kernel_rfl) fun v1 h2 =>
  (go_op0 rfl rfl (st_id (v := (V.lit (Value.bool false))) (H := h2) (by kernel_rfl)
  (go_end0 (by kernel_rfl)
  (go_seq (go_reg0
  (go_op0 rfl rfl (st_bm (by kernel_rfl) fun v3 h4 =>
  (go_op0 rfl rfl (st_bm (by kernel_rfl) fun v5 h6 =>
  (go_op0 rfl rfl (st_bm (by kernel_rfl) fun v7 h8 =>
  (go_op0 rfl rfl (st_id (v := v7) (H := h8) (by kernel_rfl)
  (go_gdT0 rfl rfl rfl (by kernel_rfl)
  (st_bm (by kernel_rfl) fun v9 h10 =>
  (go_run0 rfl rfl rfl (by kernel_rfl) (st_bm (by kernel_rfl) fun v11 h12 =>
  (go_run0 rfl rfl rfl (by kernel_rfl) (st_bm (by kernel_rfl) fun v13 h14 =>
  (by kernel_rfl))))))
  (go_skip0 rfl rfl rfl (by kernel_rfl)
  (go_skip0 rfl rfl rfl (by kernel_rfl)
  (by kernel_rfl)))
  (by kernel_rfl)))))))))))))))))))
theorem xe24 (k wl : Nat) (t0 : V) (h : Hp) : evF Try.prog xM (k + 1) wl 24 [t0] h = bodyV (xX (xS k) 24 wl k false) Try.f24 [t0] h := by kernel_rfl
theorem xm24_0 (s : Sys) (k wl : Nat) (m0 : Nat) (ac : List Nat × List Nat) (t0 t1 t2 t3 t4 t5 t6 t7 t8 t9 t10 t11 t12 t13 t14 t15 : V) (h : Hp) : opsP (xX s 24 wl k false) xg24_0 7 m0 ac (runK (xX s 24 wl k false) (bodyK s.P Try.f24) xk24_0) ⟨[t0, t1, t2, t3, t4, t5, t6, t7, t8, t9, t10, t11, t12, t13, t14, t15], h⟩ =
  bm (vPick t6 t9 (V.lit (Value.bool false))) h fun v15 h16 =>
  gd v15 (
  bm (vFieldAddr s.P 28 t1 1) h16 fun v17 h18 =>
  bm (vLoad s.P 3 v17 h18) h18 fun v19 h20 =>
  bm (vBin s.P .eql 3 v19 (V.lit (Value.int .i64 3))) h20 fun v21 h22 =>
  opsP (xX s 24 wl k false) xg24_0 12 m0 ac (runK (xX s 24 wl k false) (bodyK s.P Try.f24) xk24_0) ⟨[t0, t1, t2, t3, t4, t5, t6, t7, t8, t9, v15, (V.lit (Value.bool true)), v17, v19, v21, t15], h22⟩) (
  opsP (xX s 24 wl k false) xg24_0 12 m0 ac (runK (xX s 24 wl k false) (bodyK s.P Try.f24) xk24_0) ⟨[t0, t1, t2, t3, t4, t5, t6, t7, t8, t9, v15, (V.lit (Value.bool false)), uu, uu, uu, t15], h16⟩) (
  opsP (xX s 24 wl k false) xg24_0 10 m0 ac (runK (xX s 24 wl k false) (bodyK s.P Try.f24) xk24_0) ⟨[t0, t1, t2, t3, t4, t5, t6, t7, t8, t9, v15, v15, uu, t13, t14, t15], h16⟩) :=
  (go_op0 rfl rfl (st_bm (by kernel_rfl) fun v15 h16 =>
  (go_op0 rfl rfl (st_id (v := v15) (H := h16) (by kernel_rfl)
  (go_gdT0 rfl rfl rfl (by kernel_rfl)
  (st_bm (by kernel_rfl) fun v17 h18 =>
  (go_run0 rfl rfl rfl (by kernel_rfl) (st_bm (by kernel_rfl) fun v19 h20 =>
  (go_run0 rfl rfl rfl (by kernel_rfl) (st_bm (by kernel_rfl) fun v21 h22 =>
  (by kernel_rfl))))))
  (go_skip0 rfl rfl rfl (by kernel_rfl)
  (go_skip0 rfl rfl rfl (by kernel_rfl)
  (by kernel_rfl)))
  (by kernel_rfl))))))
theorem xm24_1 (s : Sys) (k wl : Nat) (m0 : Nat) (ac : List Nat × List Nat) (t0 t1 t2 t3 t4 t5 t6 t7 t8 t9 t10 t11 t12 t13 t14 t15 : V) (h : Hp) : opsP (xX s 24 wl k false) xg24_0 12 m0 ac (runK (xX s 24 wl k false) (bodyK s.P Try.f24) xk24_0) ⟨[t0, t1, t2, t3, t4, t5, t6, t7, t8, t9, t10, t11, t12, t13, t14, t15], h⟩ =
  bm (vPick t11 t14 (V.lit (Value.bool false))) h fun v23 h24 =>
  some (v23, h24) :=
  (go_op0 rfl rfl (st_bm (by kernel_rfl) fun v23 h24 =>
  (go_op0 rfl rfl (st_id (v := v23) (H := h24) (by kernel_rfl)
  (go_end0 (by kernel_rfl)
  (go_ret (by kernel_rfl)))))))
theorem xk24_0_ret (cx : Cx) (K : Out → St → Option (V × Hp)) (s : St) : runK cx K xk24_0 .ret s = K .ret s := by kernel_rfl
-- names: xb24, xm24_0, xm24_1, xk24_0_ret
/-! 25 poacher/poacherref14.Waits: 0 c, 1 m, 2 w, 3 c, 4 m, 5 w, 7 may, 8 has -/
noncomputable def xg25_0 : Code := codeAt (bodyOf Try.f25) [1, 1, 0, 0]
noncomputable def xk25_0 : List Fr := [.seq (codeAt (bodyOf Try.f25) [1, 1, 0, 1]), .seq (codeAt (bodyOf Try.f25) [1, 1, 1])]
theorem xb25 (s : Sys) (k wl : Nat) (t0 t1 t2 : V) (h : Hp) : bodyV (xX s 25 wl k false) Try.f25 [t0, t1, t2] h =
  bp (opBox t0 h) fun v1 h2 =>
  bm (vLoad s.P 23 v1 h2) h2 fun v3 h4 =>
  bp (callV (xX s 25 wl k false) false true (.fn (.func 64) [] []) [v3] h4) fun v5 h6 =>
  bm (vUn .not v5) h6 fun v7 h8 =>
  gd v7 (
  opsP (xX s 25 wl k false) xg25_0 8 h6.length ([], []) (runK (xX s 25 wl k false) (bodyK s.P Try.f25) xk25_0) ⟨[t0, t1, t2, v1, uu, uu, (V.lit (Value.bool false)), v5, uu, v3, v5, v5, v7, (V.lit (Value.bool true)), uu, uu, uu, uu, uu, uu, uu, uu, uu, uu, uu, uu, uu, uu, uu, uu, uu, uu, uu, uu, uu, uu, uu], h8⟩) (
  bp (opLen s.P 25 t1 h8) fun v9 h10 =>
  bm (vLoad s.P 23 v1 h10) h10 fun v11 h12 =>
  bp (callV (xX s 25 wl k false) false true (.fn (.func 65) [] []) [v11] h12) fun v13 h14 =>
  bm (vBin s.P .neq 3 v9 v13) h14 fun v15 h16 =>
  opsP (xX s 25 wl k false) xg25_0 8 h6.length ([], []) (runK (xX s 25 wl k false) (bodyK s.P Try.f25) xk25_0) ⟨[t0, t1, t2, v1, uu, uu, (V.lit (Value.bool false)), v5, uu, v3, v5, v5, v7, (V.lit (Value.bool false)), t1, v9, v11, v13, v15, uu, uu, uu, uu, uu, uu, uu, uu, uu, uu, uu, uu, uu, uu, uu, uu, uu, uu], h16⟩) (
  opsP (xX s 25 wl k false) xg25_0 4 h6.length ([], []) (runK (xX s 25 wl k false) (bodyK s.P Try.f25) xk25_0) ⟨[t0, t1, t2, v1, uu, uu, (V.lit (Value.bool false)), v5, uu, v3, v5, v5, v7, v7, uu, uu, uu, uu, uu, uu, uu, uu, uu, uu, uu, uu, uu, uu, uu, uu, uu, uu, uu, uu, uu, uu, uu], h8⟩) :=
  bodyV_run rfl (go_seq (go_reg0
  (go_op0 rfl rfl (st_bp (by kernel_rfl) fun v1 h2 =>
  (go_op0 rfl rfl (st_id (v := (V.lit (Value.bool false))) (H := h2) (by kernel_rfl)
  (go_end0 (by kernel_rfl)
  (go_seq (go_reg0
  (go_op0 rfl rfl (st_bm (by kernel_rfl) fun v3 h4 =>
  (go_op0 rfl rfl (st_bp (by kernel_rfl) fun v5 h6 =>
  (go_op0 rfl rfl (st_id (v := v5) (H := h6) (by kernel_rfl)
  (go_end0 (by kernel_rfl)
  (go_seq (go_seq (go_reg0
  (go_op0 rfl rfl (st_id (v := v5) (H := h6) (by kernel_rfl)
  (go_op0 rfl rfl (st_bm (by kernel_rfl) fun v7 h8 =>
  (go_op0 rfl rfl (st_id (v := v7) (H := h8) (by kernel_rfl)
  (go_gdF0 rfl rfl rfl (by kernel_rfl)
  (go_skip0 rfl rfl rfl (by kernel_rfl)
  (go_skip0 rfl rfl rfl (by kernel_rfl)
  (go_skip0 rfl rfl rfl (by kernel_rfl)
  (go_skip0 rfl rfl rfl (by kernel_rfl)
  (by kernel_rfl)))))
  (st_id (v := t1) (H := h8) (by kernel_rfl)
  (go_run0 rfl rfl rfl (by kernel_rfl) (st_bp (by kernel_rfl) fun v9 h10 =>
  (go_run0 rfl rfl rfl (by kernel_rfl) (st_bm (by kernel_rfl) fun v11 h12 =>
  (go_run0 rfl rfl rfl (by kernel_rfl) (st_bp (by kernel_rfl) fun v13 h14 =>
  (go_run0 rfl rfl rfl (by kernel_rfl) (st_bm (by kernel_rfl) fun v15 h16 =>
  (by kernel_rfl))))))))))
  (by kernel_rfl)))))))))))))))))))))))))))
theorem xe25 (k wl : Nat) (t0 t1 t2 : V) (h : Hp) : evF Try.prog xM (k + 1) wl 25 [t0, t1, t2] h = bodyV (xX (xS k) 25 wl k false) Try.f25 [t0, t1, t2] h := by kernel_rfl
theorem xm25_0 (s : Sys) (k wl : Nat) (m0 : Nat) (ac : List Nat × List Nat) (t0 t1 t2 t3 t4 t5 t6 t7 t8 t9 t10 t11 t12 t13 t14 t15 t16 t17 t18 t19 t20 t21 t22 t23 t24 t25 t26 t27 t28 t29 t30 t31 t32 t33 t34 t35 t36 : V) (h : Hp) : opsP (xX s 25 wl k false) xg25_0 8 m0 ac (runK (xX s 25 wl k false) (bodyK s.P Try.f25) xk25_0) ⟨[t0, t1, t2, t3, t4, t5, t6, t7, t8, t9, t10, t11, t12, t13, t14, t15, t16, t17, t18, t19, t20, t21, t22, t23, t24, t25, t26, t27, t28, t29, t30, t31, t32, t33, t34, t35, t36], h⟩ =
  bm (vPick t13 (V.lit (Value.bool true)) t18) h fun v17 h18 =>
  gd v17 (
  opsP (xX s 25 wl k false) xg25_0 12 m0 ac (runK (xX s 25 wl k false) (bodyK s.P Try.f25) xk25_0) ⟨[t0, t1, t2, t3, t4, t5, t6, t7, t8, t9, t10, t11, t12, t13, t14, t15, t16, t17, t18, v17, (V.lit (Value.bool true)), uu, uu, t23, t24, t25, t26, t27, t28, t29, t30, t31, t32, t33, t34, t35, t36], h18⟩) (
  bm (vBin s.P .lss 3 t2 (V.lit (Value.int .i64 0))) h18 fun v19 h20 =>
  opsP (xX s 25 wl k false) xg25_0 12 m0 ac (runK (xX s 25 wl k false) (bodyK s.P Try.f25) xk25_0) ⟨[t0, t1, t2, t3, t4, t5, t6, t7, t8, t9, t10, t11, t12, t13, t14, t15, t16, t17, t18, v17, (V.lit (Value.bool false)), t2, v19, t23, t24, t25, t26, t27, t28, t29, t30, t31, t32, t33, t34, t35, t36], h20⟩) (
  opsP (xX s 25 wl k false) xg25_0 11 m0 ac (runK (xX s 25 wl k false) (bodyK s.P Try.f25) xk25_0) ⟨[t0, t1, t2, t3, t4, t5, t6, t7, t8, t9, t10, t11, t12, t13, t14, t15, t16, t17, t18, v17, v17, uu, t22, t23, t24, t25, t26, t27, t28, t29, t30, t31, t32, t33, t34, t35, t36], h18⟩) :=
  (go_op0 rfl rfl (st_bm (by kernel_rfl) fun v17 h18 =>
  (go_op0 rfl rfl (st_id (v := v17) (H := h18) (by kernel_rfl)
  (go_gdF0 rfl rfl rfl (by kernel_rfl)
  (go_skip0 rfl rfl rfl (by kernel_rfl)
  (by kernel_rfl))
  (st_id (v := t2) (H := h18) (by kernel_rfl)
  (go_run0 rfl rfl rfl (by kernel_rfl) (st_bm (by kernel_rfl) fun v19 h20 =>
  (by kernel_rfl))))
  (by kernel_rfl))))))
theorem xm25_1 (s : Sys) (k wl : Nat) (m0 : Nat) (ac : List Nat × List Nat) (t0 t1 t2 t3 t4 t5 t6 t7 t8 t9 t10 t11 t12 t13 t14 t15 t16 t17 t18 t19 t20 t21 t22 t23 t24 t25 t26 t27 t28 t29 t30 t31 t32 t33 t34 t35 t36 : V) (h : Hp) : opsP (xX s 25 wl k false) xg25_0 12 m0 ac (runK (xX s 25 wl k false) (bodyK s.P Try.f25) xk25_0) ⟨[t0, t1, t2, t3, t4, t5, t6, t7, t8, t9, t10, t11, t12, t13, t14, t15, t16, t17, t18, t19, t20, t21, t22, t23, t24, t25, t26, t27, t28, t29, t30, t31, t32, t33, t34, t35, t36], h⟩ =
  bm (vPick t20 (V.lit (Value.bool true)) t22) h fun v21 h22 =>
  gd v21 (
  opsP (xX s 25 wl k false) xg25_0 18 m0 ac (runK (xX s 25 wl k false) (bodyK s.P Try.f25) xk25_0) ⟨[t0, t1, t2, t3, t4, t5, t6, t7, t8, t9, t10, t11, t12, t13, t14, t15, t16, t17, t18, t19, t20, t21, t22, v21, (V.lit (Value.bool true)), uu, uu, uu, uu, t29, t30, t31, t32, t33, t34, t35, t36], h22⟩) (
  bm (vFieldAddr s.P 23 t3 0) h22 fun v23 h24 =>
  bm (vLoad s.P 3 v23 h24) h24 fun v25 h26 =>
  bm (vBin s.P .geq 3 t2 v25) h26 fun v27 h28 =>
  opsP (xX s 25 wl k false) xg25_0 18 m0 ac (runK (xX s 25 wl k false) (bodyK s.P Try.f25) xk25_0) ⟨[t0, t1, t2, t3, t4, t5, t6, t7, t8, t9, t10, t11, t12, t13, t14, t15, t16, t17, t18, t19, t20, t21, t22, v21, (V.lit (Value.bool false)), t2, v23, v25, v27, t29, t30, t31, t32, t33, t34, t35, t36], h28⟩) (
  opsP (xX s 25 wl k false) xg25_0 15 m0 ac (runK (xX s 25 wl k false) (bodyK s.P Try.f25) xk25_0) ⟨[t0, t1, t2, t3, t4, t5, t6, t7, t8, t9, t10, t11, t12, t13, t14, t15, t16, t17, t18, t19, t20, t21, t22, v21, v21, uu, t26, t27, t28, t29, t30, t31, t32, t33, t34, t35, t36], h22⟩) :=
  (go_op0 rfl rfl (st_bm (by kernel_rfl) fun v21 h22 =>
  (go_op0 rfl rfl (st_id (v := v21) (H := h22) (by kernel_rfl)
  (go_gdF0 rfl rfl rfl (by kernel_rfl)
  (go_skip0 rfl rfl rfl (by kernel_rfl)
  (go_skip0 rfl rfl rfl (by kernel_rfl)
  (go_skip0 rfl rfl rfl (by kernel_rfl)
  (by kernel_rfl))))
  (st_id (v := t2) (H := h22) (by kernel_rfl)
  (go_run0 rfl rfl rfl (by kernel_rfl) (st_bm (by kernel_rfl) fun v23 h24 =>
  (go_run0 rfl rfl rfl (by kernel_rfl) (st_bm (by kernel_rfl) fun v25 h26 =>
  (go_run0 rfl rfl rfl (by kernel_rfl) (st_bm (by kernel_rfl) fun v27 h28 =>
  (by kernel_rfl))))))))
  (by kernel_rfl))))))
theorem xm25_2 (s : Sys) (k wl : Nat) (m0 : Nat) (ac : List Nat × List Nat) (t0 t1 t2 t3 t4 t5 t6 t7 t8 t9 t10 t11 t12 t13 t14 t15 t16 t17 t18 t19 t20 t21 t22 t23 t24 t25 t26 t27 t28 t29 t30 t31 t32 t33 t34 t35 t36 : V) (h : Hp) : opsP (xX s 25 wl k false) xg25_0 18 m0 ac (runK (xX s 25 wl k false) (bodyK s.P Try.f25) xk25_0) ⟨[t0, t1, t2, t3, t4, t5, t6, t7, t8, t9, t10, t11, t12, t13, t14, t15, t16, t17, t18, t19, t20, t21, t22, t23, t24, t25, t26, t27, t28, t29, t30, t31, t32, t33, t34, t35, t36], h⟩ =
  bm (vPick t24 (V.lit (Value.bool true)) t28) h fun v29 h30 =>
  cnd v29 (
  some ((V.lit (Value.bool false)), h30)) (
  bm (vIndexAddr s.P 25 t1 (V.lit (Value.int .i64 2)) h30) h30 fun v31 h32 =>
  bm (vLoad s.P 26 v31 h32) h32 fun v33 h34 =>
  bp (callV (xX s 25 wl k false) false true (.fn (.func 67) [] []) [v33] h34) fun v35 h36 =>
  bp (callV (xX s 25 wl k false) false true (.fn (.func 66) [] []) [v35, t2] h36) fun v37 h38 =>
  some (v37, h38)) :=
  (go_op0 rfl rfl (st_bm (by kernel_rfl) fun v29 h30 =>
  (go_end0 (by kernel_rfl)
  (go_cond (by kernel_rfl)
  (go_seq (go_reg0
  (go_op0 rfl rfl (st_id (v := (V.lit (Value.bool false))) (H := h30) (by kernel_rfl)
  (go_end0 (by kernel_rfl)
  (go_ret (rt_seq_ret (by kernel_rfl))))))))
  (go_skip (go_seq (go_reg0
  (go_op0 rfl rfl (st_id (v := t1) (H := h30) (by kernel_rfl)
  (go_op0 rfl rfl (st_bm (by kernel_rfl) fun v31 h32 =>
  (go_op0 rfl rfl (st_bm (by kernel_rfl) fun v33 h34 =>
  (go_op0 rfl rfl (st_bp (by kernel_rfl) fun v35 h36 =>
  (go_op0 rfl rfl (st_id (v := t2) (H := h36) (by kernel_rfl)
  (go_op0 rfl rfl (st_bp (by kernel_rfl) fun v37 h38 =>
  (go_op0 rfl rfl (st_id (v := v37) (H := h38) (by kernel_rfl)
  (go_end0 (by kernel_rfl)
  (go_seq (go_reg0
  (go_op0 rfl rfl (st_id (v := v37) (H := h38) (by kernel_rfl)
  (go_op0 rfl rfl (st_id (v := v37) (H := h38) (by kernel_rfl)
  (go_end0 (by kernel_rfl)
  (go_ret (by kernel_rfl)))))))))))))))))))))))))))))))
theorem xk25_0_ret (cx : Cx) (K : Out → St → Option (V × Hp)) (s : St) : runK cx K xk25_0 .ret s = K .ret s := by kernel_rfl
-- names: xb25, xm25_0, xm25_1, xm25_2, xk25_0_ret
/-! 48 poacher/poacherref10.Frames: 0 a, 1 b, 2 a, 3 b, 5 i -/
noncomputable def xl48_0 : Code := codeAt (bodyOf Try.f48) [1, 1, 0, 1, 0, 0]
noncomputable def xk48_0 : List Fr := [.block 0, .seq (codeAt (bodyOf Try.f48) [1, 1, 1])]
noncomputable def xg48_0 : Code := codeAt (bodyOf Try.f48) [1, 1, 0, 1, 0, 0, 1, 0, 0, 0]
theorem xo48_6 : orderIx (opsOf xg48_0) = [0, 1, 2, 3, 4, 5, 6, 7, 8] := by kernel_rfl
theorem xo48_6a : (rgOf (opsOf xg48_0)).any = false := by kernel_rfl
theorem xo48_6r : regOk (opsOf xg48_0) = true := by kernel_rfl
theorem xb48 (s : Sys) (k wl : Nat) (t0 t1 : V) (h : Hp) : bodyV (xX s 48 wl k false) Try.f48 [t0, t1] h =
  bp (opLen s.P 53 t0 h) fun v1 h2 =>
  bp (opLen s.P 53 t1 h2) fun v3 h4 =>
  bm (vBin s.P .neq 3 v1 v3) h4 fun v5 h6 =>
  cnd v5 (
  some ((V.lit (Value.bool false)), h6)) (
  itX (xX s 48 wl k false) xl48_0 h6.length (runK (xX s 48 wl k false) (bodyK s.P Try.f48) xk48_0) k ⟨[(V.kill h6.length t0), (V.kill h6.length t1), (V.kill h6.length uu), (V.kill h6.length uu), (V.lit (Value.bool false)), (V.lit (Value.int .i64 0)), (V.kill h6.length t0), (V.kill h6.length v1), (V.kill h6.length t1), (V.kill h6.length v3), (V.kill h6.length v5), .junk, .junk, .junk, .junk, .junk, .junk, .junk, .junk, .junk, .junk, .junk, .junk, .junk, .junk, .junk], cutH h6.length h6⟩) :=
  bodyV_run rfl (go_seq (go_reg0
  (go_op0 rfl rfl (st_id (v := (V.lit (Value.bool false))) (H := h) (by kernel_rfl)
  (go_end0 (by kernel_rfl)
  (go_seq (go_seq (go_reg0
  (go_op0 rfl rfl (st_id (v := t0) (H := h) (by kernel_rfl)
  (go_op0 rfl rfl (st_bp (by kernel_rfl) fun v1 h2 =>
  (go_op0 rfl rfl (st_id (v := t1) (H := h2) (by kernel_rfl)
  (go_op0 rfl rfl (st_bp (by kernel_rfl) fun v3 h4 =>
  (go_op0 rfl rfl (st_bm (by kernel_rfl) fun v5 h6 =>
  (go_end0 (by kernel_rfl)
  (go_cond (by kernel_rfl)
  (go_seq (go_reg0
  (go_op0 rfl rfl (st_id (v := (V.lit (Value.bool false))) (H := h6) (by kernel_rfl)
  (go_end0 (by kernel_rfl)
  (go_ret (rt_seq_ret (by kernel_rfl))))))))
  (go_skip (go_seq (go_seq (go_reg0
  (go_op0 rfl rfl (st_id (v := (V.lit (Value.int .i64 0))) (H := h6) (by kernel_rfl)
  (go_end0 (by kernel_rfl)
  (go_block (by kernel_rfl)))))))))))))))))))))))))))))
theorem xe48 (k wl : Nat) (t0 t1 : V) (h : Hp) : evF Try.prog xM (k + 1) wl 48 [t0, t1] h = bodyV (xX (xS k) 48 wl k false) Try.f48 [t0, t1] h := by kernel_rfl
theorem xz48 (P : Program) (t0 t1 t2 t3 t4 t5 t6 t7 t8 t9 t10 t11 t12 t13 t14 t15 t16 t17 t18 t19 t20 t21 t22 t23 t24 t25 : V) (h : Hp) : bodyK P Try.f48 .ret ⟨[t0, t1, t2, t3, t4, t5, t6, t7, t8, t9, t10, t11, t12, t13, t14, t15, t16, t17, t18, t19, t20, t21, t22, t23, t24, t25], h⟩ = some (t4, h) := by kernel_rfl
theorem xr48_0 (s : Sys) (K : Out → St → Option (V × Hp)) (k wl : Nat) (rd : Bool) (n n0 : Nat) (t0 t1 t2 t3 t4 t5 t6 t7 t8 t9 t10 t11 t12 t13 t14 t15 t16 t17 t18 t19 t20 t21 t22 t23 t24 t25 : V) (h : Hp) : itX (xX s 48 wl k rd) xl48_0 n0 K (n + 1) ⟨[t0, t1, t2, t3, t4, t5, t6, t7, t8, t9, t10, t11, t12, t13, t14, t15, t16, t17, t18, t19, t20, t21, t22, t23, t24, t25], h⟩ =
  bp (opLen s.P 53 t0 h) fun v7 h8 =>
  bm (vBin s.P .lss 3 t5 v7) h8 fun v9 h10 =>
  cnd v9 (
  bm (vIndexAddr s.P 53 t0 t5 h10) h10 fun v11 h12 =>
  bm (vLoad s.P 28 v11 h12) h12 fun v13 h14 =>
  bm (vIndexAddr s.P 53 t1 t5 h14) h14 fun v15 h16 =>
  bm (vLoad s.P 28 v15 h16) h16 fun v17 h18 =>
  bm (vBin s.P .neq 28 v13 v17) h18 fun v19 h20 =>
  cnd v19 (
  K .ret ⟨[t0, t1, t2, t3, (V.lit (Value.bool false)), t5, t6, t7, t8, t9, t10, t5, t0, v7, v9, t15, t16, t0, t5, v11, v13, t1, t5, v15, v17, v19], h20⟩) (
  bm (vBin s.P .add 3 t5 (V.lit (Value.int .i64 1))) h20 fun v21 h22 =>
  itX (xX s 48 wl k rd) xl48_0 n0 K n ⟨[(V.kill n0 t0), (V.kill n0 t1), (V.kill n0 t2), (V.kill n0 t3), (V.kill n0 t4), (V.kill n0 v21), (V.kill n0 t6), (V.kill n0 t7), (V.kill n0 t8), (V.kill n0 t9), (V.kill n0 t10), .junk, .junk, .junk, .junk, .junk, .junk, .junk, .junk, .junk, .junk, .junk, .junk, .junk, .junk, .junk], cutH n0 h22⟩)) (
  K (.exit 0) ⟨[(V.kill n0 t0), (V.kill n0 t1), (V.kill n0 t2), (V.kill n0 t3), (V.kill n0 t4), (V.kill n0 t5), (V.kill n0 t6), (V.kill n0 t7), (V.kill n0 t8), (V.kill n0 t9), (V.kill n0 t10), .junk, .junk, .junk, .junk, .junk, .junk, .junk, .junk, .junk, .junk, .junk, .junk, .junk, .junk, .junk], cutH n0 h10⟩) :=
  itX_step (go_seq (go_seq (go_reg0
  (go_op0 rfl rfl (st_id (v := t5) (H := h) (by kernel_rfl)
  (go_op0 rfl rfl (st_id (v := t0) (H := h) (by kernel_rfl)
  (go_op0 rfl rfl (st_bp (by kernel_rfl) fun v7 h8 =>
  (go_op0 rfl rfl (st_bm (by kernel_rfl) fun v9 h10 =>
  (go_end0 (by kernel_rfl)
  (go_cond (by kernel_rfl)
  (go_skip (go_seq (go_block (go_seq (go_reg1 xo48_6r
  (go_op1 xo48_6 xo48_6a rfl rfl rfl (st_no (by kernel_rfl) (st_id (v := t0) (H := h10) (by kernel_rfl)
  (go_op1 xo48_6 xo48_6a rfl rfl rfl (st_no (by kernel_rfl) (st_id (v := t5) (H := h10) (by kernel_rfl)
  (go_op1 xo48_6 xo48_6a rfl rfl rfl (st_no (by kernel_rfl) (st_bm (by kernel_rfl) fun v11 h12 =>
  (go_op1 xo48_6 xo48_6a rfl rfl rfl (st_no (by kernel_rfl) (st_bm (by kernel_rfl) fun v13 h14 =>
  (go_op1 xo48_6 xo48_6a rfl rfl rfl (st_no (by kernel_rfl) (st_id (v := t1) (H := h14) (by kernel_rfl)
  (go_op1 xo48_6 xo48_6a rfl rfl rfl (st_no (by kernel_rfl) (st_id (v := t5) (H := h14) (by kernel_rfl)
  (go_op1 xo48_6 xo48_6a rfl rfl rfl (st_no (by kernel_rfl) (st_bm (by kernel_rfl) fun v15 h16 =>
  (go_op1 xo48_6 xo48_6a rfl rfl rfl (st_no (by kernel_rfl) (st_bm (by kernel_rfl) fun v17 h18 =>
  (go_op1 xo48_6 xo48_6a rfl rfl rfl (st_no (by kernel_rfl) (st_bm (by kernel_rfl) fun v19 h20 =>
  (go_end1 xo48_6 (by kernel_rfl) xo48_6a
  (go_cond (by kernel_rfl)
  (go_seq (go_reg0
  (go_op0 rfl rfl (st_id (v := (V.lit (Value.bool false))) (H := h20) (by kernel_rfl)
  (go_end0 (by kernel_rfl)
  (go_ret (rt_block_ret (rt_seq_ret (by kernel_rfl)))))))))
  (go_skip (rt_block_norm (go_reg0
  (go_op0 rfl rfl (st_id (v := t5) (H := h20) (by kernel_rfl)
  (go_op0 rfl rfl (st_bm (by kernel_rfl) fun v21 h22 =>
  (go_op0 rfl rfl (st_id (v := v21) (H := h22) (by kernel_rfl)
  (go_end0 (by kernel_rfl)
  (by kernel_rfl)))))))))))))))))))))))))))))))))))))))))))))
  (go_exit (rt_seq_exit (by kernel_rfl))))))))))))))))
theorem xj48_0 (s : Sys) (k wl : Nat) (t0 t1 t2 t3 t4 t5 t6 t7 t8 t9 t10 t11 t12 t13 t14 t15 t16 t17 t18 t19 t20 t21 t22 t23 t24 t25 : V) (h : Hp) : runK (xX s 48 wl k false) (bodyK s.P Try.f48) xk48_0 (.exit 0) ⟨[t0, t1, t2, t3, t4, t5, t6, t7, t8, t9, t10, t11, t12, t13, t14, t15, t16, t17, t18, t19, t20, t21, t22, t23, t24, t25], h⟩ =
  some ((V.lit (Value.bool true)), h) :=
  (rt_block_eq (go_seq (go_reg0
  (go_op0 rfl rfl (st_id (v := (V.lit (Value.bool true))) (H := h) (by kernel_rfl)
  (go_end0 (by kernel_rfl)
  (go_ret (by kernel_rfl))))))))
theorem xk48_0_ret (cx : Cx) (K : Out → St → Option (V × Hp)) (s : St) : runK cx K xk48_0 .ret s = K .ret s := by kernel_rfl
-- names: xb48, xz48, xr48_0, xj48_0, xk48_0_ret
/-! 56 poacher/poacherref07.Goes: 0 c, 1 m, 2 f, 3 op, 4 pcs, 5 c, 6 m, 7 f, 8 op, 9 pcs, 11 may, 12 over -/
noncomputable def xg56_0 : Code := codeAt (bodyOf Try.f56) [1, 1, 1, 0]
noncomputable def xk56_0 : List Fr := [.seq (codeAt (bodyOf Try.f56) [1, 1, 1, 1])]
theorem xb56 (s : Sys) (k wl : Nat) (t0 t1 t2 t3 t4 : V) (h : Hp) : bodyV (xX s 56 wl k false) Try.f56 [t0, t1, t2, t3, t4] h =
  bp (opBox t0 h) fun v1 h2 =>
  bp (opBox t2 h2) fun v3 h4 =>
  bm (vLoad s.P 23 v1 h4) h4 fun v5 h6 =>
  bp (callV (xX s 56 wl k false) false true (.fn (.func 64) [] []) [v5] h6) fun v7 h8 =>
  bm (vLoad s.P 28 v3 h8) h8 fun v9 h10 =>
  bp (callV (xX s 56 wl k false) false true (.fn (.func 89) [] []) [v9] h10) fun v11 h12 =>
  gd v7 (
  bp (opLen s.P 25 t1 h12) fun v13 h14 =>
  bm (vLoad s.P 23 v1 h14) h14 fun v15 h16 =>
  bp (callV (xX s 56 wl k false) false true (.fn (.func 65) [] []) [v15] h16) fun v17 h18 =>
  bm (vBin s.P .eql 3 v13 v17) h18 fun v19 h20 =>
  opsP (xX s 56 wl k false) xg56_0 7 h12.length ([], []) (runK (xX s 56 wl k false) (bodyK s.P Try.f56) xk56_0) ⟨[t0, t1, t2, t3, t4, v1, uu, v3, uu, uu, (V.lit (Value.bool false)), v7, v11, v5, v7, v9, v11, v7, (V.lit (Value.bool true)), t1, v13, v15, v17, v19, uu, uu, uu, uu, uu, uu, uu, uu, uu, uu, uu, uu, uu, uu, uu, uu, uu, uu, uu, uu, uu, uu, uu, uu, uu, uu, uu, uu, uu, uu, uu, uu, uu, uu], h20⟩) (
  opsP (xX s 56 wl k false) xg56_0 7 h12.length ([], []) (runK (xX s 56 wl k false) (bodyK s.P Try.f56) xk56_0) ⟨[t0, t1, t2, t3, t4, v1, uu, v3, uu, uu, (V.lit (Value.bool false)), v7, v11, v5, v7, v9, v11, v7, (V.lit (Value.bool false)), uu, uu, uu, uu, uu, uu, uu, uu, uu, uu, uu, uu, uu, uu, uu, uu, uu, uu, uu, uu, uu, uu, uu, uu, uu, uu, uu, uu, uu, uu, uu, uu, uu, uu, uu, uu, uu, uu, uu], h12⟩) (
  opsP (xX s 56 wl k false) xg56_0 3 h12.length ([], []) (runK (xX s 56 wl k false) (bodyK s.P Try.f56) xk56_0) ⟨[t0, t1, t2, t3, t4, v1, uu, v3, uu, uu, (V.lit (Value.bool false)), v7, v11, v5, v7, v9, v11, v7, v7, uu, uu, uu, uu, uu, uu, uu, uu, uu, uu, uu, uu, uu, uu, uu, uu, uu, uu, uu, uu, uu, uu, uu, uu, uu, uu, uu, uu, uu, uu, uu, uu, uu, uu, uu, uu, uu, uu, uu], h12⟩) :=
  bodyV_run rfl (go_seq (go_reg0
  (go_op0 rfl rfl (st_bp (by kernel_rfl) fun v1 h2 =>
  (go_op0 rfl rfl (st_bp (by kernel_rfl) fun v3 h4 =>
  (go_op0 rfl rfl (st_id (v := (V.lit (Value.bool false))) (H := h4) (by kernel_rfl)
  (go_end0 (by kernel_rfl)
  (go_seq (go_reg0
  (go_op0 rfl rfl (st_bm (by kernel_rfl) fun v5 h6 =>
  (go_op0 rfl rfl (st_bp (by kernel_rfl) fun v7 h8 =>
  (go_op0 rfl rfl (st_id (v := v7) (H := h8) (by kernel_rfl)
  (go_end0 (by kernel_rfl)
  (go_seq (go_reg0
  (go_op0 rfl rfl (st_bm (by kernel_rfl) fun v9 h10 =>
  (go_op0 rfl rfl (st_bp (by kernel_rfl) fun v11 h12 =>
  (go_op0 rfl rfl (st_id (v := v11) (H := h12) (by kernel_rfl)
  (go_end0 (by kernel_rfl)
  (go_seq (go_reg0
  (go_op0 rfl rfl (st_id (v := v7) (H := h12) (by kernel_rfl)
  (go_op0 rfl rfl (st_id (v := v7) (H := h12) (by kernel_rfl)
  (go_gdT0 rfl rfl rfl (by kernel_rfl)
  (st_id (v := t1) (H := h12) (by kernel_rfl)
  (go_run0 rfl rfl rfl (by kernel_rfl) (st_bp (by kernel_rfl) fun v13 h14 =>
  (go_run0 rfl rfl rfl (by kernel_rfl) (st_bm (by kernel_rfl) fun v15 h16 =>
  (go_run0 rfl rfl rfl (by kernel_rfl) (st_bp (by kernel_rfl) fun v17 h18 =>
  (go_run0 rfl rfl rfl (by kernel_rfl) (st_bm (by kernel_rfl) fun v19 h20 =>
  (by kernel_rfl))))))))))
  (go_skip0 rfl rfl rfl (by kernel_rfl)
  (go_skip0 rfl rfl rfl (by kernel_rfl)
  (go_skip0 rfl rfl rfl (by kernel_rfl)
  (go_skip0 rfl rfl rfl (by kernel_rfl)
  (by kernel_rfl)))))
  (by kernel_rfl)))))))))))))))))))))))))))))))))))
theorem xe56 (k wl : Nat) (t0 t1 t2 t3 t4 : V) (h : Hp) : evF Try.prog xM (k + 1) wl 56 [t0, t1, t2, t3, t4] h = bodyV (xX (xS k) 56 wl k false) Try.f56 [t0, t1, t2, t3, t4] h := by kernel_rfl
theorem xm56_0 (s : Sys) (k wl : Nat) (m0 : Nat) (ac : List Nat × List Nat) (t0 t1 t2 t3 t4 t5 t6 t7 t8 t9 t10 t11 t12 t13 t14 t15 t16 t17 t18 t19 t20 t21 t22 t23 t24 t25 t26 t27 t28 t29 t30 t31 t32 t33 t34 t35 t36 t37 t38 t39 t40 t41 t42 t43 t44 t45 t46 t47 t48 t49 t50 t51 t52 t53 t54 t55 t56 t57 : V) (h : Hp) : opsP (xX s 56 wl k false) xg56_0 7 m0 ac (runK (xX s 56 wl k false) (bodyK s.P Try.f56) xk56_0) ⟨[t0, t1, t2, t3, t4, t5, t6, t7, t8, t9, t10, t11, t12, t13, t14, t15, t16, t17, t18, t19, t20, t21, t22, t23, t24, t25, t26, t27, t28, t29, t30, t31, t32, t33, t34, t35, t36, t37, t38, t39, t40, t41, t42, t43, t44, t45, t46, t47, t48, t49, t50, t51, t52, t53, t54, t55, t56, t57], h⟩ =
  bm (vPick t18 t23 (V.lit (Value.bool false))) h fun v21 h22 =>
  gd v21 (
  bm (vUn .not t12) h22 fun v23 h24 =>
  opsP (xX s 56 wl k false) xg56_0 11 m0 ac (runK (xX s 56 wl k false) (bodyK s.P Try.f56) xk56_0) ⟨[t0, t1, t2, t3, t4, t5, t6, t7, t8, t9, t10, t11, t12, t13, t14, t15, t16, t17, t18, t19, t20, t21, t22, t23, v21, (V.lit (Value.bool true)), t12, v23, t28, t29, t30, t31, t32, t33, t34, t35, t36, t37, t38, t39, t40, t41, t42, t43, t44, t45, t46, t47, t48, t49, t50, t51, t52, t53, t54, t55, t56, t57], h24⟩) (
  opsP (xX s 56 wl k false) xg56_0 11 m0 ac (runK (xX s 56 wl k false) (bodyK s.P Try.f56) xk56_0) ⟨[t0, t1, t2, t3, t4, t5, t6, t7, t8, t9, t10, t11, t12, t13, t14, t15, t16, t17, t18, t19, t20, t21, t22, t23, v21, (V.lit (Value.bool false)), uu, uu, t28, t29, t30, t31, t32, t33, t34, t35, t36, t37, t38, t39, t40, t41, t42, t43, t44, t45, t46, t47, t48, t49, t50, t51, t52, t53, t54, t55, t56, t57], h22⟩) (
  opsP (xX s 56 wl k false) xg56_0 10 m0 ac (runK (xX s 56 wl k false) (bodyK s.P Try.f56) xk56_0) ⟨[t0, t1, t2, t3, t4, t5, t6, t7, t8, t9, t10, t11, t12, t13, t14, t15, t16, t17, t18, t19, t20, t21, t22, t23, v21, v21, uu, t27, t28, t29, t30, t31, t32, t33, t34, t35, t36, t37, t38, t39, t40, t41, t42, t43, t44, t45, t46, t47, t48, t49, t50, t51, t52, t53, t54, t55, t56, t57], h22⟩) :=
  (go_op0 rfl rfl (st_bm (by kernel_rfl) fun v21 h22 =>
  (go_op0 rfl rfl (st_id (v := v21) (H := h22) (by kernel_rfl)
  (go_gdT0 rfl rfl rfl (by kernel_rfl)
  (st_id (v := t12) (H := h22) (by kernel_rfl)
  (go_run0 rfl rfl rfl (by kernel_rfl) (st_bm (by kernel_rfl) fun v23 h24 =>
  (by kernel_rfl))))
  (go_skip0 rfl rfl rfl (by kernel_rfl)
  (by kernel_rfl))
  (by kernel_rfl))))))
theorem xm56_1 (s : Sys) (k wl : Nat) (m0 : Nat) (ac : List Nat × List Nat) (t0 t1 t2 t3 t4 t5 t6 t7 t8 t9 t10 t11 t12 t13 t14 t15 t16 t17 t18 t19 t20 t21 t22 t23 t24 t25 t26 t27 t28 t29 t30 t31 t32 t33 t34 t35 t36 t37 t38 t39 t40 t41 t42 t43 t44 t45 t46 t47 t48 t49 t50 t51 t52 t53 t54 t55 t56 t57 : V) (h : Hp) : opsP (xX s 56 wl k false) xg56_0 11 m0 ac (runK (xX s 56 wl k false) (bodyK s.P Try.f56) xk56_0) ⟨[t0, t1, t2, t3, t4, t5, t6, t7, t8, t9, t10, t11, t12, t13, t14, t15, t16, t17, t18, t19, t20, t21, t22, t23, t24, t25, t26, t27, t28, t29, t30, t31, t32, t33, t34, t35, t36, t37, t38, t39, t40, t41, t42, t43, t44, t45, t46, t47, t48, t49, t50, t51, t52, t53, t54, t55, t56, t57], h⟩ =
  bm (vPick t25 t27 (V.lit (Value.bool false))) h fun v25 h26 =>
  gd v25 (
  bm (vFieldAddr s.P 28 t7 2) h26 fun v27 h28 =>
  bm (vLoad s.P 3 v27 h28) h28 fun v29 h30 =>
  bm (vBin s.P .geq 3 v29 (V.lit (Value.int .i64 0))) h30 fun v31 h32 =>
  opsP (xX s 56 wl k false) xg56_0 16 m0 ac (runK (xX s 56 wl k false) (bodyK s.P Try.f56) xk56_0) ⟨[t0, t1, t2, t3, t4, t5, t6, t7, t8, t9, t10, t11, t12, t13, t14, t15, t16, t17, t18, t19, t20, t21, t22, t23, t24, t25, t26, t27, v25, (V.lit (Value.bool true)), v27, v29, v31, t33, t34, t35, t36, t37, t38, t39, t40, t41, t42, t43, t44, t45, t46, t47, t48, t49, t50, t51, t52, t53, t54, t55, t56, t57], h32⟩) (
  opsP (xX s 56 wl k false) xg56_0 16 m0 ac (runK (xX s 56 wl k false) (bodyK s.P Try.f56) xk56_0) ⟨[t0, t1, t2, t3, t4, t5, t6, t7, t8, t9, t10, t11, t12, t13, t14, t15, t16, t17, t18, t19, t20, t21, t22, t23, t24, t25, t26, t27, v25, (V.lit (Value.bool false)), uu, uu, uu, t33, t34, t35, t36, t37, t38, t39, t40, t41, t42, t43, t44, t45, t46, t47, t48, t49, t50, t51, t52, t53, t54, t55, t56, t57], h26⟩) (
  opsP (xX s 56 wl k false) xg56_0 14 m0 ac (runK (xX s 56 wl k false) (bodyK s.P Try.f56) xk56_0) ⟨[t0, t1, t2, t3, t4, t5, t6, t7, t8, t9, t10, t11, t12, t13, t14, t15, t16, t17, t18, t19, t20, t21, t22, t23, t24, t25, t26, t27, v25, v25, uu, t31, t32, t33, t34, t35, t36, t37, t38, t39, t40, t41, t42, t43, t44, t45, t46, t47, t48, t49, t50, t51, t52, t53, t54, t55, t56, t57], h26⟩) :=
  (go_op0 rfl rfl (st_bm (by kernel_rfl) fun v25 h26 =>
  (go_op0 rfl rfl (st_id (v := v25) (H := h26) (by kernel_rfl)
  (go_gdT0 rfl rfl rfl (by kernel_rfl)
  (st_bm (by kernel_rfl) fun v27 h28 =>
  (go_run0 rfl rfl rfl (by kernel_rfl) (st_bm (by kernel_rfl) fun v29 h30 =>
  (go_run0 rfl rfl rfl (by kernel_rfl) (st_bm (by kernel_rfl) fun v31 h32 =>
  (by kernel_rfl))))))
  (go_skip0 rfl rfl rfl (by kernel_rfl)
  (go_skip0 rfl rfl rfl (by kernel_rfl)
  (by kernel_rfl)))
  (by kernel_rfl))))))
theorem xm56_2 (s : Sys) (k wl : Nat) (m0 : Nat) (ac : List Nat × List Nat) (t0 t1 t2 t3 t4 t5 t6 t7 t8 t9 t10 t11 t12 t13 t14 t15 t16 t17 t18 t19 t20 t21 t22 t23 t24 t25 t26 t27 t28 t29 t30 t31 t32 t33 t34 t35 t36 t37 t38 t39 t40 t41 t42 t43 t44 t45 t46 t47 t48 t49 t50 t51 t52 t53 t54 t55 t56 t57 : V) (h : Hp) : opsP (xX s 56 wl k false) xg56_0 16 m0 ac (runK (xX s 56 wl k false) (bodyK s.P Try.f56) xk56_0) ⟨[t0, t1, t2, t3, t4, t5, t6, t7, t8, t9, t10, t11, t12, t13, t14, t15, t16, t17, t18, t19, t20, t21, t22, t23, t24, t25, t26, t27, t28, t29, t30, t31, t32, t33, t34, t35, t36, t37, t38, t39, t40, t41, t42, t43, t44, t45, t46, t47, t48, t49, t50, t51, t52, t53, t54, t55, t56, t57], h⟩ =
  bm (vPick t29 t32 (V.lit (Value.bool false))) h fun v33 h34 =>
  gd v33 (
  bm (vFieldAddr s.P 28 t7 2) h34 fun v35 h36 =>
  bm (vLoad s.P 3 v35 h36) h36 fun v37 h38 =>
  bm (vFieldAddr s.P 23 t5 0) h38 fun v39 h40 =>
  bm (vLoad s.P 3 v39 h40) h40 fun v41 h42 =>
  bm (vBin s.P .lss 3 v37 v41) h42 fun v43 h44 =>
  opsP (xX s 56 wl k false) xg56_0 23 m0 ac (runK (xX s 56 wl k false) (bodyK s.P Try.f56) xk56_0) ⟨[t0, t1, t2, t3, t4, t5, t6, t7, t8, t9, t10, t11, t12, t13, t14, t15, t16, t17, t18, t19, t20, t21, t22, t23, t24, t25, t26, t27, t28, t29, t30, t31, t32, v33, (V.lit (Value.bool true)), v35, v37, v39, v41, v43, t40, t41, t42, t43, t44, t45, t46, t47, t48, t49, t50, t51, t52, t53, t54, t55, t56, t57], h44⟩) (
  opsP (xX s 56 wl k false) xg56_0 23 m0 ac (runK (xX s 56 wl k false) (bodyK s.P Try.f56) xk56_0) ⟨[t0, t1, t2, t3, t4, t5, t6, t7, t8, t9, t10, t11, t12, t13, t14, t15, t16, t17, t18, t19, t20, t21, t22, t23, t24, t25, t26, t27, t28, t29, t30, t31, t32, v33, (V.lit (Value.bool false)), uu, uu, uu, uu, uu, t40, t41, t42, t43, t44, t45, t46, t47, t48, t49, t50, t51, t52, t53, t54, t55, t56, t57], h34⟩) (
  opsP (xX s 56 wl k false) xg56_0 19 m0 ac (runK (xX s 56 wl k false) (bodyK s.P Try.f56) xk56_0) ⟨[t0, t1, t2, t3, t4, t5, t6, t7, t8, t9, t10, t11, t12, t13, t14, t15, t16, t17, t18, t19, t20, t21, t22, t23, t24, t25, t26, t27, t28, t29, t30, t31, t32, v33, v33, uu, t36, t37, t38, t39, t40, t41, t42, t43, t44, t45, t46, t47, t48, t49, t50, t51, t52, t53, t54, t55, t56, t57], h34⟩) :=
  (go_op0 rfl rfl (st_bm (by kernel_rfl) fun v33 h34 =>
  (go_op0 rfl rfl (st_id (v := v33) (H := h34) (by kernel_rfl)
  (go_gdT0 rfl rfl rfl (by kernel_rfl)
  (st_bm (by kernel_rfl) fun v35 h36 =>
  (go_run0 rfl rfl rfl (by kernel_rfl) (st_bm (by kernel_rfl) fun v37 h38 =>
  (go_run0 rfl rfl rfl (by kernel_rfl) (st_bm (by kernel_rfl) fun v39 h40 =>
  (go_run0 rfl rfl rfl (by kernel_rfl) (st_bm (by kernel_rfl) fun v41 h42 =>
  (go_run0 rfl rfl rfl (by kernel_rfl) (st_bm (by kernel_rfl) fun v43 h44 =>
  (by kernel_rfl))))))))))
  (go_skip0 rfl rfl rfl (by kernel_rfl)
  (go_skip0 rfl rfl rfl (by kernel_rfl)
  (go_skip0 rfl rfl rfl (by kernel_rfl)
  (go_skip0 rfl rfl rfl (by kernel_rfl)
  (by kernel_rfl)))))
  (by kernel_rfl))))))
theorem xm56_3 (s : Sys) (k wl : Nat) (m0 : Nat) (ac : List Nat × List Nat) (t0 t1 t2 t3 t4 t5 t6 t7 t8 t9 t10 t11 t12 t13 t14 t15 t16 t17 t18 t19 t20 t21 t22 t23 t24 t25 t26 t27 t28 t29 t30 t31 t32 t33 t34 t35 t36 t37 t38 t39 t40 t41 t42 t43 t44 t45 t46 t47 t48 t49 t50 t51 t52 t53 t54 t55 t56 t57 : V) (h : Hp) : opsP (xX s 56 wl k false) xg56_0 23 m0 ac (runK (xX s 56 wl k false) (bodyK s.P Try.f56) xk56_0) ⟨[t0, t1, t2, t3, t4, t5, t6, t7, t8, t9, t10, t11, t12, t13, t14, t15, t16, t17, t18, t19, t20, t21, t22, t23, t24, t25, t26, t27, t28, t29, t30, t31, t32, t33, t34, t35, t36, t37, t38, t39, t40, t41, t42, t43, t44, t45, t46, t47, t48, t49, t50, t51, t52, t53, t54, t55, t56, t57], h⟩ =
  bm (vPick t34 t39 (V.lit (Value.bool false))) h fun v45 h46 =>
  gd v45 (
  bm (vFieldAddr s.P 28 t7 0) h46 fun v47 h48 =>
  bm (vLoad s.P 3 v47 h48) h48 fun v49 h50 =>
  bm (vBin s.P .eql 3 v49 t3) h50 fun v51 h52 =>
  opsP (xX s 56 wl k false) xg56_0 29 m0 ac (runK (xX s 56 wl k false) (bodyK s.P Try.f56) xk56_0) ⟨[t0, t1, t2, t3, t4, t5, t6, t7, t8, t9, t10, t11, t12, t13, t14, t15, t16, t17, t18, t19, t20, t21, t22, t23, t24, t25, t26, t27, t28, t29, t30, t31, t32, t33, t34, t35, t36, t37, t38, t39, v45, (V.lit (Value.bool true)), v47, v49, t3, v51, t46, t47, t48, t49, t50, t51, t52, t53, t54, t55, t56, t57], h52⟩) (
  opsP (xX s 56 wl k false) xg56_0 29 m0 ac (runK (xX s 56 wl k false) (bodyK s.P Try.f56) xk56_0) ⟨[t0, t1, t2, t3, t4, t5, t6, t7, t8, t9, t10, t11, t12, t13, t14, t15, t16, t17, t18, t19, t20, t21, t22, t23, t24, t25, t26, t27, t28, t29, t30, t31, t32, t33, t34, t35, t36, t37, t38, t39, v45, (V.lit (Value.bool false)), uu, uu, uu, uu, t46, t47, t48, t49, t50, t51, t52, t53, t54, t55, t56, t57], h46⟩) (
  opsP (xX s 56 wl k false) xg56_0 26 m0 ac (runK (xX s 56 wl k false) (bodyK s.P Try.f56) xk56_0) ⟨[t0, t1, t2, t3, t4, t5, t6, t7, t8, t9, t10, t11, t12, t13, t14, t15, t16, t17, t18, t19, t20, t21, t22, t23, t24, t25, t26, t27, t28, t29, t30, t31, t32, t33, t34, t35, t36, t37, t38, t39, v45, v45, uu, t43, t44, t45, t46, t47, t48, t49, t50, t51, t52, t53, t54, t55, t56, t57], h46⟩) :=
  (go_op0 rfl rfl (st_bm (by kernel_rfl) fun v45 h46 =>
  (go_op0 rfl rfl (st_id (v := v45) (H := h46) (by kernel_rfl)
  (go_gdT0 rfl rfl rfl (by kernel_rfl)
  (st_bm (by kernel_rfl) fun v47 h48 =>
  (go_run0 rfl rfl rfl (by kernel_rfl) (st_bm (by kernel_rfl) fun v49 h50 =>
  (go_run0 rfl rfl rfl (by kernel_rfl) (st_id (v := t3) (H := h50) (by kernel_rfl)
  (go_run0 rfl rfl rfl (by kernel_rfl) (st_bm (by kernel_rfl) fun v51 h52 =>
  (by kernel_rfl))))))))
  (go_skip0 rfl rfl rfl (by kernel_rfl)
  (go_skip0 rfl rfl rfl (by kernel_rfl)
  (go_skip0 rfl rfl rfl (by kernel_rfl)
  (by kernel_rfl))))
  (by kernel_rfl))))))
theorem xm56_4 (s : Sys) (k wl : Nat) (m0 : Nat) (ac : List Nat × List Nat) (t0 t1 t2 t3 t4 t5 t6 t7 t8 t9 t10 t11 t12 t13 t14 t15 t16 t17 t18 t19 t20 t21 t22 t23 t24 t25 t26 t27 t28 t29 t30 t31 t32 t33 t34 t35 t36 t37 t38 t39 t40 t41 t42 t43 t44 t45 t46 t47 t48 t49 t50 t51 t52 t53 t54 t55 t56 t57 : V) (h : Hp) : opsP (xX s 56 wl k false) xg56_0 29 m0 ac (runK (xX s 56 wl k false) (bodyK s.P Try.f56) xk56_0) ⟨[t0, t1, t2, t3, t4, t5, t6, t7, t8, t9, t10, t11, t12, t13, t14, t15, t16, t17, t18, t19, t20, t21, t22, t23, t24, t25, t26, t27, t28, t29, t30, t31, t32, t33, t34, t35, t36, t37, t38, t39, t40, t41, t42, t43, t44, t45, t46, t47, t48, t49, t50, t51, t52, t53, t54, t55, t56, t57], h⟩ =
  bm (vPick t41 t45 (V.lit (Value.bool false))) h fun v53 h54 =>
  gd v53 (
  bm (vFieldAddr s.P 28 t7 1) h54 fun v55 h56 =>
  bm (vLoad s.P 3 v55 h56) h56 fun v57 h58 =>
  bm (vBin s.P .geq 3 v57 (V.lit (Value.int .i64 0))) h58 fun v59 h60 =>
  opsP (xX s 56 wl k false) xg56_0 34 m0 ac (runK (xX s 56 wl k false) (bodyK s.P Try.f56) xk56_0) ⟨[t0, t1, t2, t3, t4, t5, t6, t7, t8, t9, t10, t11, t12, t13, t14, t15, t16, t17, t18, t19, t20, t21, t22, t23, t24, t25, t26, t27, t28, t29, t30, t31, t32, t33, t34, t35, t36, t37, t38, t39, t40, t41, t42, t43, t44, t45, v53, (V.lit (Value.bool true)), v55, v57, v59, t51, t52, t53, t54, t55, t56, t57], h60⟩) (
  opsP (xX s 56 wl k false) xg56_0 34 m0 ac (runK (xX s 56 wl k false) (bodyK s.P Try.f56) xk56_0) ⟨[t0, t1, t2, t3, t4, t5, t6, t7, t8, t9, t10, t11, t12, t13, t14, t15, t16, t17, t18, t19, t20, t21, t22, t23, t24, t25, t26, t27, t28, t29, t30, t31, t32, t33, t34, t35, t36, t37, t38, t39, t40, t41, t42, t43, t44, t45, v53, (V.lit (Value.bool false)), uu, uu, uu, t51, t52, t53, t54, t55, t56, t57], h54⟩) (
  opsP (xX s 56 wl k false) xg56_0 32 m0 ac (runK (xX s 56 wl k false) (bodyK s.P Try.f56) xk56_0) ⟨[t0, t1, t2, t3, t4, t5, t6, t7, t8, t9, t10, t11, t12, t13, t14, t15, t16, t17, t18, t19, t20, t21, t22, t23, t24, t25, t26, t27, t28, t29, t30, t31, t32, t33, t34, t35, t36, t37, t38, t39, t40, t41, t42, t43, t44, t45, v53, v53, uu, t49, t50, t51, t52, t53, t54, t55, t56, t57], h54⟩) :=
  (go_op0 rfl rfl (st_bm (by kernel_rfl) fun v53 h54 =>
  (go_op0 rfl rfl (st_id (v := v53) (H := h54) (by kernel_rfl)
  (go_gdT0 rfl rfl rfl (by kernel_rfl)
  (st_bm (by kernel_rfl) fun v55 h56 =>
  (go_run0 rfl rfl rfl (by kernel_rfl) (st_bm (by kernel_rfl) fun v57 h58 =>
  (go_run0 rfl rfl rfl (by kernel_rfl) (st_bm (by kernel_rfl) fun v59 h60 =>
  (by kernel_rfl))))))
  (go_skip0 rfl rfl rfl (by kernel_rfl)
  (go_skip0 rfl rfl rfl (by kernel_rfl)
  (by kernel_rfl)))
  (by kernel_rfl))))))
theorem xm56_5 (s : Sys) (k wl : Nat) (m0 : Nat) (ac : List Nat × List Nat) (t0 t1 t2 t3 t4 t5 t6 t7 t8 t9 t10 t11 t12 t13 t14 t15 t16 t17 t18 t19 t20 t21 t22 t23 t24 t25 t26 t27 t28 t29 t30 t31 t32 t33 t34 t35 t36 t37 t38 t39 t40 t41 t42 t43 t44 t45 t46 t47 t48 t49 t50 t51 t52 t53 t54 t55 t56 t57 : V) (h : Hp) : opsP (xX s 56 wl k false) xg56_0 34 m0 ac (runK (xX s 56 wl k false) (bodyK s.P Try.f56) xk56_0) ⟨[t0, t1, t2, t3, t4, t5, t6, t7, t8, t9, t10, t11, t12, t13, t14, t15, t16, t17, t18, t19, t20, t21, t22, t23, t24, t25, t26, t27, t28, t29, t30, t31, t32, t33, t34, t35, t36, t37, t38, t39, t40, t41, t42, t43, t44, t45, t46, t47, t48, t49, t50, t51, t52, t53, t54, t55, t56, t57], h⟩ =
  bm (vPick t47 t50 (V.lit (Value.bool false))) h fun v61 h62 =>
  gd v61 (
  bm (vFieldAddr s.P 28 t7 1) h62 fun v63 h64 =>
  bm (vLoad s.P 3 v63 h64) h64 fun v65 h66 =>
  bm (vBin s.P .lss 3 v65 t4) h66 fun v67 h68 =>
  opsP (xX s 56 wl k false) xg56_0 40 m0 ac (runK (xX s 56 wl k false) (bodyK s.P Try.f56) xk56_0) ⟨[t0, t1, t2, t3, t4, t5, t6, t7, t8, t9, t10, t11, t12, t13, t14, t15, t16, t17, t18, t19, t20, t21, t22, t23, t24, t25, t26, t27, t28, t29, t30, t31, t32, t33, t34, t35, t36, t37, t38, t39, t40, t41, t42, t43, t44, t45, t46, t47, t48, t49, t50, v61, (V.lit (Value.bool true)), v63, v65, t4, v67, t57], h68⟩) (
  opsP (xX s 56 wl k false) xg56_0 40 m0 ac (runK (xX s 56 wl k false) (bodyK s.P Try.f56) xk56_0) ⟨[t0, t1, t2, t3, t4, t5, t6, t7, t8, t9, t10, t11, t12, t13, t14, t15, t16, t17, t18, t19, t20, t21, t22, t23, t24, t25, t26, t27, t28, t29, t30, t31, t32, t33, t34, t35, t36, t37, t38, t39, t40, t41, t42, t43, t44, t45, t46, t47, t48, t49, t50, v61, (V.lit (Value.bool false)), uu, uu, uu, uu, t57], h62⟩) (
  opsP (xX s 56 wl k false) xg56_0 37 m0 ac (runK (xX s 56 wl k false) (bodyK s.P Try.f56) xk56_0) ⟨[t0, t1, t2, t3, t4, t5, t6, t7, t8, t9, t10, t11, t12, t13, t14, t15, t16, t17, t18, t19, t20, t21, t22, t23, t24, t25, t26, t27, t28, t29, t30, t31, t32, t33, t34, t35, t36, t37, t38, t39, t40, t41, t42, t43, t44, t45, t46, t47, t48, t49, t50, v61, v61, uu, t54, t55, t56, t57], h62⟩) :=
  (go_op0 rfl rfl (st_bm (by kernel_rfl) fun v61 h62 =>
  (go_op0 rfl rfl (st_id (v := v61) (H := h62) (by kernel_rfl)
  (go_gdT0 rfl rfl rfl (by kernel_rfl)
  (st_bm (by kernel_rfl) fun v63 h64 =>
  (go_run0 rfl rfl rfl (by kernel_rfl) (st_bm (by kernel_rfl) fun v65 h66 =>
  (go_run0 rfl rfl rfl (by kernel_rfl) (st_id (v := t4) (H := h66) (by kernel_rfl)
  (go_run0 rfl rfl rfl (by kernel_rfl) (st_bm (by kernel_rfl) fun v67 h68 =>
  (by kernel_rfl))))))))
  (go_skip0 rfl rfl rfl (by kernel_rfl)
  (go_skip0 rfl rfl rfl (by kernel_rfl)
  (go_skip0 rfl rfl rfl (by kernel_rfl)
  (by kernel_rfl))))
  (by kernel_rfl))))))
theorem xm56_6 (s : Sys) (k wl : Nat) (m0 : Nat) (ac : List Nat × List Nat) (t0 t1 t2 t3 t4 t5 t6 t7 t8 t9 t10 t11 t12 t13 t14 t15 t16 t17 t18 t19 t20 t21 t22 t23 t24 t25 t26 t27 t28 t29 t30 t31 t32 t33 t34 t35 t36 t37 t38 t39 t40 t41 t42 t43 t44 t45 t46 t47 t48 t49 t50 t51 t52 t53 t54 t55 t56 t57 : V) (h : Hp) : opsP (xX s 56 wl k false) xg56_0 40 m0 ac (runK (xX s 56 wl k false) (bodyK s.P Try.f56) xk56_0) ⟨[t0, t1, t2, t3, t4, t5, t6, t7, t8, t9, t10, t11, t12, t13, t14, t15, t16, t17, t18, t19, t20, t21, t22, t23, t24, t25, t26, t27, t28, t29, t30, t31, t32, t33, t34, t35, t36, t37, t38, t39, t40, t41, t42, t43, t44, t45, t46, t47, t48, t49, t50, t51, t52, t53, t54, t55, t56, t57], h⟩ =
  bm (vPick t52 t56 (V.lit (Value.bool false))) h fun v69 h70 =>
  some (v69, h70) :=
  (go_op0 rfl rfl (st_bm (by kernel_rfl) fun v69 h70 =>
  (go_op0 rfl rfl (st_id (v := v69) (H := h70) (by kernel_rfl)
  (go_end0 (by kernel_rfl)
  (go_ret (by kernel_rfl)))))))
theorem xk56_0_ret (cx : Cx) (K : Out → St → Option (V × Hp)) (s : St) : runK cx K xk56_0 .ret s = K .ret s := by kernel_rfl
-- names: xb56, xm56_0, xm56_1, xm56_2, xm56_3, xm56_4, xm56_5, xm56_6, xk56_0_ret
/-! 57 poacher/poacherref01.Load: 0 m, 1 i, 2 m, 3 i -/
noncomputable def xg57_0 : Code := codeAt (bodyOf Try.f57) [1, 0, 0]
noncomputable def xk57_0 : List Fr := [.seq (codeAt (bodyOf Try.f57) [1, 0, 1]), .seq (codeAt (bodyOf Try.f57) [1, 1])]
theorem xb57 (s : Sys) (k wl : Nat) (t0 t1 : V) (h : Hp) : bodyV (xX s 57 wl k false) Try.f57 [t0, t1] h =
  bm (vBin s.P .lss 3 t1 (V.lit (Value.int .i64 0))) h fun v1 h2 =>
  gd v1 (
  opsP (xX s 57 wl k false) xg57_0 7 h.length ([], []) (runK (xX s 57 wl k false) (bodyK s.P Try.f57) xk57_0) ⟨[t0, t1, uu, uu, (V.lit (Value.int .u64 0)), t1, v1, (V.lit (Value.bool true)), uu, uu, uu, uu, uu, uu, uu, uu, uu], h2⟩) (
  bp (opLen s.P 25 t0 h2) fun v3 h4 =>
  bm (vBin s.P .geq 3 t1 v3) h4 fun v5 h6 =>
  opsP (xX s 57 wl k false) xg57_0 7 h.length ([], []) (runK (xX s 57 wl k false) (bodyK s.P Try.f57) xk57_0) ⟨[t0, t1, uu, uu, (V.lit (Value.int .u64 0)), t1, v1, (V.lit (Value.bool false)), t1, t0, v3, v5, uu, uu, uu, uu, uu], h6⟩) (
  opsP (xX s 57 wl k false) xg57_0 4 h.length ([], []) (runK (xX s 57 wl k false) (bodyK s.P Try.f57) xk57_0) ⟨[t0, t1, uu, uu, (V.lit (Value.int .u64 0)), t1, v1, v1, uu, uu, uu, uu, uu, uu, uu, uu, uu], h2⟩) :=
  bodyV_run rfl (go_seq (go_reg0
  (go_op0 rfl rfl (st_id (v := (V.lit (Value.int .u64 0))) (H := h) (by kernel_rfl)
  (go_end0 (by kernel_rfl)
  (go_seq (go_seq (go_reg0
  (go_op0 rfl rfl (st_id (v := t1) (H := h) (by kernel_rfl)
  (go_op0 rfl rfl (st_bm (by kernel_rfl) fun v1 h2 =>
  (go_op0 rfl rfl (st_id (v := v1) (H := h2) (by kernel_rfl)
  (go_gdF0 rfl rfl rfl (by kernel_rfl)
  (go_skip0 rfl rfl rfl (by kernel_rfl)
  (go_skip0 rfl rfl rfl (by kernel_rfl)
  (go_skip0 rfl rfl rfl (by kernel_rfl)
  (by kernel_rfl))))
  (st_id (v := t1) (H := h2) (by kernel_rfl)
  (go_run0 rfl rfl rfl (by kernel_rfl) (st_id (v := t0) (H := h2) (by kernel_rfl)
  (go_run0 rfl rfl rfl (by kernel_rfl) (st_bp (by kernel_rfl) fun v3 h4 =>
  (go_run0 rfl rfl rfl (by kernel_rfl) (st_bm (by kernel_rfl) fun v5 h6 =>
  (by kernel_rfl))))))))
  (by kernel_rfl))))))))))))))))
theorem xe57 (k wl : Nat) (t0 t1 : V) (h : Hp) : evF Try.prog xM (k + 1) wl 57 [t0, t1] h = bodyV (xX (xS k) 57 wl k false) Try.f57 [t0, t1] h := by kernel_rfl
theorem xm57_0 (s : Sys) (k wl : Nat) (m0 : Nat) (ac : List Nat × List Nat) (t0 t1 t2 t3 t4 t5 t6 t7 t8 t9 t10 t11 t12 t13 t14 t15 t16 : V) (h : Hp) : opsP (xX s 57 wl k false) xg57_0 7 m0 ac (runK (xX s 57 wl k false) (bodyK s.P Try.f57) xk57_0) ⟨[t0, t1, t2, t3, t4, t5, t6, t7, t8, t9, t10, t11, t12, t13, t14, t15, t16], h⟩ =
  bm (vPick t7 (V.lit (Value.bool true)) t11) h fun v7 h8 =>
  cnd v7 (
  some ((V.lit (Value.int .u64 0)), h8)) (
  bm (vIndexAddr s.P 25 t0 t1 h8) h8 fun v9 h10 =>
  bm (vLoad s.P 26 v9 h10) h10 fun v11 h12 =>
  some (v11, h12)) :=
  (go_op0 rfl rfl (st_bm (by kernel_rfl) fun v7 h8 =>
  (go_end0 (by kernel_rfl)
  (go_cond (by kernel_rfl)
  (go_seq (go_reg0
  (go_op0 rfl rfl (st_id (v := (V.lit (Value.int .u64 0))) (H := h8) (by kernel_rfl)
  (go_end0 (by kernel_rfl)
  (go_ret (rt_seq_ret (by kernel_rfl))))))))
  (go_skip (go_seq (go_reg0
  (go_op0 rfl rfl (st_id (v := t0) (H := h8) (by kernel_rfl)
  (go_op0 rfl rfl (st_id (v := t1) (H := h8) (by kernel_rfl)
  (go_op0 rfl rfl (st_bm (by kernel_rfl) fun v9 h10 =>
  (go_op0 rfl rfl (st_bm (by kernel_rfl) fun v11 h12 =>
  (go_op0 rfl rfl (st_id (v := v11) (H := h12) (by kernel_rfl)
  (go_end0 (by kernel_rfl)
  (go_ret (by kernel_rfl))))))))))))))))))))
theorem xk57_0_ret (cx : Cx) (K : Out → St → Option (V × Hp)) (s : St) : runK cx K xk57_0 .ret s = K .ret s := by kernel_rfl
-- names: xb57, xm57_0, xk57_0_ret
/-! 58 poacher/poacherref02.Epoch: 0 e, 1 e -/

theorem xb58 (s : Sys) (k wl : Nat) (t0 : V) (h : Hp) : bodyV (xX s 58 wl k false) Try.f58 [t0] h =
  bm (vBin s.P .quo 26 t0 (V.lit (Value.int .u64 65536))) h fun v1 h2 =>
  some (v1, h2) :=
  bodyV_run rfl (go_seq (go_reg0
  (go_op0 rfl rfl (st_id (v := (V.lit (Value.int .u64 0))) (H := h) (by kernel_rfl)
  (go_end0 (by kernel_rfl)
  (go_seq (go_reg0
  (go_op0 rfl rfl (st_id (v := t0) (H := h) (by kernel_rfl)
  (go_op0 rfl rfl (st_bm (by kernel_rfl) fun v1 h2 =>
  (go_op0 rfl rfl (st_id (v := v1) (H := h2) (by kernel_rfl)
  (go_end0 (by kernel_rfl)
  (go_ret (by kernel_rfl))))))))))))))))
theorem xe58 (k wl : Nat) (t0 : V) (h : Hp) : evF Try.prog xM (k + 1) wl 58 [t0] h = bodyV (xX (xS k) 58 wl k false) Try.f58 [t0] h := by kernel_rfl
-- names: xb58, 
/-! 59 poacher/poacherref06.End: 0 f, 1 res, 2 val, 3 f, 4 res, 5 val -/

theorem xb59 (s : Sys) (k wl : Nat) (t0 t1 t2 : V) (h : Hp) : bodyV (xX s 59 wl k false) Try.f59 [t0, t1, t2] h =
  bp (opBox t0 h) fun v1 h2 =>
  bp (opAlloc s.P 28 h2) fun v3 h4 =>
  bm (vFieldAddr s.P 28 v1 6) h4 fun v5 h6 =>
  bs (vStore s.P wl 3 v5 t1 h6) fun h7 =>
  bm (vFieldAddr s.P 28 v1 3) h7 fun v8 h9 =>
  bs (vStore s.P wl 26 v8 t2 h9) fun h10 =>
  bm (vFieldAddr s.P 28 v1 1) h10 fun v11 h12 =>
  bs (vStore s.P wl 3 v11 (V.lit (Value.int .i64 0)) h12) fun h13 =>
  bm (vFieldAddr s.P 28 v1 4) h13 fun v14 h15 =>
  bs (vStore s.P wl 26 v14 (V.lit (Value.int .u64 0)) h15) fun h16 =>
  bm (vFieldAddr s.P 28 v1 5) h16 fun v17 h18 =>
  bs (vStore s.P wl 26 v17 (V.lit (Value.int .u64 0)) h18) fun h19 =>
  bm (vLoad s.P 28 v1 h19) h19 fun v20 h21 =>
  bs (vStore s.P wl 28 v3 v20 h21) fun h22 =>
  resO [vLoad s.P 28 v3 h22] h22 :=
  bodyV_run rfl (go_seq (go_reg0
  (go_op0 rfl rfl (st_bp (by kernel_rfl) fun v1 h2 =>
  (go_op0 rfl rfl (st_bp (by kernel_rfl) fun v3 h4 =>
  (go_end0 (by kernel_rfl)
  (go_seq (go_reg0
  (go_op0 rfl rfl (st_id (v := t1) (H := h4) (by kernel_rfl)
  (go_op0 rfl rfl (st_bm (by kernel_rfl) fun v5 h6 =>
  (go_op0 rfl rfl (st_bs (by kernel_rfl) fun h7 =>
  (go_end0 (by kernel_rfl)
  (go_seq (go_reg0
  (go_op0 rfl rfl (st_id (v := t2) (H := h7) (by kernel_rfl)
  (go_op0 rfl rfl (st_bm (by kernel_rfl) fun v8 h9 =>
  (go_op0 rfl rfl (st_bs (by kernel_rfl) fun h10 =>
  (go_end0 (by kernel_rfl)
  (go_seq (go_reg0
  (go_op0 rfl rfl (st_bm (by kernel_rfl) fun v11 h12 =>
  (go_op0 rfl rfl (st_bs (by kernel_rfl) fun h13 =>
  (go_end0 (by kernel_rfl)
  (go_seq (go_reg0
  (go_op0 rfl rfl (st_bm (by kernel_rfl) fun v14 h15 =>
  (go_op0 rfl rfl (st_bs (by kernel_rfl) fun h16 =>
  (go_end0 (by kernel_rfl)
  (go_seq (go_reg0
  (go_op0 rfl rfl (st_bm (by kernel_rfl) fun v17 h18 =>
  (go_op0 rfl rfl (st_bs (by kernel_rfl) fun h19 =>
  (go_end0 (by kernel_rfl)
  (go_seq (go_reg0
  (go_op0 rfl rfl (st_bm (by kernel_rfl) fun v20 h21 =>
  (go_op0 rfl rfl (st_bs (by kernel_rfl) fun h22 =>
  (go_end0 (by kernel_rfl)
  (go_ret (by kernel_rfl)))))))))))))))))))))))))))))))))))))))))))))))))))))))
theorem xe59 (k wl : Nat) (t0 t1 t2 : V) (h : Hp) : evF Try.prog xM (k + 1) wl 59 [t0, t1, t2] h = bodyV (xX (xS k) 59 wl k false) Try.f59 [t0, t1, t2] h := by kernel_rfl
-- names: xb59, 
/-! 60 poacher/poacherref01.Cas: 0 m, 1 i, 2 old, 3 fresh, 4 m, 5 i, 6 old, 7 fresh -/
noncomputable def xg60_0 : Code := codeAt (bodyOf Try.f60) [1, 0, 0]
noncomputable def xk60_0 : List Fr := [.seq (codeAt (bodyOf Try.f60) [1, 0, 1]), .seq (codeAt (bodyOf Try.f60) [1, 1])]
theorem xb60 (s : Sys) (k wl : Nat) (t0 t1 t2 t3 : V) (h : Hp) : bodyV (xX s 60 wl k false) Try.f60 [t0, t1, t2, t3] h =
  bp (some (.own h.length 0 0, h ++ [.rows 0 [] 0 true])) fun v1 h2 =>
  bm (vBin s.P .lss 3 t1 (V.lit (Value.int .i64 0))) h2 fun v3 h4 =>
  gd v3 (
  opsP (xX s 60 wl k false) xg60_0 7 h2.length ([], []) (runK (xX s 60 wl k false) (bodyK s.P Try.f60) xk60_0) ⟨[t0, t1, t2, t3, uu, uu, uu, uu, v1, (V.lit (Value.bool false)), t1, v3, (V.lit (Value.bool true)), uu, uu, uu, uu, uu, uu, uu, uu, uu, uu, uu, uu, uu, uu, uu, uu, uu, uu, uu], h4⟩) (
  bp (opLen s.P 25 t0 h4) fun v5 h6 =>
  bm (vBin s.P .geq 3 t1 v5) h6 fun v7 h8 =>
  opsP (xX s 60 wl k false) xg60_0 7 h2.length ([], []) (runK (xX s 60 wl k false) (bodyK s.P Try.f60) xk60_0) ⟨[t0, t1, t2, t3, uu, uu, uu, uu, v1, (V.lit (Value.bool false)), t1, v3, (V.lit (Value.bool false)), t1, t0, v5, v7, uu, uu, uu, uu, uu, uu, uu, uu, uu, uu, uu, uu, uu, uu, uu], h8⟩) (
  opsP (xX s 60 wl k false) xg60_0 4 h2.length ([], []) (runK (xX s 60 wl k false) (bodyK s.P Try.f60) xk60_0) ⟨[t0, t1, t2, t3, uu, uu, uu, uu, v1, (V.lit (Value.bool false)), t1, v3, v3, uu, uu, uu, uu, uu, uu, uu, uu, uu, uu, uu, uu, uu, uu, uu, uu, uu, uu, uu], h4⟩) :=
  bodyV_run rfl (go_seq (go_reg0
  (go_op0 rfl rfl (st_bp (by kernel_rfl) fun v1 h2 =>
  (go_op0 rfl rfl (st_id (v := (V.lit (Value.bool false))) (H := h2) (by kernel_rfl)
  (go_end0 (by kernel_rfl)
  (go_seq (go_seq (go_reg0
  (go_op0 rfl rfl (st_id (v := t1) (H := h2) (by kernel_rfl)
  (go_op0 rfl rfl (st_bm (by kernel_rfl) fun v3 h4 =>
  (go_op0 rfl rfl (st_id (v := v3) (H := h4) (by kernel_rfl)
  (go_gdF0 rfl rfl rfl (by kernel_rfl)
  (go_skip0 rfl rfl rfl (by kernel_rfl)
  (go_skip0 rfl rfl rfl (by kernel_rfl)
  (go_skip0 rfl rfl rfl (by kernel_rfl)
  (by kernel_rfl))))
  (st_id (v := t1) (H := h4) (by kernel_rfl)
  (go_run0 rfl rfl rfl (by kernel_rfl) (st_id (v := t0) (H := h4) (by kernel_rfl)
  (go_run0 rfl rfl rfl (by kernel_rfl) (st_bp (by kernel_rfl) fun v5 h6 =>
  (go_run0 rfl rfl rfl (by kernel_rfl) (st_bm (by kernel_rfl) fun v7 h8 =>
  (by kernel_rfl))))))))
  (by kernel_rfl))))))))))))))))))
theorem xe60 (k wl : Nat) (t0 t1 t2 t3 : V) (h : Hp) : evF Try.prog xM (k + 1) wl 60 [t0, t1, t2, t3] h = bodyV (xX (xS k) 60 wl k false) Try.f60 [t0, t1, t2, t3] h := by kernel_rfl
theorem xm60_0 (s : Sys) (k wl : Nat) (m0 : Nat) (ac : List Nat × List Nat) (t0 t1 t2 t3 t4 t5 t6 t7 t8 t9 t10 t11 t12 t13 t14 t15 t16 t17 t18 t19 t20 t21 t22 t23 t24 t25 t26 t27 t28 t29 t30 t31 : V) (h : Hp) : opsP (xX s 60 wl k false) xg60_0 7 m0 ac (runK (xX s 60 wl k false) (bodyK s.P Try.f60) xk60_0) ⟨[t0, t1, t2, t3, t4, t5, t6, t7, t8, t9, t10, t11, t12, t13, t14, t15, t16, t17, t18, t19, t20, t21, t22, t23, t24, t25, t26, t27, t28, t29, t30, t31], h⟩ =
  bm (vPick t12 (V.lit (Value.bool true)) t16) h fun v9 h10 =>
  gd v9 (
  opsP (xX s 60 wl k false) xg60_0 15 m0 ac (runK (xX s 60 wl k false) (bodyK s.P Try.f60) xk60_0) ⟨[t0, t1, t2, t3, t4, t5, t6, t7, t8, t9, t10, t11, t12, t13, t14, t15, t16, v9, (V.lit (Value.bool true)), uu, uu, uu, uu, uu, uu, t25, t26, t27, t28, t29, t30, t31], h10⟩) (
  bm (vIndexAddr s.P 25 t0 t1 h10) h10 fun v11 h12 =>
  bm (vLoad s.P 26 v11 h12) h12 fun v13 h14 =>
  bm (vBin s.P .neq 26 v13 t2) h14 fun v15 h16 =>
  opsP (xX s 60 wl k false) xg60_0 15 m0 ac (runK (xX s 60 wl k false) (bodyK s.P Try.f60) xk60_0) ⟨[t0, t1, t2, t3, t4, t5, t6, t7, t8, t9, t10, t11, t12, t13, t14, t15, t16, v9, (V.lit (Value.bool false)), t0, t1, v11, v13, t2, v15, t25, t26, t27, t28, t29, t30, t31], h16⟩) (
  opsP (xX s 60 wl k false) xg60_0 10 m0 ac (runK (xX s 60 wl k false) (bodyK s.P Try.f60) xk60_0) ⟨[t0, t1, t2, t3, t4, t5, t6, t7, t8, t9, t10, t11, t12, t13, t14, t15, t16, v9, v9, uu, t20, t21, t22, t23, t24, t25, t26, t27, t28, t29, t30, t31], h10⟩) :=
  (go_op0 rfl rfl (st_bm (by kernel_rfl) fun v9 h10 =>
  (go_op0 rfl rfl (st_id (v := v9) (H := h10) (by kernel_rfl)
  (go_gdF0 rfl rfl rfl (by kernel_rfl)
  (go_skip0 rfl rfl rfl (by kernel_rfl)
  (go_skip0 rfl rfl rfl (by kernel_rfl)
  (go_skip0 rfl rfl rfl (by kernel_rfl)
  (go_skip0 rfl rfl rfl (by kernel_rfl)
  (go_skip0 rfl rfl rfl (by kernel_rfl)
  (by kernel_rfl))))))
  (st_id (v := t0) (H := h10) (by kernel_rfl)
  (go_run0 rfl rfl rfl (by kernel_rfl) (st_id (v := t1) (H := h10) (by kernel_rfl)
  (go_run0 rfl rfl rfl (by kernel_rfl) (st_bm (by kernel_rfl) fun v11 h12 =>
  (go_run0 rfl rfl rfl (by kernel_rfl) (st_bm (by kernel_rfl) fun v13 h14 =>
  (go_run0 rfl rfl rfl (by kernel_rfl) (st_id (v := t2) (H := h14) (by kernel_rfl)
  (go_run0 rfl rfl rfl (by kernel_rfl) (st_bm (by kernel_rfl) fun v15 h16 =>
  (by kernel_rfl))))))))))))
  (by kernel_rfl))))))
theorem xm60_1 (s : Sys) (k wl : Nat) (m0 : Nat) (ac : List Nat × List Nat) (t0 t1 t2 t3 t4 t5 t6 t7 t8 t9 t10 t11 t12 t13 t14 t15 t16 t17 t18 t19 t20 t21 t22 t23 t24 t25 t26 t27 t28 t29 t30 t31 : V) (h : Hp) : opsP (xX s 60 wl k false) xg60_0 15 m0 ac (runK (xX s 60 wl k false) (bodyK s.P Try.f60) xk60_0) ⟨[t0, t1, t2, t3, t4, t5, t6, t7, t8, t9, t10, t11, t12, t13, t14, t15, t16, t17, t18, t19, t20, t21, t22, t23, t24, t25, t26, t27, t28, t29, t30, t31], h⟩ =
  bm (vPick t18 (V.lit (Value.bool true)) t24) h fun v17 h18 =>
  cnd v17 (
  bp (callV (xX s 60 wl k false) false true (.fn (.func 63) [] []) [t0, (V.lit (Value.int .i64 (-1))), (V.lit (Value.int .u64 0))] h18) fun v19 h20 =>
  some (.tup [v19, (V.lit (Value.bool false))], h20)) (
  bp (callV (xX s 60 wl k false) false true (.fn (.func 63) [] []) [t0, t1, t3] h18) fun v21 h22 =>
  some (.tup [v21, (V.lit (Value.bool true))], h22)) :=
  (go_op0 rfl rfl (st_bm (by kernel_rfl) fun v17 h18 =>
  (go_end0 (by kernel_rfl)
  (go_cond (by kernel_rfl)
  (go_seq (go_reg0
  (go_op0 rfl rfl (st_id (v := t0) (H := h18) (by kernel_rfl)
  (go_op0 rfl rfl (st_bp (by kernel_rfl) fun v19 h20 =>
  (go_op0 rfl rfl (st_id (v := v19) (H := h20) (by kernel_rfl)
  (go_op0 rfl rfl (st_id (v := (V.lit (Value.bool false))) (H := h20) (by kernel_rfl)
  (go_end0 (by kernel_rfl)
  (go_ret (rt_seq_ret (by kernel_rfl))))))))))))))
  (go_skip (go_seq (go_reg0
  (go_op0 rfl rfl (st_id (v := t0) (H := h18) (by kernel_rfl)
  (go_op0 rfl rfl (st_id (v := t1) (H := h18) (by kernel_rfl)
  (go_op0 rfl rfl (st_id (v := t3) (H := h18) (by kernel_rfl)
  (go_op0 rfl rfl (st_bp (by kernel_rfl) fun v21 h22 =>
  (go_op0 rfl rfl (st_id (v := v21) (H := h22) (by kernel_rfl)
  (go_op0 rfl rfl (st_id (v := (V.lit (Value.bool true))) (H := h22) (by kernel_rfl)
  (go_end0 (by kernel_rfl)
  (go_ret (by kernel_rfl))))))))))))))))))))))
theorem xk60_0_ret (cx : Cx) (K : Out → St → Option (V × Hp)) (s : St) : runK cx K xk60_0 .ret s = K .ret s := by kernel_rfl
-- names: xb60, xm60_0, xm60_1, xk60_0_ret
/-! 61 poacher/poacherref02.Set: 0 e, 1 w, 2 e, 3 w, 5 has -/
noncomputable def xg61_0 : Code := codeAt (bodyOf Try.f61) [1, 0, 0]
noncomputable def xk61_0 : List Fr := [.seq (codeAt (bodyOf Try.f61) [1, 0, 1]), .seq (codeAt (bodyOf Try.f61) [1, 1])]
theorem xb61 (s : Sys) (k wl : Nat) (t0 t1 : V) (h : Hp) : bodyV (xX s 61 wl k false) Try.f61 [t0, t1] h =
  bm (vBin s.P .lss 3 t1 (V.lit (Value.int .i64 0))) h fun v1 h2 =>
  gd v1 (
  opsP (xX s 61 wl k false) xg61_0 5 h.length ([], []) (runK (xX s 61 wl k false) (bodyK s.P Try.f61) xk61_0) ⟨[t0, t1, uu, uu, (V.lit (Value.int .u64 0)), uu, t1, v1, (V.lit (Value.bool true)), uu, uu, uu, uu, uu, uu, uu, uu, uu, uu, uu, uu, uu], h2⟩) (
  bm (vBin s.P .gtr 3 t1 (V.lit (Value.int .i64 15))) h2 fun v3 h4 =>
  opsP (xX s 61 wl k false) xg61_0 5 h.length ([], []) (runK (xX s 61 wl k false) (bodyK s.P Try.f61) xk61_0) ⟨[t0, t1, uu, uu, (V.lit (Value.int .u64 0)), uu, t1, v1, (V.lit (Value.bool false)), t1, v3, uu, uu, uu, uu, uu, uu, uu, uu, uu, uu, uu], h4⟩) (
  opsP (xX s 61 wl k false) xg61_0 4 h.length ([], []) (runK (xX s 61 wl k false) (bodyK s.P Try.f61) xk61_0) ⟨[t0, t1, uu, uu, (V.lit (Value.int .u64 0)), uu, t1, v1, v1, uu, uu, uu, uu, uu, uu, uu, uu, uu, uu, uu, uu, uu], h2⟩) :=
  bodyV_run rfl (go_seq (go_reg0
  (go_op0 rfl rfl (st_id (v := (V.lit (Value.int .u64 0))) (H := h) (by kernel_rfl)
  (go_end0 (by kernel_rfl)
  (go_seq (go_seq (go_reg0
  (go_op0 rfl rfl (st_id (v := t1) (H := h) (by kernel_rfl)
  (go_op0 rfl rfl (st_bm (by kernel_rfl) fun v1 h2 =>
  (go_op0 rfl rfl (st_id (v := v1) (H := h2) (by kernel_rfl)
  (go_gdF0 rfl rfl rfl (by kernel_rfl)
  (go_skip0 rfl rfl rfl (by kernel_rfl)
  (by kernel_rfl))
  (st_id (v := t1) (H := h2) (by kernel_rfl)
  (go_run0 rfl rfl rfl (by kernel_rfl) (st_bm (by kernel_rfl) fun v3 h4 =>
  (by kernel_rfl))))
  (by kernel_rfl))))))))))))))))
theorem xe61 (k wl : Nat) (t0 t1 : V) (h : Hp) : evF Try.prog xM (k + 1) wl 61 [t0, t1] h = bodyV (xX (xS k) 61 wl k false) Try.f61 [t0, t1] h := by kernel_rfl
theorem xm61_0 (s : Sys) (k wl : Nat) (m0 : Nat) (ac : List Nat × List Nat) (t0 t1 t2 t3 t4 t5 t6 t7 t8 t9 t10 t11 t12 t13 t14 t15 t16 t17 t18 t19 t20 t21 : V) (h : Hp) : opsP (xX s 61 wl k false) xg61_0 5 m0 ac (runK (xX s 61 wl k false) (bodyK s.P Try.f61) xk61_0) ⟨[t0, t1, t2, t3, t4, t5, t6, t7, t8, t9, t10, t11, t12, t13, t14, t15, t16, t17, t18, t19, t20, t21], h⟩ =
  bm (vPick t8 (V.lit (Value.bool true)) t10) h fun v5 h6 =>
  cnd v5 (
  some (t0, h6)) (
  bp (callV (xX s 61 wl k false) false true (.fn (.func 66) [] []) [t0, t1] h6) fun v7 h8 =>
  cnd v7 (
  some (t0, h8)) (
  bp (callV (xX s 61 wl k false) false true (.fn (.func 90) [] []) [t1] h8) fun v9 h10 =>
  bm (vBin s.P .add 26 t0 v9) h10 fun v11 h12 =>
  some (v11, h12))) :=
  (go_op0 rfl rfl (st_bm (by kernel_rfl) fun v5 h6 =>
  (go_end0 (by kernel_rfl)
  (go_cond (by kernel_rfl)
  (go_seq (go_reg0
  (go_op0 rfl rfl (st_id (v := t0) (H := h6) (by kernel_rfl)
  (go_op0 rfl rfl (st_id (v := t0) (H := h6) (by kernel_rfl)
  (go_end0 (by kernel_rfl)
  (go_ret (rt_seq_ret (by kernel_rfl))))))))))
  (go_skip (go_seq (go_reg0
  (go_op0 rfl rfl (st_id (v := t0) (H := h6) (by kernel_rfl)
  (go_op0 rfl rfl (st_id (v := t1) (H := h6) (by kernel_rfl)
  (go_op0 rfl rfl (st_bp (by kernel_rfl) fun v7 h8 =>
  (go_op0 rfl rfl (st_id (v := v7) (H := h8) (by kernel_rfl)
  (go_end0 (by kernel_rfl)
  (go_seq (go_seq (go_reg0
  (go_op0 rfl rfl (st_id (v := v7) (H := h8) (by kernel_rfl)
  (go_end0 (by kernel_rfl)
  (go_cond (by kernel_rfl)
  (go_seq (go_reg0
  (go_op0 rfl rfl (st_id (v := t0) (H := h8) (by kernel_rfl)
  (go_op0 rfl rfl (st_id (v := t0) (H := h8) (by kernel_rfl)
  (go_end0 (by kernel_rfl)
  (go_ret (rt_seq_ret (by kernel_rfl))))))))))
  (go_skip (go_seq (go_reg0
  (go_op0 rfl rfl (st_id (v := t0) (H := h8) (by kernel_rfl)
  (go_op0 rfl rfl (st_id (v := t1) (H := h8) (by kernel_rfl)
  (go_op0 rfl rfl (st_bp (by kernel_rfl) fun v9 h10 =>
  (go_op0 rfl rfl (st_bm (by kernel_rfl) fun v11 h12 =>
  (go_op0 rfl rfl (st_id (v := v11) (H := h12) (by kernel_rfl)
  (go_end0 (by kernel_rfl)
  (go_ret (by kernel_rfl)))))))))))))))))))))))))))))))))))))))
theorem xk61_0_ret (cx : Cx) (K : Out → St → Option (V × Hp)) (s : St) : runK cx K xk61_0 .ret s = K .ret s := by kernel_rfl
-- names: xb61, xm61_0, xk61_0_ret
/-! 62 poacher/poacherref03.Park: 0 c, 1 w, 2 c, 3 w, 5 n -/

theorem xb62 (s : Sys) (k wl : Nat) (t0 t1 : V) (h : Hp) : bodyV (xX s 62 wl k false) Try.f62 [t0, t1] h =
  bp (opBox t0 h) fun v1 h2 =>
  bm (vLoad s.P 23 v1 h2) h2 fun v3 h4 =>
  bp (callV (xX s 62 wl k false) false true (.fn (.func 91) [] []) [v3, t1] h4) fun v5 h6 =>
  bm (vBin s.P .lss 3 v5 (V.lit (Value.int .i64 0))) h6 fun v7 h8 =>
  cnd v7 (
  some ((V.lit (Value.int .i64 (-1))), h8)) (
  bm (vBin s.P .add 3 v5 (V.lit (Value.int .i64 2))) h8 fun v9 h10 =>
  some (v9, h10)) :=
  bodyV_run rfl (go_seq (go_reg0
  (go_op0 rfl rfl (st_bp (by kernel_rfl) fun v1 h2 =>
  (go_op0 rfl rfl (st_id (v := (V.lit (Value.int .i64 0))) (H := h2) (by kernel_rfl)
  (go_end0 (by kernel_rfl)
  (go_seq (go_reg0
  (go_op0 rfl rfl (st_bm (by kernel_rfl) fun v3 h4 =>
  (go_op0 rfl rfl (st_id (v := t1) (H := h4) (by kernel_rfl)
  (go_op0 rfl rfl (st_bp (by kernel_rfl) fun v5 h6 =>
  (go_op0 rfl rfl (st_id (v := v5) (H := h6) (by kernel_rfl)
  (go_end0 (by kernel_rfl)
  (go_seq (go_seq (go_reg0
  (go_op0 rfl rfl (st_id (v := v5) (H := h6) (by kernel_rfl)
  (go_op0 rfl rfl (st_bm (by kernel_rfl) fun v7 h8 =>
  (go_end0 (by kernel_rfl)
  (go_cond (by kernel_rfl)
  (go_seq (go_reg0
  (go_op0 rfl rfl (st_id (v := (V.lit (Value.int .i64 (-1)))) (H := h8) (by kernel_rfl)
  (go_end0 (by kernel_rfl)
  (go_ret (rt_seq_ret (by kernel_rfl))))))))
  (go_skip (go_seq (go_reg0
  (go_op0 rfl rfl (st_id (v := v5) (H := h8) (by kernel_rfl)
  (go_op0 rfl rfl (st_bm (by kernel_rfl) fun v9 h10 =>
  (go_op0 rfl rfl (st_id (v := v9) (H := h10) (by kernel_rfl)
  (go_end0 (by kernel_rfl)
  (go_ret (by kernel_rfl)))))))))))))))))))))))))))))))))))))))
theorem xe62 (k wl : Nat) (t0 t1 : V) (h : Hp) : evF Try.prog xM (k + 1) wl 62 [t0, t1] h = bodyV (xX (xS k) 62 wl k false) Try.f62 [t0, t1] h := by kernel_rfl
-- names: xb62, 
/-! 63 poacher/poacherref01.Store: 0 m, 1 i, 2 v, 3 m, 4 i, 5 v, 7 out -/
noncomputable def xg63_0 : Code := codeAt (bodyOf Try.f63) [1, 1, 0, 0]
noncomputable def xk63_0 : List Fr := [.seq (codeAt (bodyOf Try.f63) [1, 1, 0, 1]), .seq (codeAt (bodyOf Try.f63) [1, 1, 1])]
noncomputable def xk63_1 : List Fr := [.seq (codeAt (bodyOf Try.f63) [1, 1, 1])]
theorem xb63 (s : Sys) (k wl : Nat) (t0 t1 t2 : V) (h : Hp) : bodyV (xX s 63 wl k false) Try.f63 [t0, t1, t2] h =
  bp (some (.own h.length 0 0, h ++ [.rows 0 [] 0 true])) fun v1 h2 =>
  bp (opApp s.P wl 25 25 .nil t0 h2) fun v3 h4 =>
  bm (vBin s.P .geq 3 t1 (V.lit (Value.int .i64 0))) h4 fun v5 h6 =>
  gd v5 (
  bp (opLen s.P 25 t0 h6) fun v7 h8 =>
  bm (vBin s.P .lss 3 t1 v7) h8 fun v9 h10 =>
  opsP (xX s 63 wl k false) xg63_0 7 h4.length ([], []) (runK (xX s 63 wl k false) (bodyK s.P Try.f63) xk63_0) ⟨[t0, t1, t2, uu, uu, uu, v1, v3, t0, v3, t1, v5, (V.lit (Value.bool true)), t1, t0, v7, v9, uu, uu, uu, uu, uu, uu], h10⟩) (
  opsP (xX s 63 wl k false) xg63_0 7 h4.length ([], []) (runK (xX s 63 wl k false) (bodyK s.P Try.f63) xk63_0) ⟨[t0, t1, t2, uu, uu, uu, v1, v3, t0, v3, t1, v5, (V.lit (Value.bool false)), uu, uu, uu, uu, uu, uu, uu, uu, uu, uu], h6⟩) (
  opsP (xX s 63 wl k false) xg63_0 4 h4.length ([], []) (runK (xX s 63 wl k false) (bodyK s.P Try.f63) xk63_0) ⟨[t0, t1, t2, uu, uu, uu, v1, v3, t0, v3, t1, v5, v5, uu, uu, uu, uu, uu, uu, uu, uu, uu, uu], h6⟩) :=
  bodyV_run rfl (go_seq (go_reg0
  (go_op0 rfl rfl (st_bp (by kernel_rfl) fun v1 h2 =>
  (go_end0 (by kernel_rfl)
  (go_seq (go_reg0
  (go_op0 rfl rfl (st_id (v := t0) (H := h2) (by kernel_rfl)
  (go_op0 rfl rfl (st_bp (by kernel_rfl) fun v3 h4 =>
  (go_op0 rfl rfl (st_id (v := v3) (H := h4) (by kernel_rfl)
  (go_end0 (by kernel_rfl)
  (go_seq (go_seq (go_reg0
  (go_op0 rfl rfl (st_id (v := t1) (H := h4) (by kernel_rfl)
  (go_op0 rfl rfl (st_bm (by kernel_rfl) fun v5 h6 =>
  (go_op0 rfl rfl (st_id (v := v5) (H := h6) (by kernel_rfl)
  (go_gdT0 rfl rfl rfl (by kernel_rfl)
  (st_id (v := t1) (H := h6) (by kernel_rfl)
  (go_run0 rfl rfl rfl (by kernel_rfl) (st_id (v := t0) (H := h6) (by kernel_rfl)
  (go_run0 rfl rfl rfl (by kernel_rfl) (st_bp (by kernel_rfl) fun v7 h8 =>
  (go_run0 rfl rfl rfl (by kernel_rfl) (st_bm (by kernel_rfl) fun v9 h10 =>
  (by kernel_rfl))))))))
  (go_skip0 rfl rfl rfl (by kernel_rfl)
  (go_skip0 rfl rfl rfl (by kernel_rfl)
  (go_skip0 rfl rfl rfl (by kernel_rfl)
  (by kernel_rfl))))
  (by kernel_rfl)))))))))))))))))))))))))
theorem xe63 (k wl : Nat) (t0 t1 t2 : V) (h : Hp) : evF Try.prog xM (k + 1) wl 63 [t0, t1, t2] h = bodyV (xX (xS k) 63 wl k false) Try.f63 [t0, t1, t2] h := by kernel_rfl
theorem xm63_0 (s : Sys) (k wl : Nat) (m0 : Nat) (ac : List Nat × List Nat) (t0 t1 t2 t3 t4 t5 t6 t7 t8 t9 t10 t11 t12 t13 t14 t15 t16 t17 t18 t19 t20 t21 t22 : V) (h : Hp) : opsP (xX s 63 wl k false) xg63_0 7 m0 ac (runK (xX s 63 wl k false) (bodyK s.P Try.f63) xk63_0) ⟨[t0, t1, t2, t3, t4, t5, t6, t7, t8, t9, t10, t11, t12, t13, t14, t15, t16, t17, t18, t19, t20, t21, t22], h⟩ =
  bm (vPick t12 t16 (V.lit (Value.bool false))) h fun v11 h12 =>
  cnd v11 (
  bm (vIndexAddr s.P 25 t7 t1 h12) h12 fun v13 h14 =>
  bs (vStore s.P wl 26 v13 t2 h14) fun h15 =>
  runK (xX s 63 wl k false) (bodyK s.P Try.f63) xk63_1 .norm ⟨[t0, t1, t2, t3, t4, t5, t6, t7, t8, t9, t10, t11, t12, t13, t14, t15, t16, v11, t7, t1, t2, v13, t22], h15⟩) (
  runK (xX s 63 wl k false) (bodyK s.P Try.f63) xk63_1 .norm ⟨[t0, t1, t2, t3, t4, t5, t6, t7, t8, t9, t10, t11, t12, t13, t14, t15, t16, v11, t18, t19, t20, t21, t22], h12⟩) :=
  (go_op0 rfl rfl (st_bm (by kernel_rfl) fun v11 h12 =>
  (go_end0 (by kernel_rfl)
  (go_cond (by kernel_rfl)
  (go_reg0
  (go_op0 rfl rfl (st_id (v := t7) (H := h12) (by kernel_rfl)
  (go_op0 rfl rfl (st_id (v := t1) (H := h12) (by kernel_rfl)
  (go_op0 rfl rfl (st_id (v := t2) (H := h12) (by kernel_rfl)
  (go_op0 rfl rfl (st_bm (by kernel_rfl) fun v13 h14 =>
  (go_op0 rfl rfl (st_bs (by kernel_rfl) fun h15 =>
  (go_end0 (by kernel_rfl)
  (by kernel_rfl)))))))))))))
  (go_skip (by kernel_rfl))))))
theorem xj63_1 (s : Sys) (k wl : Nat) (t0 t1 t2 t3 t4 t5 t6 t7 t8 t9 t10 t11 t12 t13 t14 t15 t16 t17 t18 t19 t20 t21 t22 : V) (h : Hp) : runK (xX s 63 wl k false) (bodyK s.P Try.f63) xk63_1 .norm ⟨[t0, t1, t2, t3, t4, t5, t6, t7, t8, t9, t10, t11, t12, t13, t14, t15, t16, t17, t18, t19, t20, t21, t22], h⟩ =
  some (t7, h) :=
  (go_seq (go_reg0
  (go_op0 rfl rfl (st_id (v := t7) (H := h) (by kernel_rfl)
  (go_op0 rfl rfl (st_id (v := t7) (H := h) (by kernel_rfl)
  (go_end0 (by kernel_rfl)
  (go_ret (by kernel_rfl)))))))))
theorem xk63_0_ret (cx : Cx) (K : Out → St → Option (V × Hp)) (s : St) : runK cx K xk63_0 .ret s = K .ret s := by kernel_rfl
theorem xk63_1_ret (cx : Cx) (K : Out → St → Option (V × Hp)) (s : St) : runK cx K xk63_1 .ret s = K .ret s := by kernel_rfl
-- names: xb63, xm63_0, xj63_1, xk63_0_ret, xk63_1_ret
/-! 64 poacher/poacherref03.May: 0 c, 1 c, 3 two -/
noncomputable def xg64_0 : Code := codeAt (bodyOf Try.f64) [1, 0]
noncomputable def xk64_0 : List Fr := [.seq (codeAt (bodyOf Try.f64) [1, 1])]
noncomputable def xg64_1 : Code := codeAt (bodyOf Try.f64) [1, 1, 0]
noncomputable def xk64_1 : List Fr := [.seq (codeAt (bodyOf Try.f64) [1, 1, 1])]
theorem xb64 (s : Sys) (k wl : Nat) (t0 : V) (h : Hp) : bodyV (xX s 64 wl k false) Try.f64 [t0] h =
  bp (opBox t0 h) fun v1 h2 =>
  bm (vFieldAddr s.P 23 v1 1) h2 fun v3 h4 =>
  bm (vLoad s.P 3 v3 h4) h4 fun v5 h6 =>
  bm (vBin s.P .eql 3 v5 (V.lit (Value.int .i64 1))) h6 fun v7 h8 =>
  gd v7 (
  opsP (xX s 64 wl k false) xg64_0 7 h2.length ([], []) (runK (xX s 64 wl k false) (bodyK s.P Try.f64) xk64_0) ⟨[t0, v1, (V.lit (Value.bool false)), uu, v3, v5, v7, (V.lit (Value.bool true)), uu, uu, uu, uu, uu, uu, uu, uu, uu, uu, uu, uu, uu, uu, uu, uu, uu, uu, uu, uu, uu, uu, uu, uu, uu, uu, uu, uu, uu, uu, uu, uu, uu, uu, uu, uu, uu, uu, uu, uu, uu, uu, uu, uu, uu, uu, uu, uu, uu, uu], h8⟩) (
  bm (vFieldAddr s.P 23 v1 1) h8 fun v9 h10 =>
  bm (vLoad s.P 3 v9 h10) h10 fun v11 h12 =>
  bm (vBin s.P .eql 3 v11 (V.lit (Value.int .i64 2))) h12 fun v13 h14 =>
  opsP (xX s 64 wl k false) xg64_0 7 h2.length ([], []) (runK (xX s 64 wl k false) (bodyK s.P Try.f64) xk64_0) ⟨[t0, v1, (V.lit (Value.bool false)), uu, v3, v5, v7, (V.lit (Value.bool false)), v9, v11, v13, uu, uu, uu, uu, uu, uu, uu, uu, uu, uu, uu, uu, uu, uu, uu, uu, uu, uu, uu, uu, uu, uu, uu, uu, uu, uu, uu, uu, uu, uu, uu, uu, uu, uu, uu, uu, uu, uu, uu, uu, uu, uu, uu, uu, uu, uu, uu], h14⟩) (
  opsP (xX s 64 wl k false) xg64_0 5 h2.length ([], []) (runK (xX s 64 wl k false) (bodyK s.P Try.f64) xk64_0) ⟨[t0, v1, (V.lit (Value.bool false)), uu, v3, v5, v7, v7, uu, uu, uu, uu, uu, uu, uu, uu, uu, uu, uu, uu, uu, uu, uu, uu, uu, uu, uu, uu, uu, uu, uu, uu, uu, uu, uu, uu, uu, uu, uu, uu, uu, uu, uu, uu, uu, uu, uu, uu, uu, uu, uu, uu, uu, uu, uu, uu, uu, uu], h8⟩) :=
  bodyV_run rfl (go_seq (go_reg0
  (go_op0 rfl rfl (st_bp (by kernel_rfl) fun v1 h2 =>
  (go_op0 rfl rfl (st_id (v := (V.lit (Value.bool false))) (H := h2) (by kernel_rfl)
  (go_end0 (by kernel_rfl)
  (go_seq (go_reg0
  (go_op0 rfl rfl (st_bm (by kernel_rfl) fun v3 h4 =>
  (go_op0 rfl rfl (st_bm (by kernel_rfl) fun v5 h6 =>
  (go_op0 rfl rfl (st_bm (by kernel_rfl) fun v7 h8 =>
  (go_op0 rfl rfl (st_id (v := v7) (H := h8) (by kernel_rfl)
  (go_gdF0 rfl rfl rfl (by kernel_rfl)
  (go_skip0 rfl rfl rfl (by kernel_rfl)
  (go_skip0 rfl rfl rfl (by kernel_rfl)
  (by kernel_rfl)))
  (st_bm (by kernel_rfl) fun v9 h10 =>
  (go_run0 rfl rfl rfl (by kernel_rfl) (st_bm (by kernel_rfl) fun v11 h12 =>
  (go_run0 rfl rfl rfl (by kernel_rfl) (st_bm (by kernel_rfl) fun v13 h14 =>
  (by kernel_rfl))))))
  (by kernel_rfl)))))))))))))))))))
theorem xe64 (k wl : Nat) (t0 : V) (h : Hp) : evF Try.prog xM (k + 1) wl 64 [t0] h = bodyV (xX (xS k) 64 wl k false) Try.f64 [t0] h := by kernel_rfl
theorem xm64_0 (s : Sys) (k wl : Nat) (m0 : Nat) (ac : List Nat × List Nat) (t0 t1 t2 t3 t4 t5 t6 t7 t8 t9 t10 t11 t12 t13 t14 t15 t16 t17 t18 t19 t20 t21 t22 t23 t24 t25 t26 t27 t28 t29 t30 t31 t32 t33 t34 t35 t36 t37 t38 t39 t40 t41 t42 t43 t44 t45 t46 t47 t48 t49 t50 t51 t52 t53 t54 t55 t56 t57 : V) (h : Hp) : opsP (xX s 64 wl k false) xg64_0 7 m0 ac (runK (xX s 64 wl k false) (bodyK s.P Try.f64) xk64_0) ⟨[t0, t1, t2, t3, t4, t5, t6, t7, t8, t9, t10, t11, t12, t13, t14, t15, t16, t17, t18, t19, t20, t21, t22, t23, t24, t25, t26, t27, t28, t29, t30, t31, t32, t33, t34, t35, t36, t37, t38, t39, t40, t41, t42, t43, t44, t45, t46, t47, t48, t49, t50, t51, t52, t53, t54, t55, t56, t57], h⟩ =
  bm (vPick t7 (V.lit (Value.bool true)) t10) h fun v15 h16 =>
  gd v15 (
  opsP (xX s 64 wl k false) xg64_0 12 m0 ac (runK (xX s 64 wl k false) (bodyK s.P Try.f64) xk64_0) ⟨[t0, t1, t2, t3, t4, t5, t6, t7, t8, t9, t10, v15, (V.lit (Value.bool true)), uu, uu, uu, t16, t17, t18, t19, t20, t21, t22, t23, t24, t25, t26, t27, t28, t29, t30, t31, t32, t33, t34, t35, t36, t37, t38, t39, t40, t41, t42, t43, t44, t45, t46, t47, t48, t49, t50, t51, t52, t53, t54, t55, t56, t57], h16⟩) (
  bm (vFieldAddr s.P 23 t1 1) h16 fun v17 h18 =>
  bm (vLoad s.P 3 v17 h18) h18 fun v19 h20 =>
  bm (vBin s.P .eql 3 v19 (V.lit (Value.int .i64 4))) h20 fun v21 h22 =>
  opsP (xX s 64 wl k false) xg64_0 12 m0 ac (runK (xX s 64 wl k false) (bodyK s.P Try.f64) xk64_0) ⟨[t0, t1, t2, t3, t4, t5, t6, t7, t8, t9, t10, v15, (V.lit (Value.bool false)), v17, v19, v21, t16, t17, t18, t19, t20, t21, t22, t23, t24, t25, t26, t27, t28, t29, t30, t31, t32, t33, t34, t35, t36, t37, t38, t39, t40, t41, t42, t43, t44, t45, t46, t47, t48, t49, t50, t51, t52, t53, t54, t55, t56, t57], h22⟩) (
  opsP (xX s 64 wl k false) xg64_0 10 m0 ac (runK (xX s 64 wl k false) (bodyK s.P Try.f64) xk64_0) ⟨[t0, t1, t2, t3, t4, t5, t6, t7, t8, t9, t10, v15, v15, uu, t14, t15, t16, t17, t18, t19, t20, t21, t22, t23, t24, t25, t26, t27, t28, t29, t30, t31, t32, t33, t34, t35, t36, t37, t38, t39, t40, t41, t42, t43, t44, t45, t46, t47, t48, t49, t50, t51, t52, t53, t54, t55, t56, t57], h16⟩) :=
  (go_op0 rfl rfl (st_bm (by kernel_rfl) fun v15 h16 =>
  (go_op0 rfl rfl (st_id (v := v15) (H := h16) (by kernel_rfl)
  (go_gdF0 rfl rfl rfl (by kernel_rfl)
  (go_skip0 rfl rfl rfl (by kernel_rfl)
  (go_skip0 rfl rfl rfl (by kernel_rfl)
  (by kernel_rfl)))
  (st_bm (by kernel_rfl) fun v17 h18 =>
  (go_run0 rfl rfl rfl (by kernel_rfl) (st_bm (by kernel_rfl) fun v19 h20 =>
  (go_run0 rfl rfl rfl (by kernel_rfl) (st_bm (by kernel_rfl) fun v21 h22 =>
  (by kernel_rfl))))))
  (by kernel_rfl))))))
theorem xm64_1 (s : Sys) (k wl : Nat) (m0 : Nat) (ac : List Nat × List Nat) (t0 t1 t2 t3 t4 t5 t6 t7 t8 t9 t10 t11 t12 t13 t14 t15 t16 t17 t18 t19 t20 t21 t22 t23 t24 t25 t26 t27 t28 t29 t30 t31 t32 t33 t34 t35 t36 t37 t38 t39 t40 t41 t42 t43 t44 t45 t46 t47 t48 t49 t50 t51 t52 t53 t54 t55 t56 t57 : V) (h : Hp) : opsP (xX s 64 wl k false) xg64_0 12 m0 ac (runK (xX s 64 wl k false) (bodyK s.P Try.f64) xk64_0) ⟨[t0, t1, t2, t3, t4, t5, t6, t7, t8, t9, t10, t11, t12, t13, t14, t15, t16, t17, t18, t19, t20, t21, t22, t23, t24, t25, t26, t27, t28, t29, t30, t31, t32, t33, t34, t35, t36, t37, t38, t39, t40, t41, t42, t43, t44, t45, t46, t47, t48, t49, t50, t51, t52, t53, t54, t55, t56, t57], h⟩ =
  bm (vPick t12 (V.lit (Value.bool true)) t15) h fun v23 h24 =>
  gd v23 (
  opsP (xX s 64 wl k false) xg64_0 17 m0 ac (runK (xX s 64 wl k false) (bodyK s.P Try.f64) xk64_0) ⟨[t0, t1, t2, t3, t4, t5, t6, t7, t8, t9, t10, t11, t12, t13, t14, t15, v23, (V.lit (Value.bool true)), uu, uu, uu, t21, t22, t23, t24, t25, t26, t27, t28, t29, t30, t31, t32, t33, t34, t35, t36, t37, t38, t39, t40, t41, t42, t43, t44, t45, t46, t47, t48, t49, t50, t51, t52, t53, t54, t55, t56, t57], h24⟩) (
  bm (vFieldAddr s.P 23 t1 1) h24 fun v25 h26 =>
  bm (vLoad s.P 3 v25 h26) h26 fun v27 h28 =>
  bm (vBin s.P .eql 3 v27 (V.lit (Value.int .i64 8))) h28 fun v29 h30 =>
  opsP (xX s 64 wl k false) xg64_0 17 m0 ac (runK (xX s 64 wl k false) (bodyK s.P Try.f64) xk64_0) ⟨[t0, t1, t2, t3, t4, t5, t6, t7, t8, t9, t10, t11, t12, t13, t14, t15, v23, (V.lit (Value.bool false)), v25, v27, v29, t21, t22, t23, t24, t25, t26, t27, t28, t29, t30, t31, t32, t33, t34, t35, t36, t37, t38, t39, t40, t41, t42, t43, t44, t45, t46, t47, t48, t49, t50, t51, t52, t53, t54, t55, t56, t57], h30⟩) (
  opsP (xX s 64 wl k false) xg64_0 15 m0 ac (runK (xX s 64 wl k false) (bodyK s.P Try.f64) xk64_0) ⟨[t0, t1, t2, t3, t4, t5, t6, t7, t8, t9, t10, t11, t12, t13, t14, t15, v23, v23, uu, t19, t20, t21, t22, t23, t24, t25, t26, t27, t28, t29, t30, t31, t32, t33, t34, t35, t36, t37, t38, t39, t40, t41, t42, t43, t44, t45, t46, t47, t48, t49, t50, t51, t52, t53, t54, t55, t56, t57], h24⟩) :=
  (go_op0 rfl rfl (st_bm (by kernel_rfl) fun v23 h24 =>
  (go_op0 rfl rfl (st_id (v := v23) (H := h24) (by kernel_rfl)
  (go_gdF0 rfl rfl rfl (by kernel_rfl)
  (go_skip0 rfl rfl rfl (by kernel_rfl)
  (go_skip0 rfl rfl rfl (by kernel_rfl)
  (by kernel_rfl)))
  (st_bm (by kernel_rfl) fun v25 h26 =>
  (go_run0 rfl rfl rfl (by kernel_rfl) (st_bm (by kernel_rfl) fun v27 h28 =>
  (go_run0 rfl rfl rfl (by kernel_rfl) (st_bm (by kernel_rfl) fun v29 h30 =>
  (by kernel_rfl))))))
  (by kernel_rfl))))))
theorem xm64_2 (s : Sys) (k wl : Nat) (m0 : Nat) (ac : List Nat × List Nat) (t0 t1 t2 t3 t4 t5 t6 t7 t8 t9 t10 t11 t12 t13 t14 t15 t16 t17 t18 t19 t20 t21 t22 t23 t24 t25 t26 t27 t28 t29 t30 t31 t32 t33 t34 t35 t36 t37 t38 t39 t40 t41 t42 t43 t44 t45 t46 t47 t48 t49 t50 t51 t52 t53 t54 t55 t56 t57 : V) (h : Hp) : opsP (xX s 64 wl k false) xg64_0 17 m0 ac (runK (xX s 64 wl k false) (bodyK s.P Try.f64) xk64_0) ⟨[t0, t1, t2, t3, t4, t5, t6, t7, t8, t9, t10, t11, t12, t13, t14, t15, t16, t17, t18, t19, t20, t21, t22, t23, t24, t25, t26, t27, t28, t29, t30, t31, t32, t33, t34, t35, t36, t37, t38, t39, t40, t41, t42, t43, t44, t45, t46, t47, t48, t49, t50, t51, t52, t53, t54, t55, t56, t57], h⟩ =
  bm (vPick t17 (V.lit (Value.bool true)) t20) h fun v31 h32 =>
  gd v31 (
  opsP (xX s 64 wl k false) xg64_0 22 m0 ac (runK (xX s 64 wl k false) (bodyK s.P Try.f64) xk64_0) ⟨[t0, t1, t2, t3, t4, t5, t6, t7, t8, t9, t10, t11, t12, t13, t14, t15, t16, t17, t18, t19, t20, v31, (V.lit (Value.bool true)), uu, uu, uu, t26, t27, t28, t29, t30, t31, t32, t33, t34, t35, t36, t37, t38, t39, t40, t41, t42, t43, t44, t45, t46, t47, t48, t49, t50, t51, t52, t53, t54, t55, t56, t57], h32⟩) (
  bm (vFieldAddr s.P 23 t1 1) h32 fun v33 h34 =>
  bm (vLoad s.P 3 v33 h34) h34 fun v35 h36 =>
  bm (vBin s.P .eql 3 v35 (V.lit (Value.int .i64 16))) h36 fun v37 h38 =>
  opsP (xX s 64 wl k false) xg64_0 22 m0 ac (runK (xX s 64 wl k false) (bodyK s.P Try.f64) xk64_0) ⟨[t0, t1, t2, t3, t4, t5, t6, t7, t8, t9, t10, t11, t12, t13, t14, t15, t16, t17, t18, t19, t20, v31, (V.lit (Value.bool false)), v33, v35, v37, t26, t27, t28, t29, t30, t31, t32, t33, t34, t35, t36, t37, t38, t39, t40, t41, t42, t43, t44, t45, t46, t47, t48, t49, t50, t51, t52, t53, t54, t55, t56, t57], h38⟩) (
  opsP (xX s 64 wl k false) xg64_0 20 m0 ac (runK (xX s 64 wl k false) (bodyK s.P Try.f64) xk64_0) ⟨[t0, t1, t2, t3, t4, t5, t6, t7, t8, t9, t10, t11, t12, t13, t14, t15, t16, t17, t18, t19, t20, v31, v31, uu, t24, t25, t26, t27, t28, t29, t30, t31, t32, t33, t34, t35, t36, t37, t38, t39, t40, t41, t42, t43, t44, t45, t46, t47, t48, t49, t50, t51, t52, t53, t54, t55, t56, t57], h32⟩) :=
  (go_op0 rfl rfl (st_bm (by kernel_rfl) fun v31 h32 =>
  (go_op0 rfl rfl (st_id (v := v31) (H := h32) (by kernel_rfl)
  (go_gdF0 rfl rfl rfl (by kernel_rfl)
  (go_skip0 rfl rfl rfl (by kernel_rfl)
  (go_skip0 rfl rfl rfl (by kernel_rfl)
  (by kernel_rfl)))
  (st_bm (by kernel_rfl) fun v33 h34 =>
  (go_run0 rfl rfl rfl (by kernel_rfl) (st_bm (by kernel_rfl) fun v35 h36 =>
  (go_run0 rfl rfl rfl (by kernel_rfl) (st_bm (by kernel_rfl) fun v37 h38 =>
  (by kernel_rfl))))))
  (by kernel_rfl))))))
theorem xm64_3 (s : Sys) (k wl : Nat) (m0 : Nat) (ac : List Nat × List Nat) (t0 t1 t2 t3 t4 t5 t6 t7 t8 t9 t10 t11 t12 t13 t14 t15 t16 t17 t18 t19 t20 t21 t22 t23 t24 t25 t26 t27 t28 t29 t30 t31 t32 t33 t34 t35 t36 t37 t38 t39 t40 t41 t42 t43 t44 t45 t46 t47 t48 t49 t50 t51 t52 t53 t54 t55 t56 t57 : V) (h : Hp) : opsP (xX s 64 wl k false) xg64_0 22 m0 ac (runK (xX s 64 wl k false) (bodyK s.P Try.f64) xk64_0) ⟨[t0, t1, t2, t3, t4, t5, t6, t7, t8, t9, t10, t11, t12, t13, t14, t15, t16, t17, t18, t19, t20, t21, t22, t23, t24, t25, t26, t27, t28, t29, t30, t31, t32, t33, t34, t35, t36, t37, t38, t39, t40, t41, t42, t43, t44, t45, t46, t47, t48, t49, t50, t51, t52, t53, t54, t55, t56, t57], h⟩ =
  bm (vPick t22 (V.lit (Value.bool true)) t25) h fun v39 h40 =>
  bm (vFieldAddr s.P 23 t1 0) h40 fun v41 h42 =>
  bm (vLoad s.P 3 v41 h42) h42 fun v43 h44 =>
  bm (vBin s.P .geq 3 v43 (V.lit (Value.int .i64 1))) h44 fun v45 h46 =>
  gd v45 (
  bm (vFieldAddr s.P 23 t1 0) h46 fun v47 h48 =>
  bm (vLoad s.P 3 v47 h48) h48 fun v49 h50 =>
  bm (vBin s.P .leq 3 v49 (V.lit (Value.int .i64 8))) h50 fun v51 h52 =>
  opsP (xX s 64 wl k false) xg64_1 7 h40.length ([], []) (runK (xX s 64 wl k false) (bodyK s.P Try.f64) xk64_1) ⟨[t0, t1, t2, v39, t4, t5, t6, t7, t8, t9, t10, t11, t12, t13, t14, t15, t16, t17, t18, t19, t20, t21, t22, t23, t24, t25, v39, v41, v43, v45, (V.lit (Value.bool true)), v47, v49, v51, t34, t35, t36, t37, t38, t39, t40, t41, t42, t43, t44, t45, t46, t47, t48, t49, t50, t51, t52, t53, t54, t55, t56, t57], h52⟩) (
  opsP (xX s 64 wl k false) xg64_1 7 h40.length ([], []) (runK (xX s 64 wl k false) (bodyK s.P Try.f64) xk64_1) ⟨[t0, t1, t2, v39, t4, t5, t6, t7, t8, t9, t10, t11, t12, t13, t14, t15, t16, t17, t18, t19, t20, t21, t22, t23, t24, t25, v39, v41, v43, v45, (V.lit (Value.bool false)), uu, uu, uu, t34, t35, t36, t37, t38, t39, t40, t41, t42, t43, t44, t45, t46, t47, t48, t49, t50, t51, t52, t53, t54, t55, t56, t57], h46⟩) (
  opsP (xX s 64 wl k false) xg64_1 5 h40.length ([], []) (runK (xX s 64 wl k false) (bodyK s.P Try.f64) xk64_1) ⟨[t0, t1, t2, v39, t4, t5, t6, t7, t8, t9, t10, t11, t12, t13, t14, t15, t16, t17, t18, t19, t20, t21, t22, t23, t24, t25, v39, v41, v43, v45, v45, uu, t32, t33, t34, t35, t36, t37, t38, t39, t40, t41, t42, t43, t44, t45, t46, t47, t48, t49, t50, t51, t52, t53, t54, t55, t56, t57], h46⟩) :=
  (go_op0 rfl rfl (st_bm (by kernel_rfl) fun v39 h40 =>
  (go_op0 rfl rfl (st_id (v := v39) (H := h40) (by kernel_rfl)
  (go_end0 (by kernel_rfl)
  (go_seq (go_reg0
  (go_op0 rfl rfl (st_bm (by kernel_rfl) fun v41 h42 =>
  (go_op0 rfl rfl (st_bm (by kernel_rfl) fun v43 h44 =>
  (go_op0 rfl rfl (st_bm (by kernel_rfl) fun v45 h46 =>
  (go_op0 rfl rfl (st_id (v := v45) (H := h46) (by kernel_rfl)
  (go_gdT0 rfl rfl rfl (by kernel_rfl)
  (st_bm (by kernel_rfl) fun v47 h48 =>
  (go_run0 rfl rfl rfl (by kernel_rfl) (st_bm (by kernel_rfl) fun v49 h50 =>
  (go_run0 rfl rfl rfl (by kernel_rfl) (st_bm (by kernel_rfl) fun v51 h52 =>
  (by kernel_rfl))))))
  (go_skip0 rfl rfl rfl (by kernel_rfl)
  (go_skip0 rfl rfl rfl (by kernel_rfl)
  (by kernel_rfl)))
  (by kernel_rfl)))))))))))))))))
theorem xm64_4 (s : Sys) (k wl : Nat) (m0 : Nat) (ac : List Nat × List Nat) (t0 t1 t2 t3 t4 t5 t6 t7 t8 t9 t10 t11 t12 t13 t14 t15 t16 t17 t18 t19 t20 t21 t22 t23 t24 t25 t26 t27 t28 t29 t30 t31 t32 t33 t34 t35 t36 t37 t38 t39 t40 t41 t42 t43 t44 t45 t46 t47 t48 t49 t50 t51 t52 t53 t54 t55 t56 t57 : V) (h : Hp) : opsP (xX s 64 wl k false) xg64_1 7 m0 ac (runK (xX s 64 wl k false) (bodyK s.P Try.f64) xk64_1) ⟨[t0, t1, t2, t3, t4, t5, t6, t7, t8, t9, t10, t11, t12, t13, t14, t15, t16, t17, t18, t19, t20, t21, t22, t23, t24, t25, t26, t27, t28, t29, t30, t31, t32, t33, t34, t35, t36, t37, t38, t39, t40, t41, t42, t43, t44, t45, t46, t47, t48, t49, t50, t51, t52, t53, t54, t55, t56, t57], h⟩ =
  bm (vPick t30 t33 (V.lit (Value.bool false))) h fun v53 h54 =>
  gd v53 (
  opsP (xX s 64 wl k false) xg64_1 10 m0 ac (runK (xX s 64 wl k false) (bodyK s.P Try.f64) xk64_1) ⟨[t0, t1, t2, t3, t4, t5, t6, t7, t8, t9, t10, t11, t12, t13, t14, t15, t16, t17, t18, t19, t20, t21, t22, t23, t24, t25, t26, t27, t28, t29, t30, t31, t32, t33, v53, (V.lit (Value.bool true)), t3, t37, t38, t39, t40, t41, t42, t43, t44, t45, t46, t47, t48, t49, t50, t51, t52, t53, t54, t55, t56, t57], h54⟩) (
  opsP (xX s 64 wl k false) xg64_1 10 m0 ac (runK (xX s 64 wl k false) (bodyK s.P Try.f64) xk64_1) ⟨[t0, t1, t2, t3, t4, t5, t6, t7, t8, t9, t10, t11, t12, t13, t14, t15, t16, t17, t18, t19, t20, t21, t22, t23, t24, t25, t26, t27, t28, t29, t30, t31, t32, t33, v53, (V.lit (Value.bool false)), uu, t37, t38, t39, t40, t41, t42, t43, t44, t45, t46, t47, t48, t49, t50, t51, t52, t53, t54, t55, t56, t57], h54⟩) (
  opsP (xX s 64 wl k false) xg64_1 10 m0 ac (runK (xX s 64 wl k false) (bodyK s.P Try.f64) xk64_1) ⟨[t0, t1, t2, t3, t4, t5, t6, t7, t8, t9, t10, t11, t12, t13, t14, t15, t16, t17, t18, t19, t20, t21, t22, t23, t24, t25, t26, t27, t28, t29, t30, t31, t32, t33, v53, v53, uu, t37, t38, t39, t40, t41, t42, t43, t44, t45, t46, t47, t48, t49, t50, t51, t52, t53, t54, t55, t56, t57], h54⟩) :=
  (go_op0 rfl rfl (st_bm (by kernel_rfl) fun v53 h54 =>
  (go_op0 rfl rfl (st_id (v := v53) (H := h54) (by kernel_rfl)
  (go_gdT0 rfl rfl rfl (by kernel_rfl)
  (st_id (v := t3) (H := h54) (by kernel_rfl)
  (by kernel_rfl))
  (by kernel_rfl)
  (by kernel_rfl))))))
theorem xm64_5 (s : Sys) (k wl : Nat) (m0 : Nat) (ac : List Nat × List Nat) (t0 t1 t2 t3 t4 t5 t6 t7 t8 t9 t10 t11 t12 t13 t14 t15 t16 t17 t18 t19 t20 t21 t22 t23 t24 t25 t26 t27 t28 t29 t30 t31 t32 t33 t34 t35 t36 t37 t38 t39 t40 t41 t42 t43 t44 t45 t46 t47 t48 t49 t50 t51 t52 t53 t54 t55 t56 t57 : V) (h : Hp) : opsP (xX s 64 wl k false) xg64_1 10 m0 ac (runK (xX s 64 wl k false) (bodyK s.P Try.f64) xk64_1) ⟨[t0, t1, t2, t3, t4, t5, t6, t7, t8, t9, t10, t11, t12, t13, t14, t15, t16, t17, t18, t19, t20, t21, t22, t23, t24, t25, t26, t27, t28, t29, t30, t31, t32, t33, t34, t35, t36, t37, t38, t39, t40, t41, t42, t43, t44, t45, t46, t47, t48, t49, t50, t51, t52, t53, t54, t55, t56, t57], h⟩ =
  bm (vPick t35 t36 (V.lit (Value.bool false))) h fun v55 h56 =>
  gd v55 (
  bm (vFieldAddr s.P 23 t1 2) h56 fun v57 h58 =>
  bm (vLoad s.P 3 v57 h58) h58 fun v59 h60 =>
  bm (vBin s.P .geq 3 v59 (V.lit (Value.int .i64 1))) h60 fun v61 h62 =>
  opsP (xX s 64 wl k false) xg64_1 15 m0 ac (runK (xX s 64 wl k false) (bodyK s.P Try.f64) xk64_1) ⟨[t0, t1, t2, t3, t4, t5, t6, t7, t8, t9, t10, t11, t12, t13, t14, t15, t16, t17, t18, t19, t20, t21, t22, t23, t24, t25, t26, t27, t28, t29, t30, t31, t32, t33, t34, t35, t36, v55, (V.lit (Value.bool true)), v57, v59, v61, t42, t43, t44, t45, t46, t47, t48, t49, t50, t51, t52, t53, t54, t55, t56, t57], h62⟩) (
  opsP (xX s 64 wl k false) xg64_1 15 m0 ac (runK (xX s 64 wl k false) (bodyK s.P Try.f64) xk64_1) ⟨[t0, t1, t2, t3, t4, t5, t6, t7, t8, t9, t10, t11, t12, t13, t14, t15, t16, t17, t18, t19, t20, t21, t22, t23, t24, t25, t26, t27, t28, t29, t30, t31, t32, t33, t34, t35, t36, v55, (V.lit (Value.bool false)), uu, uu, uu, t42, t43, t44, t45, t46, t47, t48, t49, t50, t51, t52, t53, t54, t55, t56, t57], h56⟩) (
  opsP (xX s 64 wl k false) xg64_1 13 m0 ac (runK (xX s 64 wl k false) (bodyK s.P Try.f64) xk64_1) ⟨[t0, t1, t2, t3, t4, t5, t6, t7, t8, t9, t10, t11, t12, t13, t14, t15, t16, t17, t18, t19, t20, t21, t22, t23, t24, t25, t26, t27, t28, t29, t30, t31, t32, t33, t34, t35, t36, v55, v55, uu, t40, t41, t42, t43, t44, t45, t46, t47, t48, t49, t50, t51, t52, t53, t54, t55, t56, t57], h56⟩) :=
  (go_op0 rfl rfl (st_bm (by kernel_rfl) fun v55 h56 =>
  (go_op0 rfl rfl (st_id (v := v55) (H := h56) (by kernel_rfl)
  (go_gdT0 rfl rfl rfl (by kernel_rfl)
  (st_bm (by kernel_rfl) fun v57 h58 =>
  (go_run0 rfl rfl rfl (by kernel_rfl) (st_bm (by kernel_rfl) fun v59 h60 =>
  (go_run0 rfl rfl rfl (by kernel_rfl) (st_bm (by kernel_rfl) fun v61 h62 =>
  (by kernel_rfl))))))
  (go_skip0 rfl rfl rfl (by kernel_rfl)
  (go_skip0 rfl rfl rfl (by kernel_rfl)
  (by kernel_rfl)))
  (by kernel_rfl))))))
theorem xm64_6 (s : Sys) (k wl : Nat) (m0 : Nat) (ac : List Nat × List Nat) (t0 t1 t2 t3 t4 t5 t6 t7 t8 t9 t10 t11 t12 t13 t14 t15 t16 t17 t18 t19 t20 t21 t22 t23 t24 t25 t26 t27 t28 t29 t30 t31 t32 t33 t34 t35 t36 t37 t38 t39 t40 t41 t42 t43 t44 t45 t46 t47 t48 t49 t50 t51 t52 t53 t54 t55 t56 t57 : V) (h : Hp) : opsP (xX s 64 wl k false) xg64_1 15 m0 ac (runK (xX s 64 wl k false) (bodyK s.P Try.f64) xk64_1) ⟨[t0, t1, t2, t3, t4, t5, t6, t7, t8, t9, t10, t11, t12, t13, t14, t15, t16, t17, t18, t19, t20, t21, t22, t23, t24, t25, t26, t27, t28, t29, t30, t31, t32, t33, t34, t35, t36, t37, t38, t39, t40, t41, t42, t43, t44, t45, t46, t47, t48, t49, t50, t51, t52, t53, t54, t55, t56, t57], h⟩ =
  bm (vPick t38 t41 (V.lit (Value.bool false))) h fun v63 h64 =>
  gd v63 (
  bm (vFieldAddr s.P 23 t1 2) h64 fun v65 h66 =>
  bm (vLoad s.P 3 v65 h66) h66 fun v67 h68 =>
  bm (vBin s.P .leq 3 v67 (V.lit (Value.int .i64 16))) h68 fun v69 h70 =>
  opsP (xX s 64 wl k false) xg64_1 20 m0 ac (runK (xX s 64 wl k false) (bodyK s.P Try.f64) xk64_1) ⟨[t0, t1, t2, t3, t4, t5, t6, t7, t8, t9, t10, t11, t12, t13, t14, t15, t16, t17, t18, t19, t20, t21, t22, t23, t24, t25, t26, t27, t28, t29, t30, t31, t32, t33, t34, t35, t36, t37, t38, t39, t40, t41, v63, (V.lit (Value.bool true)), v65, v67, v69, t47, t48, t49, t50, t51, t52, t53, t54, t55, t56, t57], h70⟩) (
  opsP (xX s 64 wl k false) xg64_1 20 m0 ac (runK (xX s 64 wl k false) (bodyK s.P Try.f64) xk64_1) ⟨[t0, t1, t2, t3, t4, t5, t6, t7, t8, t9, t10, t11, t12, t13, t14, t15, t16, t17, t18, t19, t20, t21, t22, t23, t24, t25, t26, t27, t28, t29, t30, t31, t32, t33, t34, t35, t36, t37, t38, t39, t40, t41, v63, (V.lit (Value.bool false)), uu, uu, uu, t47, t48, t49, t50, t51, t52, t53, t54, t55, t56, t57], h64⟩) (
  opsP (xX s 64 wl k false) xg64_1 18 m0 ac (runK (xX s 64 wl k false) (bodyK s.P Try.f64) xk64_1) ⟨[t0, t1, t2, t3, t4, t5, t6, t7, t8, t9, t10, t11, t12, t13, t14, t15, t16, t17, t18, t19, t20, t21, t22, t23, t24, t25, t26, t27, t28, t29, t30, t31, t32, t33, t34, t35, t36, t37, t38, t39, t40, t41, v63, v63, uu, t45, t46, t47, t48, t49, t50, t51, t52, t53, t54, t55, t56, t57], h64⟩) :=
  (go_op0 rfl rfl (st_bm (by kernel_rfl) fun v63 h64 =>
  (go_op0 rfl rfl (st_id (v := v63) (H := h64) (by kernel_rfl)
  (go_gdT0 rfl rfl rfl (by kernel_rfl)
  (st_bm (by kernel_rfl) fun v65 h66 =>
  (go_run0 rfl rfl rfl (by kernel_rfl) (st_bm (by kernel_rfl) fun v67 h68 =>
  (go_run0 rfl rfl rfl (by kernel_rfl) (st_bm (by kernel_rfl) fun v69 h70 =>
  (by kernel_rfl))))))
  (go_skip0 rfl rfl rfl (by kernel_rfl)
  (go_skip0 rfl rfl rfl (by kernel_rfl)
  (by kernel_rfl)))
  (by kernel_rfl))))))
theorem xm64_7 (s : Sys) (k wl : Nat) (m0 : Nat) (ac : List Nat × List Nat) (t0 t1 t2 t3 t4 t5 t6 t7 t8 t9 t10 t11 t12 t13 t14 t15 t16 t17 t18 t19 t20 t21 t22 t23 t24 t25 t26 t27 t28 t29 t30 t31 t32 t33 t34 t35 t36 t37 t38 t39 t40 t41 t42 t43 t44 t45 t46 t47 t48 t49 t50 t51 t52 t53 t54 t55 t56 t57 : V) (h : Hp) : opsP (xX s 64 wl k false) xg64_1 20 m0 ac (runK (xX s 64 wl k false) (bodyK s.P Try.f64) xk64_1) ⟨[t0, t1, t2, t3, t4, t5, t6, t7, t8, t9, t10, t11, t12, t13, t14, t15, t16, t17, t18, t19, t20, t21, t22, t23, t24, t25, t26, t27, t28, t29, t30, t31, t32, t33, t34, t35, t36, t37, t38, t39, t40, t41, t42, t43, t44, t45, t46, t47, t48, t49, t50, t51, t52, t53, t54, t55, t56, t57], h⟩ =
  bm (vPick t43 t46 (V.lit (Value.bool false))) h fun v71 h72 =>
  gd v71 (
  bm (vFieldAddr s.P 23 t1 3) h72 fun v73 h74 =>
  bm (vLoad s.P 3 v73 h74) h74 fun v75 h76 =>
  bm (vBin s.P .geq 3 v75 (V.lit (Value.int .i64 0))) h76 fun v77 h78 =>
  opsP (xX s 64 wl k false) xg64_1 25 m0 ac (runK (xX s 64 wl k false) (bodyK s.P Try.f64) xk64_1) ⟨[t0, t1, t2, t3, t4, t5, t6, t7, t8, t9, t10, t11, t12, t13, t14, t15, t16, t17, t18, t19, t20, t21, t22, t23, t24, t25, t26, t27, t28, t29, t30, t31, t32, t33, t34, t35, t36, t37, t38, t39, t40, t41, t42, t43, t44, t45, t46, v71, (V.lit (Value.bool true)), v73, v75, v77, t52, t53, t54, t55, t56, t57], h78⟩) (
  opsP (xX s 64 wl k false) xg64_1 25 m0 ac (runK (xX s 64 wl k false) (bodyK s.P Try.f64) xk64_1) ⟨[t0, t1, t2, t3, t4, t5, t6, t7, t8, t9, t10, t11, t12, t13, t14, t15, t16, t17, t18, t19, t20, t21, t22, t23, t24, t25, t26, t27, t28, t29, t30, t31, t32, t33, t34, t35, t36, t37, t38, t39, t40, t41, t42, t43, t44, t45, t46, v71, (V.lit (Value.bool false)), uu, uu, uu, t52, t53, t54, t55, t56, t57], h72⟩) (
  opsP (xX s 64 wl k false) xg64_1 23 m0 ac (runK (xX s 64 wl k false) (bodyK s.P Try.f64) xk64_1) ⟨[t0, t1, t2, t3, t4, t5, t6, t7, t8, t9, t10, t11, t12, t13, t14, t15, t16, t17, t18, t19, t20, t21, t22, t23, t24, t25, t26, t27, t28, t29, t30, t31, t32, t33, t34, t35, t36, t37, t38, t39, t40, t41, t42, t43, t44, t45, t46, v71, v71, uu, t50, t51, t52, t53, t54, t55, t56, t57], h72⟩) :=
  (go_op0 rfl rfl (st_bm (by kernel_rfl) fun v71 h72 =>
  (go_op0 rfl rfl (st_id (v := v71) (H := h72) (by kernel_rfl)
  (go_gdT0 rfl rfl rfl (by kernel_rfl)
  (st_bm (by kernel_rfl) fun v73 h74 =>
  (go_run0 rfl rfl rfl (by kernel_rfl) (st_bm (by kernel_rfl) fun v75 h76 =>
  (go_run0 rfl rfl rfl (by kernel_rfl) (st_bm (by kernel_rfl) fun v77 h78 =>
  (by kernel_rfl))))))
  (go_skip0 rfl rfl rfl (by kernel_rfl)
  (go_skip0 rfl rfl rfl (by kernel_rfl)
  (by kernel_rfl)))
  (by kernel_rfl))))))
theorem xm64_8 (s : Sys) (k wl : Nat) (m0 : Nat) (ac : List Nat × List Nat) (t0 t1 t2 t3 t4 t5 t6 t7 t8 t9 t10 t11 t12 t13 t14 t15 t16 t17 t18 t19 t20 t21 t22 t23 t24 t25 t26 t27 t28 t29 t30 t31 t32 t33 t34 t35 t36 t37 t38 t39 t40 t41 t42 t43 t44 t45 t46 t47 t48 t49 t50 t51 t52 t53 t54 t55 t56 t57 : V) (h : Hp) : opsP (xX s 64 wl k false) xg64_1 25 m0 ac (runK (xX s 64 wl k false) (bodyK s.P Try.f64) xk64_1) ⟨[t0, t1, t2, t3, t4, t5, t6, t7, t8, t9, t10, t11, t12, t13, t14, t15, t16, t17, t18, t19, t20, t21, t22, t23, t24, t25, t26, t27, t28, t29, t30, t31, t32, t33, t34, t35, t36, t37, t38, t39, t40, t41, t42, t43, t44, t45, t46, t47, t48, t49, t50, t51, t52, t53, t54, t55, t56, t57], h⟩ =
  bm (vPick t48 t51 (V.lit (Value.bool false))) h fun v79 h80 =>
  gd v79 (
  bm (vFieldAddr s.P 23 t1 3) h80 fun v81 h82 =>
  bm (vLoad s.P 3 v81 h82) h82 fun v83 h84 =>
  bm (vBin s.P .leq 3 v83 (V.lit (Value.int .i64 4))) h84 fun v85 h86 =>
  opsP (xX s 64 wl k false) xg64_1 30 m0 ac (runK (xX s 64 wl k false) (bodyK s.P Try.f64) xk64_1) ⟨[t0, t1, t2, t3, t4, t5, t6, t7, t8, t9, t10, t11, t12, t13, t14, t15, t16, t17, t18, t19, t20, t21, t22, t23, t24, t25, t26, t27, t28, t29, t30, t31, t32, t33, t34, t35, t36, t37, t38, t39, t40, t41, t42, t43, t44, t45, t46, t47, t48, t49, t50, t51, v79, (V.lit (Value.bool true)), v81, v83, v85, t57], h86⟩) (
  opsP (xX s 64 wl k false) xg64_1 30 m0 ac (runK (xX s 64 wl k false) (bodyK s.P Try.f64) xk64_1) ⟨[t0, t1, t2, t3, t4, t5, t6, t7, t8, t9, t10, t11, t12, t13, t14, t15, t16, t17, t18, t19, t20, t21, t22, t23, t24, t25, t26, t27, t28, t29, t30, t31, t32, t33, t34, t35, t36, t37, t38, t39, t40, t41, t42, t43, t44, t45, t46, t47, t48, t49, t50, t51, v79, (V.lit (Value.bool false)), uu, uu, uu, t57], h80⟩) (
  opsP (xX s 64 wl k false) xg64_1 28 m0 ac (runK (xX s 64 wl k false) (bodyK s.P Try.f64) xk64_1) ⟨[t0, t1, t2, t3, t4, t5, t6, t7, t8, t9, t10, t11, t12, t13, t14, t15, t16, t17, t18, t19, t20, t21, t22, t23, t24, t25, t26, t27, t28, t29, t30, t31, t32, t33, t34, t35, t36, t37, t38, t39, t40, t41, t42, t43, t44, t45, t46, t47, t48, t49, t50, t51, v79, v79, uu, t55, t56, t57], h80⟩) :=
  (go_op0 rfl rfl (st_bm (by kernel_rfl) fun v79 h80 =>
  (go_op0 rfl rfl (st_id (v := v79) (H := h80) (by kernel_rfl)
  (go_gdT0 rfl rfl rfl (by kernel_rfl)
  (st_bm (by kernel_rfl) fun v81 h82 =>
  (go_run0 rfl rfl rfl (by kernel_rfl) (st_bm (by kernel_rfl) fun v83 h84 =>
  (go_run0 rfl rfl rfl (by kernel_rfl) (st_bm (by kernel_rfl) fun v85 h86 =>
  (by kernel_rfl))))))
  (go_skip0 rfl rfl rfl (by kernel_rfl)
  (go_skip0 rfl rfl rfl (by kernel_rfl)
  (by kernel_rfl)))
  (by kernel_rfl))))))
theorem xm64_9 (s : Sys) (k wl : Nat) (m0 : Nat) (ac : List Nat × List Nat) (t0 t1 t2 t3 t4 t5 t6 t7 t8 t9 t10 t11 t12 t13 t14 t15 t16 t17 t18 t19 t20 t21 t22 t23 t24 t25 t26 t27 t28 t29 t30 t31 t32 t33 t34 t35 t36 t37 t38 t39 t40 t41 t42 t43 t44 t45 t46 t47 t48 t49 t50 t51 t52 t53 t54 t55 t56 t57 : V) (h : Hp) : opsP (xX s 64 wl k false) xg64_1 30 m0 ac (runK (xX s 64 wl k false) (bodyK s.P Try.f64) xk64_1) ⟨[t0, t1, t2, t3, t4, t5, t6, t7, t8, t9, t10, t11, t12, t13, t14, t15, t16, t17, t18, t19, t20, t21, t22, t23, t24, t25, t26, t27, t28, t29, t30, t31, t32, t33, t34, t35, t36, t37, t38, t39, t40, t41, t42, t43, t44, t45, t46, t47, t48, t49, t50, t51, t52, t53, t54, t55, t56, t57], h⟩ =
  bm (vPick t53 t56 (V.lit (Value.bool false))) h fun v87 h88 =>
  some (v87, h88) :=
  (go_op0 rfl rfl (st_bm (by kernel_rfl) fun v87 h88 =>
  (go_op0 rfl rfl (st_id (v := v87) (H := h88) (by kernel_rfl)
  (go_end0 (by kernel_rfl)
  (go_ret (by kernel_rfl)))))))
theorem xk64_0_ret (cx : Cx) (K : Out → St → Option (V × Hp)) (s : St) : runK cx K xk64_0 .ret s = K .ret s := by kernel_rfl
theorem xk64_1_ret (cx : Cx) (K : Out → St → Option (V × Hp)) (s : St) : runK cx K xk64_1 .ret s = K .ret s := by kernel_rfl
-- names: xb64, xm64_0, xm64_1, xm64_2, xm64_3, xm64_4, xm64_5, xm64_6, xm64_7, xm64_8, xm64_9, xk64_0_ret, xk64_1_ret
/-! 65 poacher/poacherref03.Size: 0 c, 1 c, 3 may -/

theorem xb65 (s : Sys) (k wl : Nat) (t0 : V) (h : Hp) : bodyV (xX s 65 wl k false) Try.f65 [t0] h =
  bp (opBox t0 h) fun v1 h2 =>
  bm (vLoad s.P 23 v1 h2) h2 fun v3 h4 =>
  bp (callV (xX s 65 wl k false) false true (.fn (.func 64) [] []) [v3] h4) fun v5 h6 =>
  bm (vUn .not v5) h6 fun v7 h8 =>
  cnd v7 (
  some ((V.lit (Value.int .i64 0)), h8)) (
  bm (vFieldAddr s.P 23 v1 2) h8 fun v9 h10 =>
  bm (vLoad s.P 3 v9 h10) h10 fun v11 h12 =>
  bm (vBin s.P .mul 3 (V.lit (Value.int .i64 2)) v11) h12 fun v13 h14 =>
  bm (vBin s.P .add 3 (V.lit (Value.int .i64 6)) v13) h14 fun v15 h16 =>
  bm (vFieldAddr s.P 23 v1 0) h16 fun v17 h18 =>
  bm (vLoad s.P 3 v17 h18) h18 fun v19 h20 =>
  bm (vFieldAddr s.P 23 v1 1) h20 fun v21 h22 =>
  bm (vLoad s.P 3 v21 h22) h22 fun v23 h24 =>
  bm (vBin s.P .add 3 (V.lit (Value.int .i64 3)) v23) h24 fun v25 h26 =>
  bm (vBin s.P .mul 3 v19 v25) h26 fun v27 h28 =>
  bm (vBin s.P .add 3 v15 v27) h28 fun v29 h30 =>
  some (v29, h30)) :=
  bodyV_run rfl (go_seq (go_reg0
  (go_op0 rfl rfl (st_bp (by kernel_rfl) fun v1 h2 =>
  (go_op0 rfl rfl (st_id (v := (V.lit (Value.int .i64 0))) (H := h2) (by kernel_rfl)
  (go_end0 (by kernel_rfl)
  (go_seq (go_reg0
  (go_op0 rfl rfl (st_bm (by kernel_rfl) fun v3 h4 =>
  (go_op0 rfl rfl (st_bp (by kernel_rfl) fun v5 h6 =>
  (go_op0 rfl rfl (st_id (v := v5) (H := h6) (by kernel_rfl)
  (go_end0 (by kernel_rfl)
  (go_seq (go_seq (go_reg0
  (go_op0 rfl rfl (st_id (v := v5) (H := h6) (by kernel_rfl)
  (go_op0 rfl rfl (st_bm (by kernel_rfl) fun v7 h8 =>
  (go_end0 (by kernel_rfl)
  (go_cond (by kernel_rfl)
  (go_seq (go_reg0
  (go_op0 rfl rfl (st_id (v := (V.lit (Value.int .i64 0))) (H := h8) (by kernel_rfl)
  (go_end0 (by kernel_rfl)
  (go_ret (rt_seq_ret (by kernel_rfl))))))))
  (go_skip (go_seq (go_reg0
  (go_op0 rfl rfl (st_bm (by kernel_rfl) fun v9 h10 =>
  (go_op0 rfl rfl (st_bm (by kernel_rfl) fun v11 h12 =>
  (go_op0 rfl rfl (st_bm (by kernel_rfl) fun v13 h14 =>
  (go_op0 rfl rfl (st_bm (by kernel_rfl) fun v15 h16 =>
  (go_op0 rfl rfl (st_bm (by kernel_rfl) fun v17 h18 =>
  (go_op0 rfl rfl (st_bm (by kernel_rfl) fun v19 h20 =>
  (go_op0 rfl rfl (st_bm (by kernel_rfl) fun v21 h22 =>
  (go_op0 rfl rfl (st_bm (by kernel_rfl) fun v23 h24 =>
  (go_op0 rfl rfl (st_bm (by kernel_rfl) fun v25 h26 =>
  (go_op0 rfl rfl (st_bm (by kernel_rfl) fun v27 h28 =>
  (go_op0 rfl rfl (st_bm (by kernel_rfl) fun v29 h30 =>
  (go_op0 rfl rfl (st_id (v := v29) (H := h30) (by kernel_rfl)
  (go_end0 (by kernel_rfl)
  (go_ret (by kernel_rfl)))))))))))))))))))))))))))))))))))))))))))))))))))))))
theorem xe65 (k wl : Nat) (t0 : V) (h : Hp) : evF Try.prog xM (k + 1) wl 65 [t0] h = bodyV (xX (xS k) 65 wl k false) Try.f65 [t0] h := by kernel_rfl
-- names: xb65, 
/-! 66 poacher/poacherref02.Has: 0 mask, 1 w, 2 mask, 3 w -/

theorem xb66 (s : Sys) (k wl : Nat) (t0 t1 : V) (h : Hp) : bodyV (xX s 66 wl k false) Try.f66 [t0, t1] h =
  bp (callV (xX s 66 wl k false) false true (.fn (.func 90) [] []) [t1] h) fun v1 h2 =>
  bm (vBin s.P .quo 26 t0 v1) h2 fun v3 h4 =>
  bm (vBin s.P .rem 26 v3 (V.lit (Value.int .u64 2))) h4 fun v5 h6 =>
  bm (vBin s.P .eql 26 v5 (V.lit (Value.int .u64 1))) h6 fun v7 h8 =>
  some (v7, h8) :=
  bodyV_run rfl (go_seq (go_reg0
  (go_op0 rfl rfl (st_id (v := (V.lit (Value.bool false))) (H := h) (by kernel_rfl)
  (go_end0 (by kernel_rfl)
  (go_seq (go_reg0
  (go_op0 rfl rfl (st_id (v := t0) (H := h) (by kernel_rfl)
  (go_op0 rfl rfl (st_id (v := t1) (H := h) (by kernel_rfl)
  (go_op0 rfl rfl (st_bp (by kernel_rfl) fun v1 h2 =>
  (go_op0 rfl rfl (st_bm (by kernel_rfl) fun v3 h4 =>
  (go_op0 rfl rfl (st_bm (by kernel_rfl) fun v5 h6 =>
  (go_op0 rfl rfl (st_bm (by kernel_rfl) fun v7 h8 =>
  (go_op0 rfl rfl (st_id (v := v7) (H := h8) (by kernel_rfl)
  (go_end0 (by kernel_rfl)
  (go_ret (by kernel_rfl))))))))))))))))))))))))
theorem xe66 (k wl : Nat) (t0 t1 : V) (h : Hp) : evF Try.prog xM (k + 1) wl 66 [t0, t1] h = bodyV (xX (xS k) 66 wl k false) Try.f66 [t0, t1] h := by kernel_rfl
-- names: xb66, 
/-! 67 poacher/poacherref02.Mask: 0 e, 1 e -/

theorem xb67 (s : Sys) (k wl : Nat) (t0 : V) (h : Hp) : bodyV (xX s 67 wl k false) Try.f67 [t0] h =
  bm (vBin s.P .rem 26 t0 (V.lit (Value.int .u64 65536))) h fun v1 h2 =>
  some (v1, h2) :=
  bodyV_run rfl (go_seq (go_reg0
  (go_op0 rfl rfl (st_id (v := (V.lit (Value.int .u64 0))) (H := h) (by kernel_rfl)
  (go_end0 (by kernel_rfl)
  (go_seq (go_reg0
  (go_op0 rfl rfl (st_id (v := t0) (H := h) (by kernel_rfl)
  (go_op0 rfl rfl (st_bm (by kernel_rfl) fun v1 h2 =>
  (go_op0 rfl rfl (st_id (v := v1) (H := h2) (by kernel_rfl)
  (go_end0 (by kernel_rfl)
  (go_ret (by kernel_rfl))))))))))))))))
theorem xe67 (k wl : Nat) (t0 : V) (h : Hp) : evF Try.prog xM (k + 1) wl 67 [t0] h = bodyV (xX (xS k) 67 wl k false) Try.f67 [t0] h := by kernel_rfl
-- names: xb67, 
/-! 89 poacher/poacherref06.Over: 0 f, 1 f -/

theorem xb89 (s : Sys) (k wl : Nat) (t0 : V) (h : Hp) : bodyV (xX s 89 wl k false) Try.f89 [t0] h =
  bp (opBox t0 h) fun v1 h2 =>
  bm (vFieldAddr s.P 28 v1 6) h2 fun v3 h4 =>
  bm (vLoad s.P 3 v3 h4) h4 fun v5 h6 =>
  bm (vBin s.P .neq 3 v5 (V.lit (Value.int .i64 0))) h6 fun v7 h8 =>
  some (v7, h8) :=
  bodyV_run rfl (go_seq (go_reg0
  (go_op0 rfl rfl (st_bp (by kernel_rfl) fun v1 h2 =>
  (go_op0 rfl rfl (st_id (v := (V.lit (Value.bool false))) (H := h2) (by kernel_rfl)
  (go_end0 (by kernel_rfl)
  (go_seq (go_reg0
  (go_op0 rfl rfl (st_bm (by kernel_rfl) fun v3 h4 =>
  (go_op0 rfl rfl (st_bm (by kernel_rfl) fun v5 h6 =>
  (go_op0 rfl rfl (st_bm (by kernel_rfl) fun v7 h8 =>
  (go_op0 rfl rfl (st_id (v := v7) (H := h8) (by kernel_rfl)
  (go_end0 (by kernel_rfl)
  (go_ret (by kernel_rfl))))))))))))))))))))
theorem xe89 (k wl : Nat) (t0 : V) (h : Hp) : evF Try.prog xM (k + 1) wl 89 [t0] h = bodyV (xX (xS k) 89 wl k false) Try.f89 [t0] h := by kernel_rfl
-- names: xb89, 
/-! 90 poacher/poacherref02.bit: 0 w, 1 w, 3 n, 4 i -/
noncomputable def xl90_0 : Code := codeAt (bodyOf Try.f90) [1, 1, 0, 1, 0, 0]
noncomputable def xk90_0 : List Fr := [.block 0, .seq (codeAt (bodyOf Try.f90) [1, 1, 1])]
theorem xb90 (s : Sys) (k wl : Nat) (t0 : V) (h : Hp) : bodyV (xX s 90 wl k false) Try.f90 [t0] h =
  itX (xX s 90 wl k false) xl90_0 h.length (runK (xX s 90 wl k false) (bodyK s.P Try.f90) xk90_0) k ⟨[(V.kill h.length t0), (V.kill h.length uu), (V.lit (Value.int .u64 0)), (V.lit (Value.int .u64 1)), (V.lit (Value.int .i64 0)), .junk, .junk, .junk, .junk, .junk, .junk, .junk, (V.kill h.length uu)], cutH h.length h⟩ :=
  bodyV_run rfl (go_seq (go_reg0
  (go_op0 rfl rfl (st_id (v := (V.lit (Value.int .u64 0))) (H := h) (by kernel_rfl)
  (go_end0 (by kernel_rfl)
  (go_seq (go_reg0
  (go_op0 rfl rfl (st_id (v := (V.lit (Value.int .u64 1))) (H := h) (by kernel_rfl)
  (go_end0 (by kernel_rfl)
  (go_seq (go_seq (go_reg0
  (go_op0 rfl rfl (st_id (v := (V.lit (Value.int .i64 0))) (H := h) (by kernel_rfl)
  (go_end0 (by kernel_rfl)
  (go_block (by kernel_rfl))))))))))))))))))
theorem xe90 (k wl : Nat) (t0 : V) (h : Hp) : evF Try.prog xM (k + 1) wl 90 [t0] h = bodyV (xX (xS k) 90 wl k false) Try.f90 [t0] h := by kernel_rfl
theorem xz90 (P : Program) (t0 t1 t2 t3 t4 t5 t6 t7 t8 t9 t10 t11 t12 : V) (h : Hp) : bodyK P Try.f90 .ret ⟨[t0, t1, t2, t3, t4, t5, t6, t7, t8, t9, t10, t11, t12], h⟩ = some (t2, h) := by kernel_rfl
theorem xr90_0 (s : Sys) (K : Out → St → Option (V × Hp)) (k wl : Nat) (rd : Bool) (n n0 : Nat) (t0 t1 t2 t3 t4 t5 t6 t7 t8 t9 t10 t11 t12 : V) (h : Hp) : itX (xX s 90 wl k rd) xl90_0 n0 K (n + 1) ⟨[t0, t1, t2, t3, t4, t5, t6, t7, t8, t9, t10, t11, t12], h⟩ =
  bm (vBin s.P .lss 3 t4 t0) h fun v1 h2 =>
  cnd v1 (
  bm (vBin s.P .mul 26 (V.lit (Value.int .u64 2)) t3) h2 fun v3 h4 =>
  bm (vBin s.P .add 3 t4 (V.lit (Value.int .i64 1))) h4 fun v5 h6 =>
  itX (xX s 90 wl k rd) xl90_0 n0 K n ⟨[(V.kill n0 t0), (V.kill n0 t1), (V.kill n0 t2), (V.kill n0 v3), (V.kill n0 v5), .junk, .junk, .junk, .junk, .junk, .junk, .junk, (V.kill n0 t12)], cutH n0 h6⟩) (
  K (.exit 0) ⟨[(V.kill n0 t0), (V.kill n0 t1), (V.kill n0 t2), (V.kill n0 t3), (V.kill n0 t4), .junk, .junk, .junk, .junk, .junk, .junk, .junk, (V.kill n0 t12)], cutH n0 h2⟩) :=
  itX_step (go_seq (go_seq (go_reg0
  (go_op0 rfl rfl (st_id (v := t4) (H := h) (by kernel_rfl)
  (go_op0 rfl rfl (st_id (v := t0) (H := h) (by kernel_rfl)
  (go_op0 rfl rfl (st_bm (by kernel_rfl) fun v1 h2 =>
  (go_end0 (by kernel_rfl)
  (go_cond (by kernel_rfl)
  (go_skip (go_seq (go_block (go_reg0
  (go_op0 rfl rfl (st_id (v := t3) (H := h2) (by kernel_rfl)
  (go_op0 rfl rfl (st_bm (by kernel_rfl) fun v3 h4 =>
  (go_op0 rfl rfl (st_id (v := v3) (H := h4) (by kernel_rfl)
  (go_end0 (by kernel_rfl)
  (rt_block_norm (go_reg0
  (go_op0 rfl rfl (st_id (v := t4) (H := h4) (by kernel_rfl)
  (go_op0 rfl rfl (st_bm (by kernel_rfl) fun v5 h6 =>
  (go_op0 rfl rfl (st_id (v := v5) (H := h6) (by kernel_rfl)
  (go_end0 (by kernel_rfl)
  (by kernel_rfl)))))))))))))))))))))
  (go_exit (rt_seq_exit (by kernel_rfl))))))))))))))
theorem xj90_0 (s : Sys) (k wl : Nat) (t0 t1 t2 t3 t4 t5 t6 t7 t8 t9 t10 t11 t12 : V) (h : Hp) : runK (xX s 90 wl k false) (bodyK s.P Try.f90) xk90_0 (.exit 0) ⟨[t0, t1, t2, t3, t4, t5, t6, t7, t8, t9, t10, t11, t12], h⟩ =
  some (t3, h) :=
  (rt_block_eq (go_seq (go_reg0
  (go_op0 rfl rfl (st_id (v := t3) (H := h) (by kernel_rfl)
  (go_op0 rfl rfl (st_id (v := t3) (H := h) (by kernel_rfl)
  (go_end0 (by kernel_rfl)
  (go_ret (by kernel_rfl))))))))))
theorem xk90_0_ret (cx : Cx) (K : Out → St → Option (V × Hp)) (s : St) : runK cx K xk90_0 .ret s = K .ret s := by kernel_rfl
-- names: xb90, xz90, xr90_0, xj90_0, xk90_0_ret
/-! 91 poacher/poacherref03.Top: 0 c, 1 w, 2 c, 3 w, 5 may -/
noncomputable def xg91_0 : Code := codeAt (bodyOf Try.f91) [1, 1, 0, 0]
noncomputable def xk91_0 : List Fr := [.seq (codeAt (bodyOf Try.f91) [1, 1, 0, 1]), .seq (codeAt (bodyOf Try.f91) [1, 1, 1])]
theorem xb91 (s : Sys) (k wl : Nat) (t0 t1 : V) (h : Hp) : bodyV (xX s 91 wl k false) Try.f91 [t0, t1] h =
  bp (opBox t0 h) fun v1 h2 =>
  bm (vLoad s.P 23 v1 h2) h2 fun v3 h4 =>
  bp (callV (xX s 91 wl k false) false true (.fn (.func 64) [] []) [v3] h4) fun v5 h6 =>
  bm (vUn .not v5) h6 fun v7 h8 =>
  gd v7 (
  opsP (xX s 91 wl k false) xg91_0 5 h6.length ([], []) (runK (xX s 91 wl k false) (bodyK s.P Try.f91) xk91_0) ⟨[t0, t1, v1, uu, (V.lit (Value.int .i64 0)), v5, v3, v5, v5, v7, (V.lit (Value.bool true)), uu, uu, uu, uu, uu, uu, uu, uu, uu, uu, uu, uu, uu, uu, uu, uu, uu, uu, uu], h8⟩) (
  bm (vBin s.P .lss 3 t1 (V.lit (Value.int .i64 0))) h8 fun v9 h10 =>
  opsP (xX s 91 wl k false) xg91_0 5 h6.length ([], []) (runK (xX s 91 wl k false) (bodyK s.P Try.f91) xk91_0) ⟨[t0, t1, v1, uu, (V.lit (Value.int .i64 0)), v5, v3, v5, v5, v7, (V.lit (Value.bool false)), t1, v9, uu, uu, uu, uu, uu, uu, uu, uu, uu, uu, uu, uu, uu, uu, uu, uu, uu], h10⟩) (
  opsP (xX s 91 wl k false) xg91_0 4 h6.length ([], []) (runK (xX s 91 wl k false) (bodyK s.P Try.f91) xk91_0) ⟨[t0, t1, v1, uu, (V.lit (Value.int .i64 0)), v5, v3, v5, v5, v7, v7, uu, uu, uu, uu, uu, uu, uu, uu, uu, uu, uu, uu, uu, uu, uu, uu, uu, uu, uu], h8⟩) :=
  bodyV_run rfl (go_seq (go_reg0
  (go_op0 rfl rfl (st_bp (by kernel_rfl) fun v1 h2 =>
  (go_op0 rfl rfl (st_id (v := (V.lit (Value.int .i64 0))) (H := h2) (by kernel_rfl)
  (go_end0 (by kernel_rfl)
  (go_seq (go_reg0
  (go_op0 rfl rfl (st_bm (by kernel_rfl) fun v3 h4 =>
  (go_op0 rfl rfl (st_bp (by kernel_rfl) fun v5 h6 =>
  (go_op0 rfl rfl (st_id (v := v5) (H := h6) (by kernel_rfl)
  (go_end0 (by kernel_rfl)
  (go_seq (go_seq (go_reg0
  (go_op0 rfl rfl (st_id (v := v5) (H := h6) (by kernel_rfl)
  (go_op0 rfl rfl (st_bm (by kernel_rfl) fun v7 h8 =>
  (go_op0 rfl rfl (st_id (v := v7) (H := h8) (by kernel_rfl)
  (go_gdF0 rfl rfl rfl (by kernel_rfl)
  (go_skip0 rfl rfl rfl (by kernel_rfl)
  (by kernel_rfl))
  (st_id (v := t1) (H := h8) (by kernel_rfl)
  (go_run0 rfl rfl rfl (by kernel_rfl) (st_bm (by kernel_rfl) fun v9 h10 =>
  (by kernel_rfl))))
  (by kernel_rfl)))))))))))))))))))))))))))
theorem xe91 (k wl : Nat) (t0 t1 : V) (h : Hp) : evF Try.prog xM (k + 1) wl 91 [t0, t1] h = bodyV (xX (xS k) 91 wl k false) Try.f91 [t0, t1] h := by kernel_rfl
theorem xm91_0 (s : Sys) (k wl : Nat) (m0 : Nat) (ac : List Nat × List Nat) (t0 t1 t2 t3 t4 t5 t6 t7 t8 t9 t10 t11 t12 t13 t14 t15 t16 t17 t18 t19 t20 t21 t22 t23 t24 t25 t26 t27 t28 t29 : V) (h : Hp) : opsP (xX s 91 wl k false) xg91_0 5 m0 ac (runK (xX s 91 wl k false) (bodyK s.P Try.f91) xk91_0) ⟨[t0, t1, t2, t3, t4, t5, t6, t7, t8, t9, t10, t11, t12, t13, t14, t15, t16, t17, t18, t19, t20, t21, t22, t23, t24, t25, t26, t27, t28, t29], h⟩ =
  bm (vPick t10 (V.lit (Value.bool true)) t12) h fun v11 h12 =>
  gd v11 (
  opsP (xX s 91 wl k false) xg91_0 11 m0 ac (runK (xX s 91 wl k false) (bodyK s.P Try.f91) xk91_0) ⟨[t0, t1, t2, t3, t4, t5, t6, t7, t8, t9, t10, t11, t12, v11, (V.lit (Value.bool true)), uu, uu, uu, uu, t19, t20, t21, t22, t23, t24, t25, t26, t27, t28, t29], h12⟩) (
  bm (vFieldAddr s.P 23 t2 0) h12 fun v13 h14 =>
  bm (vLoad s.P 3 v13 h14) h14 fun v15 h16 =>
  bm (vBin s.P .geq 3 t1 v15) h16 fun v17 h18 =>
  opsP (xX s 91 wl k false) xg91_0 11 m0 ac (runK (xX s 91 wl k false) (bodyK s.P Try.f91) xk91_0) ⟨[t0, t1, t2, t3, t4, t5, t6, t7, t8, t9, t10, t11, t12, v11, (V.lit (Value.bool false)), t1, v13, v15, v17, t19, t20, t21, t22, t23, t24, t25, t26, t27, t28, t29], h18⟩) (
  opsP (xX s 91 wl k false) xg91_0 8 m0 ac (runK (xX s 91 wl k false) (bodyK s.P Try.f91) xk91_0) ⟨[t0, t1, t2, t3, t4, t5, t6, t7, t8, t9, t10, t11, t12, v11, v11, uu, t16, t17, t18, t19, t20, t21, t22, t23, t24, t25, t26, t27, t28, t29], h12⟩) :=
  (go_op0 rfl rfl (st_bm (by kernel_rfl) fun v11 h12 =>
  (go_op0 rfl rfl (st_id (v := v11) (H := h12) (by kernel_rfl)
  (go_gdF0 rfl rfl rfl (by kernel_rfl)
  (go_skip0 rfl rfl rfl (by kernel_rfl)
  (go_skip0 rfl rfl rfl (by kernel_rfl)
  (go_skip0 rfl rfl rfl (by kernel_rfl)
  (by kernel_rfl))))
  (st_id (v := t1) (H := h12) (by kernel_rfl)
  (go_run0 rfl rfl rfl (by kernel_rfl) (st_bm (by kernel_rfl) fun v13 h14 =>
  (go_run0 rfl rfl rfl (by kernel_rfl) (st_bm (by kernel_rfl) fun v15 h16 =>
  (go_run0 rfl rfl rfl (by kernel_rfl) (st_bm (by kernel_rfl) fun v17 h18 =>
  (by kernel_rfl))))))))
  (by kernel_rfl))))))
theorem xm91_1 (s : Sys) (k wl : Nat) (m0 : Nat) (ac : List Nat × List Nat) (t0 t1 t2 t3 t4 t5 t6 t7 t8 t9 t10 t11 t12 t13 t14 t15 t16 t17 t18 t19 t20 t21 t22 t23 t24 t25 t26 t27 t28 t29 : V) (h : Hp) : opsP (xX s 91 wl k false) xg91_0 11 m0 ac (runK (xX s 91 wl k false) (bodyK s.P Try.f91) xk91_0) ⟨[t0, t1, t2, t3, t4, t5, t6, t7, t8, t9, t10, t11, t12, t13, t14, t15, t16, t17, t18, t19, t20, t21, t22, t23, t24, t25, t26, t27, t28, t29], h⟩ =
  bm (vPick t14 (V.lit (Value.bool true)) t18) h fun v19 h20 =>
  cnd v19 (
  some ((V.lit (Value.int .i64 (-1))), h20)) (
  bm (vFieldAddr s.P 23 t2 2) h20 fun v21 h22 =>
  bm (vLoad s.P 3 v21 h22) h22 fun v23 h24 =>
  bm (vBin s.P .mul 3 (V.lit (Value.int .i64 2)) v23) h24 fun v25 h26 =>
  bm (vBin s.P .add 3 (V.lit (Value.int .i64 6)) v25) h26 fun v27 h28 =>
  bm (vFieldAddr s.P 23 t2 1) h28 fun v29 h30 =>
  bm (vLoad s.P 3 v29 h30) h30 fun v31 h32 =>
  bm (vBin s.P .add 3 (V.lit (Value.int .i64 3)) v31) h32 fun v33 h34 =>
  bm (vBin s.P .mul 3 t1 v33) h34 fun v35 h36 =>
  bm (vBin s.P .add 3 v27 v35) h36 fun v37 h38 =>
  some (v37, h38)) :=
  (go_op0 rfl rfl (st_bm (by kernel_rfl) fun v19 h20 =>
  (go_end0 (by kernel_rfl)
  (go_cond (by kernel_rfl)
  (go_seq (go_reg0
  (go_op0 rfl rfl (st_id (v := (V.lit (Value.int .i64 (-1)))) (H := h20) (by kernel_rfl)
  (go_end0 (by kernel_rfl)
  (go_ret (rt_seq_ret (by kernel_rfl))))))))
  (go_skip (go_seq (go_reg0
  (go_op0 rfl rfl (st_bm (by kernel_rfl) fun v21 h22 =>
  (go_op0 rfl rfl (st_bm (by kernel_rfl) fun v23 h24 =>
  (go_op0 rfl rfl (st_bm (by kernel_rfl) fun v25 h26 =>
  (go_op0 rfl rfl (st_bm (by kernel_rfl) fun v27 h28 =>
  (go_op0 rfl rfl (st_id (v := t1) (H := h28) (by kernel_rfl)
  (go_op0 rfl rfl (st_bm (by kernel_rfl) fun v29 h30 =>
  (go_op0 rfl rfl (st_bm (by kernel_rfl) fun v31 h32 =>
  (go_op0 rfl rfl (st_bm (by kernel_rfl) fun v33 h34 =>
  (go_op0 rfl rfl (st_bm (by kernel_rfl) fun v35 h36 =>
  (go_op0 rfl rfl (st_bm (by kernel_rfl) fun v37 h38 =>
  (go_op0 rfl rfl (st_id (v := v37) (H := h38) (by kernel_rfl)
  (go_end0 (by kernel_rfl)
  (go_ret (by kernel_rfl))))))))))))))))))))))))))))))))
theorem xk91_0_ret (cx : Cx) (K : Out → St → Option (V × Hp)) (s : St) : runK cx K xk91_0 .ret s = K .ret s := by kernel_rfl
-- names: xb91, xm91_0, xm91_1, xk91_0_ret
end Go.Ab
