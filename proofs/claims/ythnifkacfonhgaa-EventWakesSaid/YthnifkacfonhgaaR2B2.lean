/- The program's code,point by point: printed by gen.py. -/
import Derived.Test.YthnifkacfonhgaaR2Seat
set_option linter.unusedVariables false
set_option linter.unusedSimpArgs false
set_option maxRecDepth 100000
set_option linter.unusedVariables false
namespace Go.Ab
open Go.Proofs

theorem xb51 (s : Sys) (k wl : Nat) (t0 : V) (h : Hp) : bodyV (xX s 51 wl k false) Try.f51 [t0] h =
  bm (vNil t0 h) h fun v1 h2 =>
  bm (vFieldAddr s.P 65 v1 2) h2 fun v3 h4 =>
  bm (vLoad s.P 25 v3 h4) h4 fun v5 h6 =>
  bp (callV (xX s 51 wl k false) false true (.fn (.func 34) [] []) [v5,(V.lit (Value.int .i64 2))] h6) fun v7 h8 =>
  bm (vNil t0 h8) h8 fun v9 h10 =>
  bm (vFieldAddr s.P 65 v9 0) h10 fun v11 h12 =>
  bm (vFieldAddr s.P 28 v11 4) h12 fun v13 h14 =>
  bs (vStore s.P wl 26 v13 v7 h14) fun h15 =>
  bm (vNil t0 h15) h15 fun v16 h17 =>
  bm (vFieldAddr s.P 65 v16 0) h17 fun v18 h19 =>
  bm (vFieldAddr s.P 28 v18 1) h19 fun v20 h21 =>
  bs (vStore s.P wl 3 v20 (V.lit (Value.int .i64 1)) h21) fun h22 =>
  some (.tup [],h22) :=
  bodyV_run rfl (go_seq (go_reg0
  (go_op0 rfl rfl (st_id (v := t0) (H := h) (by kernel_rfl)
  (go_op0 rfl rfl (st_id (v := t0) (H := h) (by kernel_rfl)
  (go_op0 rfl rfl (st_bm (by kernel_rfl) fun v1 h2 =>
  (go_op0 rfl rfl (st_bm (by kernel_rfl) fun v3 h4 =>
  (go_op0 rfl rfl (st_bm (by kernel_rfl) fun v5 h6 =>
  (go_op0 rfl rfl (st_bp (by kernel_rfl) fun v7 h8 =>
  (go_op0 rfl rfl (st_bm (by kernel_rfl) fun v9 h10 =>
  (go_op0 rfl rfl (st_bm (by kernel_rfl) fun v11 h12 =>
  (go_op0 rfl rfl (st_bm (by kernel_rfl) fun v13 h14 =>
  (go_op0 rfl rfl (st_bs (by kernel_rfl) fun h15 =>
  (go_end0 (by kernel_rfl)
  (go_reg0
  (go_op0 rfl rfl (st_id (v := t0) (H := h15) (by kernel_rfl)
  (go_op0 rfl rfl (st_bm (by kernel_rfl) fun v16 h17 =>
  (go_op0 rfl rfl (st_bm (by kernel_rfl) fun v18 h19 =>
  (go_op0 rfl rfl (st_bm (by kernel_rfl) fun v20 h21 =>
  (go_op0 rfl rfl (st_bs (by kernel_rfl) fun h22 =>
  (go_end0 (by kernel_rfl)
  (by kernel_rfl))))))))))))))))))))))))))))))))))))
theorem xe51 (k wl : Nat) (t0 : V) (h : Hp) : evF Try.prog xM (k + 1) wl 51 [t0] h = bodyV (xX (xS k) 51 wl k false) Try.f51 [t0] h := by kernel_rfl
-- names: xb51,
noncomputable def xg52_0 : Code := codeAt (bodyOf Try.f52) [1,1,0]
theorem xo52_2 : orderIx (opsOf xg52_0) = [0,1,2,3,4,5,6,7,8,9,10,11,12] := by kernel_rfl
theorem xo52_2a : (rgOf (opsOf xg52_0)).any = false := by kernel_rfl
theorem xo52_2r : regOk (opsOf xg52_0) = true := by kernel_rfl
theorem xb52 (s : Sys) (k wl : Nat) (t0 : V) (h : Hp) : bodyV (xX s 52 wl k false) Try.f52 [t0] h =
  bm (vNil t0 h) h fun v1 h2 =>
  bm (vFieldAddr s.P 65 v1 2) h2 fun v3 h4 =>
  bm (vLoad s.P 25 v3 h4) h4 fun v5 h6 =>
  bp (callV (xX s 52 wl k false) false true (.fn (.func 34) [] []) [v5,(V.lit (Value.int .i64 2))] h6) fun v7 h8 =>
  bm (vNil t0 h8) h8 fun v9 h10 =>
  bm (vFieldAddr s.P 65 v9 0) h10 fun v11 h12 =>
  bm (vFieldAddr s.P 28 v11 5) h12 fun v13 h14 =>
  bs (vStore s.P wl 26 v13 v7 h14) fun h15 =>
  bm (vNil t0 h15) h15 fun v16 h17 =>
  bm (vFieldAddr s.P 65 v16 0) h17 fun v18 h19 =>
  bm (vFieldAddr s.P 28 v18 1) h19 fun v20 h21 =>
  bs (vStore s.P wl 3 v20 (V.lit (Value.int .i64 2)) h21) fun h22 =>
  bm (vNil t0 h22) h22 fun v23 h24 =>
  bm (vFieldAddr s.P 65 v23 0) h24 fun v25 h26 =>
  bm (vFieldAddr s.P 28 v25 5) h26 fun v27 h28 =>
  bm (vLoad s.P 26 v27 h28) h28 fun v29 h30 =>
  bp (callV (xX s 52 wl k false) true true (.fn (.func 33) [] []) [v29] h30) fun v31 h32 =>
  stO h22.length t0 (
  bm (vNil t0 h32) h32 fun v33 h34 =>
  bm (vFieldAddr s.P 65 v33 0) h34 fun v35 h36 =>
  bm (vFieldAddr s.P 28 v35 4) h36 fun v37 h38 =>
  stO h22.length v37 (
  bm (vLoad s.P 26 v37 h38) h38 fun v39 h40 =>
  bp (callV (xX s 52 wl k false) false true (.fn (.func 33) [] []) [v39] h40) fun v41 h42 =>
  bm (vBin s.P .neq 26 v31 v41) h42 fun v43 h44 =>
  cnd v43 (
  bm (vNil t0 h44) h44 fun v45 h46 =>
  bm (vFieldAddr s.P 65 v45 0) h46 fun v47 h48 =>
  bm (vLoad s.P 28 v47 h48) h48 fun v49 h50 =>
  bp (callV (xX s 52 wl k false) false true (.fn (.func 79) [] []) [v49,(V.lit (Value.int .i64 4)),(V.lit (Value.int .u64 0))] h50) fun v51 h52 =>
  bm (vNil t0 h52) h52 fun v53 h54 =>
  bm (vFieldAddr s.P 65 v53 0) h54 fun v55 h56 =>
  bs (vStore s.P wl 28 v55 v51 h56) fun h57 =>
  some (.tup [],h57)) (
  some (.tup [],h44)))) :=
  bodyV_run rfl (go_seq (go_reg0
  (go_op0 rfl rfl (st_id (v := t0) (H := h) (by kernel_rfl)
  (go_op0 rfl rfl (st_id (v := t0) (H := h) (by kernel_rfl)
  (go_op0 rfl rfl (st_bm (by kernel_rfl) fun v1 h2 =>
  (go_op0 rfl rfl (st_bm (by kernel_rfl) fun v3 h4 =>
  (go_op0 rfl rfl (st_bm (by kernel_rfl) fun v5 h6 =>
  (go_op0 rfl rfl (st_bp (by kernel_rfl) fun v7 h8 =>
  (go_op0 rfl rfl (st_bm (by kernel_rfl) fun v9 h10 =>
  (go_op0 rfl rfl (st_bm (by kernel_rfl) fun v11 h12 =>
  (go_op0 rfl rfl (st_bm (by kernel_rfl) fun v13 h14 =>
  (go_op0 rfl rfl (st_bs (by kernel_rfl) fun h15 =>
  (go_end0 (by kernel_rfl)
  (go_seq (go_reg0
  (go_op0 rfl rfl (st_id (v := t0) (H := h15) (by kernel_rfl)
  (go_op0 rfl rfl (st_bm (by kernel_rfl) fun v16 h17 =>
  (go_op0 rfl rfl (st_bm (by kernel_rfl) fun v18 h19 =>
  (go_op0 rfl rfl (st_bm (by kernel_rfl) fun v20 h21 =>
  (go_op0 rfl rfl (st_bs (by kernel_rfl) fun h22 =>
  (go_end0 (by kernel_rfl)
  (go_seq (go_reg1 xo52_2r
  (go_op1 xo52_2 xo52_2a rfl rfl rfl (st_no (by kernel_rfl) (st_id (v := t0) (H := h22) (by kernel_rfl)
  (go_op1 xo52_2 xo52_2a rfl rfl rfl (st_no (by kernel_rfl) (st_bm (by kernel_rfl) fun v23 h24 =>
  (go_op1 xo52_2 xo52_2a rfl rfl rfl (st_no (by kernel_rfl) (st_bm (by kernel_rfl) fun v25 h26 =>
  (go_op1 xo52_2 xo52_2a rfl rfl rfl (st_no (by kernel_rfl) (st_bm (by kernel_rfl) fun v27 h28 =>
  (go_op1 xo52_2 xo52_2a rfl rfl rfl (st_no (by kernel_rfl) (st_bm (by kernel_rfl) fun v29 h30 =>
  (go_op1 xo52_2 xo52_2a rfl rfl rfl (st_no (by kernel_rfl) (st_bp (by kernel_rfl) fun v31 h32 =>
  (go_op1 xo52_2 xo52_2a rfl rfl rfl (st_no (by kernel_rfl) (st_id (v := t0) (H := h32) (by kernel_rfl)
  (go_op1 xo52_2 xo52_2a rfl rfl rfl (st_yes (by kernel_rfl) (st_bm (by kernel_rfl) fun v33 h34 =>
  (go_op1 xo52_2 xo52_2a rfl rfl rfl (st_no (by kernel_rfl) (st_bm (by kernel_rfl) fun v35 h36 =>
  (go_op1 xo52_2 xo52_2a rfl rfl rfl (st_no (by kernel_rfl) (st_bm (by kernel_rfl) fun v37 h38 =>
  (go_op1 xo52_2 xo52_2a rfl rfl rfl (st_yes (by kernel_rfl) (st_bm (by kernel_rfl) fun v39 h40 =>
  (go_op1 xo52_2 xo52_2a rfl rfl rfl (st_no (by kernel_rfl) (st_bp (by kernel_rfl) fun v41 h42 =>
  (go_op1 xo52_2 xo52_2a rfl rfl rfl (st_no (by kernel_rfl) (st_bm (by kernel_rfl) fun v43 h44 =>
  (go_end1 xo52_2 (by kernel_rfl) xo52_2a
  (go_cond (by kernel_rfl)
  (go_reg0
  (go_op0 rfl rfl (st_id (v := t0) (H := h44) (by kernel_rfl)
  (go_op0 rfl rfl (st_id (v := t0) (H := h44) (by kernel_rfl)
  (go_op0 rfl rfl (st_bm (by kernel_rfl) fun v45 h46 =>
  (go_op0 rfl rfl (st_bm (by kernel_rfl) fun v47 h48 =>
  (go_op0 rfl rfl (st_bm (by kernel_rfl) fun v49 h50 =>
  (go_op0 rfl rfl (st_bp (by kernel_rfl) fun v51 h52 =>
  (go_op0 rfl rfl (st_bm (by kernel_rfl) fun v53 h54 =>
  (go_op0 rfl rfl (st_bm (by kernel_rfl) fun v55 h56 =>
  (go_op0 rfl rfl (st_bs (by kernel_rfl) fun h57 =>
  (go_end0 (by kernel_rfl)
  (by kernel_rfl)))))))))))))))))))))
  (go_skip (by kernel_rfl)))))))))))))))))))))))))))))))))))))))))))))))))))))))))))))))))))))))))))))))))
theorem xe52 (k wl : Nat) (t0 : V) (h : Hp) : evF Try.prog xM (k + 1) wl 52 [t0] h = bodyV (xX (xS k) 52 wl k false) Try.f52 [t0] h := by kernel_rfl
-- names: xb52,
noncomputable def xg53_0 : Code := codeAt (bodyOf Try.f53) [1,1,0]
theorem xo53_2 : orderIx (opsOf xg53_0) = [0,1,2,3,4,5,6,7,8,9,10,11,12,13,14,15,16,17,18,19,20,21,22,23,24,25,26,27,28] := by kernel_rfl
theorem xo53_2a : (rgOf (opsOf xg53_0)).any = false := by kernel_rfl
theorem xo53_2r : regOk (opsOf xg53_0) = true := by kernel_rfl
theorem xb53 (s : Sys) (k wl : Nat) (t0 : V) (h : Hp) : bodyV (xX s 53 wl k false) Try.f53 [t0] h =
  bm (vNil t0 h) h fun v1 h2 =>
  bm (vFieldAddr s.P 65 v1 0) h2 fun v3 h4 =>
  bm (vFieldAddr s.P 28 v3 1) h4 fun v5 h6 =>
  bs (vStore s.P wl 3 v5 (V.lit (Value.int .i64 1)) h6) fun h7 =>
  stO h7.length t0 (
  bm (vNil t0 h7) h7 fun v8 h9 =>
  bm (vFieldAddr s.P 65 v8 2) h9 fun v10 h11 =>
  stO h7.length v10 (
  bm (vLoad s.P 25 v10 h11) h11 fun v12 h13 =>
  stO h7.length t0 (
  bm (vNil t0 h13) h13 fun v14 h15 =>
  bm (vFieldAddr s.P 65 v14 0) h15 fun v16 h17 =>
  bm (vFieldAddr s.P 28 v16 5) h17 fun v18 h19 =>
  stO h7.length v18 (
  bm (vLoad s.P 26 v18 h19) h19 fun v20 h21 =>
  bm (vNil t0 h21) h21 fun v22 h23 =>
  bm (vFieldAddr s.P 65 v22 0) h23 fun v24 h25 =>
  bm (vFieldAddr s.P 28 v24 5) h25 fun v26 h27 =>
  bm (vLoad s.P 26 v26 h27) h27 fun v28 h29 =>
  bm (vNil t0 h29) h29 fun v30 h31 =>
  bm (vFieldAddr s.P 65 v30 0) h31 fun v32 h33 =>
  bm (vFieldAddr s.P 28 v32 2) h33 fun v34 h35 =>
  bm (vLoad s.P 3 v34 h35) h35 fun v36 h37 =>
  bp (callV (xX s 53 wl k false) true true (.fn (.func 29) [] []) [v28,v36] h37) fun v38 h39 =>
  bp (callV (xX s 53 wl k false) false true (.fn (.func 78) [] []) [v12,(V.lit (Value.int .i64 2)),v20,v38] h39) fun v40 h41 =>
  bm (vExtract v40 0) h41 fun v42 h43 =>
  bm (vExtract v40 1) h43 fun v44 h45 =>
  bm (vNil t0 h45) h45 fun v46 h47 =>
  bm (vFieldAddr s.P 65 v46 2) h47 fun v48 h49 =>
  bs (vStore s.P wl 25 v48 v42 h49) fun h50 =>
  cnd v44 (
  bm (vNil t0 h50) h50 fun v51 h52 =>
  bm (vFieldAddr s.P 65 v51 0) h52 fun v53 h54 =>
  bm (vFieldAddr s.P 28 v53 1) h54 fun v55 h56 =>
  bs (vStore s.P wl 3 v55 (V.lit (Value.int .i64 3)) h56) fun h57 =>
  some (.tup [],h57)) (
  some (.tup [],h50)))))) :=
  bodyV_run rfl (go_seq (go_reg0
  (go_op0 rfl rfl (st_id (v := (V.lit (Value.bool false))) (H := h) (by kernel_rfl)
  (go_end0 (by kernel_rfl)
  (go_seq (go_reg0
  (go_op0 rfl rfl (st_id (v := t0) (H := h) (by kernel_rfl)
  (go_op0 rfl rfl (st_bm (by kernel_rfl) fun v1 h2 =>
  (go_op0 rfl rfl (st_bm (by kernel_rfl) fun v3 h4 =>
  (go_op0 rfl rfl (st_bm (by kernel_rfl) fun v5 h6 =>
  (go_op0 rfl rfl (st_bs (by kernel_rfl) fun h7 =>
  (go_end0 (by kernel_rfl)
  (go_seq (go_reg1 xo53_2r
  (go_op1 xo53_2 xo53_2a rfl rfl rfl (st_no (by kernel_rfl) (st_id (v := t0) (H := h7) (by kernel_rfl)
  (go_op1 xo53_2 xo53_2a rfl rfl rfl (st_no (by kernel_rfl) (st_id (v := t0) (H := h7) (by kernel_rfl)
  (go_op1 xo53_2 xo53_2a rfl rfl rfl (st_yes (by kernel_rfl) (st_bm (by kernel_rfl) fun v8 h9 =>
  (go_op1 xo53_2 xo53_2a rfl rfl rfl (st_no (by kernel_rfl) (st_bm (by kernel_rfl) fun v10 h11 =>
  (go_op1 xo53_2 xo53_2a rfl rfl rfl (st_yes (by kernel_rfl) (st_bm (by kernel_rfl) fun v12 h13 =>
  (go_op1 xo53_2 xo53_2a rfl rfl rfl (st_no (by kernel_rfl) (st_id (v := t0) (H := h13) (by kernel_rfl)
  (go_op1 xo53_2 xo53_2a rfl rfl rfl (st_yes (by kernel_rfl) (st_bm (by kernel_rfl) fun v14 h15 =>
  (go_op1 xo53_2 xo53_2a rfl rfl rfl (st_no (by kernel_rfl) (st_bm (by kernel_rfl) fun v16 h17 =>
  (go_op1 xo53_2 xo53_2a rfl rfl rfl (st_no (by kernel_rfl) (st_bm (by kernel_rfl) fun v18 h19 =>
  (go_op1 xo53_2 xo53_2a rfl rfl rfl (st_yes (by kernel_rfl) (st_bm (by kernel_rfl) fun v20 h21 =>
  (go_op1 xo53_2 xo53_2a rfl rfl rfl (st_no (by kernel_rfl) (st_id (v := t0) (H := h21) (by kernel_rfl)
  (go_op1 xo53_2 xo53_2a rfl rfl rfl (st_no (by kernel_rfl) (st_bm (by kernel_rfl) fun v22 h23 =>
  (go_op1 xo53_2 xo53_2a rfl rfl rfl (st_no (by kernel_rfl) (st_bm (by kernel_rfl) fun v24 h25 =>
  (go_op1 xo53_2 xo53_2a rfl rfl rfl (st_no (by kernel_rfl) (st_bm (by kernel_rfl) fun v26 h27 =>
  (go_op1 xo53_2 xo53_2a rfl rfl rfl (st_no (by kernel_rfl) (st_bm (by kernel_rfl) fun v28 h29 =>
  (go_op1 xo53_2 xo53_2a rfl rfl rfl (st_no (by kernel_rfl) (st_id (v := t0) (H := h29) (by kernel_rfl)
  (go_op1 xo53_2 xo53_2a rfl rfl rfl (st_no (by kernel_rfl) (st_bm (by kernel_rfl) fun v30 h31 =>
  (go_op1 xo53_2 xo53_2a rfl rfl rfl (st_no (by kernel_rfl) (st_bm (by kernel_rfl) fun v32 h33 =>
  (go_op1 xo53_2 xo53_2a rfl rfl rfl (st_no (by kernel_rfl) (st_bm (by kernel_rfl) fun v34 h35 =>
  (go_op1 xo53_2 xo53_2a rfl rfl rfl (st_no (by kernel_rfl) (st_bm (by kernel_rfl) fun v36 h37 =>
  (go_op1 xo53_2 xo53_2a rfl rfl rfl (st_no (by kernel_rfl) (st_bp (by kernel_rfl) fun v38 h39 =>
  (go_op1 xo53_2 xo53_2a rfl rfl rfl (st_no (by kernel_rfl) (st_bp (by kernel_rfl) fun v40 h41 =>
  (go_op1 xo53_2 xo53_2a rfl rfl rfl (st_no (by kernel_rfl) (st_id (v := v40) (H := h41) (by kernel_rfl)
  (go_op1 xo53_2 xo53_2a rfl rfl rfl (st_no (by kernel_rfl) (st_bm (by kernel_rfl) fun v42 h43 =>
  (go_op1 xo53_2 xo53_2a rfl rfl rfl (st_no (by kernel_rfl) (st_bm (by kernel_rfl) fun v44 h45 =>
  (go_op1 xo53_2 xo53_2a rfl rfl rfl (st_no (by kernel_rfl) (st_bm (by kernel_rfl) fun v46 h47 =>
  (go_op1 xo53_2 xo53_2a rfl rfl rfl (st_no (by kernel_rfl) (st_bm (by kernel_rfl) fun v48 h49 =>
  (go_op1 xo53_2 xo53_2a rfl rfl rfl (st_no (by kernel_rfl) (st_bs (by kernel_rfl) fun h50 =>
  (go_op1 xo53_2 xo53_2a rfl rfl rfl (st_no (by kernel_rfl) (st_id (v := v44) (H := h50) (by kernel_rfl)
  (go_end1 xo53_2 (by kernel_rfl) xo53_2a
  (go_seq (go_reg0
  (go_op0 rfl rfl (st_id (v := v44) (H := h50) (by kernel_rfl)
  (go_end0 (by kernel_rfl)
  (go_cond (by kernel_rfl)
  (go_reg0
  (go_op0 rfl rfl (st_id (v := t0) (H := h50) (by kernel_rfl)
  (go_op0 rfl rfl (st_bm (by kernel_rfl) fun v51 h52 =>
  (go_op0 rfl rfl (st_bm (by kernel_rfl) fun v53 h54 =>
  (go_op0 rfl rfl (st_bm (by kernel_rfl) fun v55 h56 =>
  (go_op0 rfl rfl (st_bs (by kernel_rfl) fun h57 =>
  (go_end0 (by kernel_rfl)
  (by kernel_rfl)))))))))))))
  (go_skip (by kernel_rfl))))))))))))))))))))))))))))))))))))))))))))))))))))))))))))))))))))))))))))))))))))))))))))))))))))))))))))))))))))
theorem xe53 (k wl : Nat) (t0 : V) (h : Hp) : evF Try.prog xM (k + 1) wl 53 [t0] h = bodyV (xX (xS k) 53 wl k false) Try.f53 [t0] h := by kernel_rfl
-- names: xb53,
noncomputable def xg54_0 : Code := codeAt (bodyOf Try.f54) [0]
theorem xo54_0 : orderIx (opsOf xg54_0) = [0,1,2,3,4,5,6,7,8,9,10,11,12,13,14,15,16,17,18,19] := by kernel_rfl
theorem xo54_0a : (rgOf (opsOf xg54_0)).any = false := by kernel_rfl
theorem xo54_0r : regOk (opsOf xg54_0) = true := by kernel_rfl
theorem xb54 (s : Sys) (k wl : Nat) (t0 : V) (h : Hp) : bodyV (xX s 54 wl k false) Try.f54 [t0] h =
  stO h.length t0 (
  bm (vNil t0 h) h fun v1 h2 =>
  bm (vFieldAddr s.P 65 v1 2) h2 fun v3 h4 =>
  stO h.length v3 (
  bm (vLoad s.P 25 v3 h4) h4 fun v5 h6 =>
  bm (vNil t0 h6) h6 fun v7 h8 =>
  bm (vFieldAddr s.P 65 v7 1) h8 fun v9 h10 =>
  bm (vLoad s.P 23 v9 h10) h10 fun v11 h12 =>
  bm (vNil t0 h12) h12 fun v13 h14 =>
  bm (vFieldAddr s.P 65 v13 0) h14 fun v15 h16 =>
  bm (vFieldAddr s.P 28 v15 2) h16 fun v17 h18 =>
  bm (vLoad s.P 3 v17 h18) h18 fun v19 h20 =>
  bp (callV (xX s 54 wl k false) true true (.fn (.func 30) [] []) [v11,v19] h20) fun v21 h22 =>
  bp (callV (xX s 54 wl k false) false true (.fn (.func 34) [] []) [v5,v21] h22) fun v23 h24 =>
  bm (vNil t0 h24) h24 fun v25 h26 =>
  bm (vFieldAddr s.P 65 v25 0) h26 fun v27 h28 =>
  bm (vFieldAddr s.P 28 v27 5) h28 fun v29 h30 =>
  bs (vStore s.P wl 26 v29 v23 h30) fun h31 =>
  bm (vNil t0 h31) h31 fun v32 h33 =>
  bm (vFieldAddr s.P 65 v32 0) h33 fun v34 h35 =>
  bm (vFieldAddr s.P 28 v34 5) h35 fun v36 h37 =>
  bm (vLoad s.P 26 v36 h37) h37 fun v38 h39 =>
  bm (vBin s.P .neq 26 v38 (V.lit (Value.int .u64 0))) h39 fun v40 h41 =>
  cnd v40 (
  bm (vNil t0 h41) h41 fun v42 h43 =>
  bm (vFieldAddr s.P 65 v42 0) h43 fun v44 h45 =>
  bm (vFieldAddr s.P 28 v44 1) h45 fun v46 h47 =>
  bs (vStore s.P wl 3 v46 (V.lit (Value.int .i64 4)) h47) fun h48 =>
  some (.tup [],h48)) (
  some (.tup [],h41)))) :=
  bodyV_run rfl (go_seq (go_reg1 xo54_0r
  (go_op1 xo54_0 xo54_0a rfl rfl rfl (st_no (by kernel_rfl) (st_id (v := t0) (H := h) (by kernel_rfl)
  (go_op1 xo54_0 xo54_0a rfl rfl rfl (st_no (by kernel_rfl) (st_id (v := t0) (H := h) (by kernel_rfl)
  (go_op1 xo54_0 xo54_0a rfl rfl rfl (st_yes (by kernel_rfl) (st_bm (by kernel_rfl) fun v1 h2 =>
  (go_op1 xo54_0 xo54_0a rfl rfl rfl (st_no (by kernel_rfl) (st_bm (by kernel_rfl) fun v3 h4 =>
  (go_op1 xo54_0 xo54_0a rfl rfl rfl (st_yes (by kernel_rfl) (st_bm (by kernel_rfl) fun v5 h6 =>
  (go_op1 xo54_0 xo54_0a rfl rfl rfl (st_no (by kernel_rfl) (st_id (v := t0) (H := h6) (by kernel_rfl)
  (go_op1 xo54_0 xo54_0a rfl rfl rfl (st_no (by kernel_rfl) (st_bm (by kernel_rfl) fun v7 h8 =>
  (go_op1 xo54_0 xo54_0a rfl rfl rfl (st_no (by kernel_rfl) (st_bm (by kernel_rfl) fun v9 h10 =>
  (go_op1 xo54_0 xo54_0a rfl rfl rfl (st_no (by kernel_rfl) (st_bm (by kernel_rfl) fun v11 h12 =>
  (go_op1 xo54_0 xo54_0a rfl rfl rfl (st_no (by kernel_rfl) (st_id (v := t0) (H := h12) (by kernel_rfl)
  (go_op1 xo54_0 xo54_0a rfl rfl rfl (st_no (by kernel_rfl) (st_bm (by kernel_rfl) fun v13 h14 =>
  (go_op1 xo54_0 xo54_0a rfl rfl rfl (st_no (by kernel_rfl) (st_bm (by kernel_rfl) fun v15 h16 =>
  (go_op1 xo54_0 xo54_0a rfl rfl rfl (st_no (by kernel_rfl) (st_bm (by kernel_rfl) fun v17 h18 =>
  (go_op1 xo54_0 xo54_0a rfl rfl rfl (st_no (by kernel_rfl) (st_bm (by kernel_rfl) fun v19 h20 =>
  (go_op1 xo54_0 xo54_0a rfl rfl rfl (st_no (by kernel_rfl) (st_bp (by kernel_rfl) fun v21 h22 =>
  (go_op1 xo54_0 xo54_0a rfl rfl rfl (st_no (by kernel_rfl) (st_bp (by kernel_rfl) fun v23 h24 =>
  (go_op1 xo54_0 xo54_0a rfl rfl rfl (st_no (by kernel_rfl) (st_bm (by kernel_rfl) fun v25 h26 =>
  (go_op1 xo54_0 xo54_0a rfl rfl rfl (st_no (by kernel_rfl) (st_bm (by kernel_rfl) fun v27 h28 =>
  (go_op1 xo54_0 xo54_0a rfl rfl rfl (st_no (by kernel_rfl) (st_bm (by kernel_rfl) fun v29 h30 =>
  (go_op1 xo54_0 xo54_0a rfl rfl rfl (st_no (by kernel_rfl) (st_bs (by kernel_rfl) fun h31 =>
  (go_end1 xo54_0 (by kernel_rfl) xo54_0a
  (go_seq (go_reg0
  (go_op0 rfl rfl (st_id (v := t0) (H := h31) (by kernel_rfl)
  (go_op0 rfl rfl (st_bm (by kernel_rfl) fun v32 h33 =>
  (go_op0 rfl rfl (st_bm (by kernel_rfl) fun v34 h35 =>
  (go_op0 rfl rfl (st_bm (by kernel_rfl) fun v36 h37 =>
  (go_op0 rfl rfl (st_bm (by kernel_rfl) fun v38 h39 =>
  (go_op0 rfl rfl (st_bm (by kernel_rfl) fun v40 h41 =>
  (go_end0 (by kernel_rfl)
  (go_cond (by kernel_rfl)
  (go_reg0
  (go_op0 rfl rfl (st_id (v := t0) (H := h41) (by kernel_rfl)
  (go_op0 rfl rfl (st_bm (by kernel_rfl) fun v42 h43 =>
  (go_op0 rfl rfl (st_bm (by kernel_rfl) fun v44 h45 =>
  (go_op0 rfl rfl (st_bm (by kernel_rfl) fun v46 h47 =>
  (go_op0 rfl rfl (st_bs (by kernel_rfl) fun h48 =>
  (go_end0 (by kernel_rfl)
  (by kernel_rfl)))))))))))))
  (go_skip (by kernel_rfl)))))))))))))))))))))))))))))))))))))))))))))))))))))))))))))))))))))))))))))))))
theorem xe54 (k wl : Nat) (t0 : V) (h : Hp) : evF Try.prog xM (k + 1) wl 54 [t0] h = bodyV (xX (xS k) 54 wl k false) Try.f54 [t0] h := by kernel_rfl
-- names: xb54,
noncomputable def xg55_0 : Code := codeAt (bodyOf Try.f55) [0]
theorem xo55_0 : orderIx (opsOf xg55_0) = [0,1,2,3,4,5,6,7,8,9,10,11,12,13,14,15,16,17,18] := by kernel_rfl
theorem xo55_0a : (rgOf (opsOf xg55_0)).any = false := by kernel_rfl
theorem xo55_0r : regOk (opsOf xg55_0) = true := by kernel_rfl
theorem xb55 (s : Sys) (k wl : Nat) (t0 : V) (h : Hp) : bodyV (xX s 55 wl k false) Try.f55 [t0] h =
  stO h.length t0 (
  bm (vNil t0 h) h fun v1 h2 =>
  bm (vFieldAddr s.P 65 v1 2) h2 fun v3 h4 =>
  stO h.length v3 (
  bm (vLoad s.P 25 v3 h4) h4 fun v5 h6 =>
  bm (vNil t0 h6) h6 fun v7 h8 =>
  bm (vFieldAddr s.P 65 v7 1) h8 fun v9 h10 =>
  bm (vLoad s.P 23 v9 h10) h10 fun v11 h12 =>
  bm (vNil t0 h12) h12 fun v13 h14 =>
  bm (vFieldAddr s.P 65 v13 0) h14 fun v15 h16 =>
  bm (vFieldAddr s.P 28 v15 2) h16 fun v17 h18 =>
  bm (vLoad s.P 3 v17 h18) h18 fun v19 h20 =>
  bp (callV (xX s 55 wl k false) true true (.fn (.func 30) [] []) [v11,v19] h20) fun v21 h22 =>
  bp (callV (xX s 55 wl k false) false true (.fn (.func 32) [] []) [v5,v21,(V.lit (Value.int .u64 0))] h22) fun v23 h24 =>
  bm (vNil t0 h24) h24 fun v25 h26 =>
  bm (vFieldAddr s.P 65 v25 2) h26 fun v27 h28 =>
  bs (vStore s.P wl 25 v27 v23 h28) fun h29 =>
  bm (vNil t0 h29) h29 fun v30 h31 =>
  bm (vFieldAddr s.P 65 v30 0) h31 fun v32 h33 =>
  bm (vLoad s.P 28 v32 h33) h33 fun v34 h35 =>
  bp (callV (xX s 55 wl k false) false true (.fn (.func 79) [] []) [v34,(V.lit (Value.int .i64 1)),(V.lit (Value.int .u64 0))] h35) fun v36 h37 =>
  bm (vNil t0 h37) h37 fun v38 h39 =>
  bm (vFieldAddr s.P 65 v38 0) h39 fun v40 h41 =>
  bs (vStore s.P wl 28 v40 v36 h41) fun h42 =>
  some (.tup [],h42))) :=
  bodyV_run rfl (go_seq (go_reg1 xo55_0r
  (go_op1 xo55_0 xo55_0a rfl rfl rfl (st_no (by kernel_rfl) (st_id (v := t0) (H := h) (by kernel_rfl)
  (go_op1 xo55_0 xo55_0a rfl rfl rfl (st_no (by kernel_rfl) (st_id (v := t0) (H := h) (by kernel_rfl)
  (go_op1 xo55_0 xo55_0a rfl rfl rfl (st_yes (by kernel_rfl) (st_bm (by kernel_rfl) fun v1 h2 =>
  (go_op1 xo55_0 xo55_0a rfl rfl rfl (st_no (by kernel_rfl) (st_bm (by kernel_rfl) fun v3 h4 =>
  (go_op1 xo55_0 xo55_0a rfl rfl rfl (st_yes (by kernel_rfl) (st_bm (by kernel_rfl) fun v5 h6 =>
  (go_op1 xo55_0 xo55_0a rfl rfl rfl (st_no (by kernel_rfl) (st_id (v := t0) (H := h6) (by kernel_rfl)
  (go_op1 xo55_0 xo55_0a rfl rfl rfl (st_no (by kernel_rfl) (st_bm (by kernel_rfl) fun v7 h8 =>
  (go_op1 xo55_0 xo55_0a rfl rfl rfl (st_no (by kernel_rfl) (st_bm (by kernel_rfl) fun v9 h10 =>
  (go_op1 xo55_0 xo55_0a rfl rfl rfl (st_no (by kernel_rfl) (st_bm (by kernel_rfl) fun v11 h12 =>
  (go_op1 xo55_0 xo55_0a rfl rfl rfl (st_no (by kernel_rfl) (st_id (v := t0) (H := h12) (by kernel_rfl)
  (go_op1 xo55_0 xo55_0a rfl rfl rfl (st_no (by kernel_rfl) (st_bm (by kernel_rfl) fun v13 h14 =>
  (go_op1 xo55_0 xo55_0a rfl rfl rfl (st_no (by kernel_rfl) (st_bm (by kernel_rfl) fun v15 h16 =>
  (go_op1 xo55_0 xo55_0a rfl rfl rfl (st_no (by kernel_rfl) (st_bm (by kernel_rfl) fun v17 h18 =>
  (go_op1 xo55_0 xo55_0a rfl rfl rfl (st_no (by kernel_rfl) (st_bm (by kernel_rfl) fun v19 h20 =>
  (go_op1 xo55_0 xo55_0a rfl rfl rfl (st_no (by kernel_rfl) (st_bp (by kernel_rfl) fun v21 h22 =>
  (go_op1 xo55_0 xo55_0a rfl rfl rfl (st_no (by kernel_rfl) (st_bp (by kernel_rfl) fun v23 h24 =>
  (go_op1 xo55_0 xo55_0a rfl rfl rfl (st_no (by kernel_rfl) (st_bm (by kernel_rfl) fun v25 h26 =>
  (go_op1 xo55_0 xo55_0a rfl rfl rfl (st_no (by kernel_rfl) (st_bm (by kernel_rfl) fun v27 h28 =>
  (go_op1 xo55_0 xo55_0a rfl rfl rfl (st_no (by kernel_rfl) (st_bs (by kernel_rfl) fun h29 =>
  (go_end1 xo55_0 (by kernel_rfl) xo55_0a
  (go_reg0
  (go_op0 rfl rfl (st_id (v := t0) (H := h29) (by kernel_rfl)
  (go_op0 rfl rfl (st_id (v := t0) (H := h29) (by kernel_rfl)
  (go_op0 rfl rfl (st_bm (by kernel_rfl) fun v30 h31 =>
  (go_op0 rfl rfl (st_bm (by kernel_rfl) fun v32 h33 =>
  (go_op0 rfl rfl (st_bm (by kernel_rfl) fun v34 h35 =>
  (go_op0 rfl rfl (st_bp (by kernel_rfl) fun v36 h37 =>
  (go_op0 rfl rfl (st_bm (by kernel_rfl) fun v38 h39 =>
  (go_op0 rfl rfl (st_bm (by kernel_rfl) fun v40 h41 =>
  (go_op0 rfl rfl (st_bs (by kernel_rfl) fun h42 =>
  (go_end0 (by kernel_rfl)
  (by kernel_rfl)))))))))))))))))))))))))))))))))))))))))))))))))))))))))))))))))))))))))))))))))
theorem xe55 (k wl : Nat) (t0 : V) (h : Hp) : evF Try.prog xM (k + 1) wl 55 [t0] h = bodyV (xX (xS k) 55 wl k false) Try.f55 [t0] h := by kernel_rfl
-- names: xb55,
noncomputable def xg68_0 : Code := codeAt (bodyOf Try.f68) [1,0]
noncomputable def xk68_0 : List Fr := [.seq (codeAt (bodyOf Try.f68) [1,1])]
theorem xb68 (s : Sys) (k wl : Nat) (t0 : V) (h : Hp) : bodyV (xX s 68 wl k false) Try.f68 [t0] h =
  bp (opBox t0 h) fun v1 h2 =>
  bm (vFieldAddr s.P 23 v1 0) h2 fun v3 h4 =>
  bm (vLoad s.P 3 v3 h4) h4 fun v5 h6 =>
  bp (callV (xX s 68 wl k false) false true (.fn (.func 92) [] []) [v5,(V.lit (Value.int .i64 1)),(V.lit (Value.int .i64 8))] h6) fun v7 h8 =>
  gd v7 (
  bm (vFieldAddr s.P 23 v1 1) h8 fun v9 h10 =>
  bm (vLoad s.P 3 v9 h10) h10 fun v11 h12 =>
  bp (callV (xX s 68 wl k false) false true (.fn (.func 92) [] []) [v11,(V.lit (Value.int .i64 1)),(V.lit (Value.int .i64 16))] h12) fun v13 h14 =>
  opsP (xX s 68 wl k false) xg68_0 7 h2.length ([],[]) (runK (xX s 68 wl k false) (bodyK s.P Try.f68) xk68_0) ⟨[t0,v1,(V.lit (Value.bool false)),v3,v5,v7,(V.lit (Value.bool true)),v9,v11,v13,uu,uu,uu,uu,uu,uu,uu,uu,uu,uu,uu,uu,uu,uu,uu,uu,uu,uu,uu,uu],h14⟩) (
  opsP (xX s 68 wl k false) xg68_0 7 h2.length ([],[]) (runK (xX s 68 wl k false) (bodyK s.P Try.f68) xk68_0) ⟨[t0,v1,(V.lit (Value.bool false)),v3,v5,v7,(V.lit (Value.bool false)),uu,uu,uu,uu,uu,uu,uu,uu,uu,uu,uu,uu,uu,uu,uu,uu,uu,uu,uu,uu,uu,uu,uu],h8⟩) (
  opsP (xX s 68 wl k false) xg68_0 5 h2.length ([],[]) (runK (xX s 68 wl k false) (bodyK s.P Try.f68) xk68_0) ⟨[t0,v1,(V.lit (Value.bool false)),v3,v5,v7,v7,uu,uu,uu,uu,uu,uu,uu,uu,uu,uu,uu,uu,uu,uu,uu,uu,uu,uu,uu,uu,uu,uu,uu],h8⟩) :=
  bodyV_run rfl (go_seq (go_reg0
  (go_op0 rfl rfl (st_bp (by kernel_rfl) fun v1 h2 =>
  (go_op0 rfl rfl (st_id (v := (V.lit (Value.bool false))) (H := h2) (by kernel_rfl)
  (go_end0 (by kernel_rfl)
  (go_seq (go_reg0
  (go_op0 rfl rfl (st_bm (by kernel_rfl) fun v3 h4 =>
  (go_op0 rfl rfl (st_bm (by kernel_rfl) fun v5 h6 =>
  (go_op0 rfl rfl (st_bp (by kernel_rfl) fun v7 h8 =>
  (go_op0 rfl rfl (st_id (v := v7) (H := h8) (by kernel_rfl)
  (go_gdT0 rfl rfl rfl (by kernel_rfl)
  (st_bm (by kernel_rfl) fun v9 h10 =>
  (go_run0 rfl rfl rfl (by kernel_rfl) (st_bm (by kernel_rfl) fun v11 h12 =>
  (go_run0 rfl rfl rfl (by kernel_rfl) (st_bp (by kernel_rfl) fun v13 h14 =>
  (by kernel_rfl))))))
  (go_skip0 rfl rfl rfl (by kernel_rfl)
  (go_skip0 rfl rfl rfl (by kernel_rfl)
  (by kernel_rfl)))
  (by kernel_rfl)))))))))))))))))))
theorem xe68 (k wl : Nat) (t0 : V) (h : Hp) : evF Try.prog xM (k + 1) wl 68 [t0] h = bodyV (xX (xS k) 68 wl k false) Try.f68 [t0] h := by kernel_rfl
theorem xm68_0 (s : Sys) (k wl : Nat) (m0 : Nat) (ac : List Nat × List Nat) (t0 t1 t2 t3 t4 t5 t6 t7 t8 t9 t10 t11 t12 t13 t14 t15 t16 t17 t18 t19 t20 t21 t22 t23 t24 t25 t26 t27 t28 t29 : V) (h : Hp) : opsP (xX s 68 wl k false) xg68_0 7 m0 ac (runK (xX s 68 wl k false) (bodyK s.P Try.f68) xk68_0) ⟨[t0,t1,t2,t3,t4,t5,t6,t7,t8,t9,t10,t11,t12,t13,t14,t15,t16,t17,t18,t19,t20,t21,t22,t23,t24,t25,t26,t27,t28,t29],h⟩ =
  bm (vPick t6 t9 (V.lit (Value.bool false))) h fun v15 h16 =>
  gd v15 (
  bm (vFieldAddr s.P 23 t1 1) h16 fun v17 h18 =>
  bm (vLoad s.P 3 v17 h18) h18 fun v19 h20 =>
  bm (vFieldAddr s.P 23 t1 1) h20 fun v21 h22 =>
  bm (vLoad s.P 3 v21 h22) h22 fun v23 h24 =>
  bm (vBin s.P .sub 3 v23 (V.lit (Value.int .i64 1))) h24 fun v25 h26 =>
  bm (vBin s.P .and 3 v19 v25) h26 fun v27 h28 =>
  bm (vBin s.P .eql 3 v27 (V.lit (Value.int .i64 0))) h28 fun v29 h30 =>
  opsP (xX s 68 wl k false) xg68_0 16 m0 ac (runK (xX s 68 wl k false) (bodyK s.P Try.f68) xk68_0) ⟨[t0,t1,t2,t3,t4,t5,t6,t7,t8,t9,v15,(V.lit (Value.bool true)),v17,v19,v21,v23,v25,v27,v29,t19,t20,t21,t22,t23,t24,t25,t26,t27,t28,t29],h30⟩) (
  opsP (xX s 68 wl k false) xg68_0 16 m0 ac (runK (xX s 68 wl k false) (bodyK s.P Try.f68) xk68_0) ⟨[t0,t1,t2,t3,t4,t5,t6,t7,t8,t9,v15,(V.lit (Value.bool false)),uu,uu,uu,uu,uu,uu,uu,t19,t20,t21,t22,t23,t24,t25,t26,t27,t28,t29],h16⟩) (
  opsP (xX s 68 wl k false) xg68_0 10 m0 ac (runK (xX s 68 wl k false) (bodyK s.P Try.f68) xk68_0) ⟨[t0,t1,t2,t3,t4,t5,t6,t7,t8,t9,v15,v15,uu,t13,t14,t15,t16,t17,t18,t19,t20,t21,t22,t23,t24,t25,t26,t27,t28,t29],h16⟩) :=
  (go_op0 rfl rfl (st_bm (by kernel_rfl) fun v15 h16 =>
  (go_op0 rfl rfl (st_id (v := v15) (H := h16) (by kernel_rfl)
  (go_gdT0 rfl rfl rfl (by kernel_rfl)
  (st_bm (by kernel_rfl) fun v17 h18 =>
  (go_run0 rfl rfl rfl (by kernel_rfl) (st_bm (by kernel_rfl) fun v19 h20 =>
  (go_run0 rfl rfl rfl (by kernel_rfl) (st_bm (by kernel_rfl) fun v21 h22 =>
  (go_run0 rfl rfl rfl (by kernel_rfl) (st_bm (by kernel_rfl) fun v23 h24 =>
  (go_run0 rfl rfl rfl (by kernel_rfl) (st_bm (by kernel_rfl) fun v25 h26 =>
  (go_run0 rfl rfl rfl (by kernel_rfl) (st_bm (by kernel_rfl) fun v27 h28 =>
  (go_run0 rfl rfl rfl (by kernel_rfl) (st_bm (by kernel_rfl) fun v29 h30 =>
  (by kernel_rfl))))))))))))))
  (go_skip0 rfl rfl rfl (by kernel_rfl)
  (go_skip0 rfl rfl rfl (by kernel_rfl)
  (go_skip0 rfl rfl rfl (by kernel_rfl)
  (go_skip0 rfl rfl rfl (by kernel_rfl)
  (go_skip0 rfl rfl rfl (by kernel_rfl)
  (go_skip0 rfl rfl rfl (by kernel_rfl)
  (by kernel_rfl)))))))
  (by kernel_rfl))))))
theorem xm68_1 (s : Sys) (k wl : Nat) (m0 : Nat) (ac : List Nat × List Nat) (t0 t1 t2 t3 t4 t5 t6 t7 t8 t9 t10 t11 t12 t13 t14 t15 t16 t17 t18 t19 t20 t21 t22 t23 t24 t25 t26 t27 t28 t29 : V) (h : Hp) : opsP (xX s 68 wl k false) xg68_0 16 m0 ac (runK (xX s 68 wl k false) (bodyK s.P Try.f68) xk68_0) ⟨[t0,t1,t2,t3,t4,t5,t6,t7,t8,t9,t10,t11,t12,t13,t14,t15,t16,t17,t18,t19,t20,t21,t22,t23,t24,t25,t26,t27,t28,t29],h⟩ =
  bm (vPick t11 t18 (V.lit (Value.bool false))) h fun v31 h32 =>
  gd v31 (
  bm (vFieldAddr s.P 23 t1 2) h32 fun v33 h34 =>
  bm (vLoad s.P 3 v33 h34) h34 fun v35 h36 =>
  bp (callV (xX s 68 wl k false) false true (.fn (.func 92) [] []) [v35,(V.lit (Value.int .i64 1)),(V.lit (Value.int .i64 16))] h36) fun v37 h38 =>
  opsP (xX s 68 wl k false) xg68_0 21 m0 ac (runK (xX s 68 wl k false) (bodyK s.P Try.f68) xk68_0) ⟨[t0,t1,t2,t3,t4,t5,t6,t7,t8,t9,t10,t11,t12,t13,t14,t15,t16,t17,t18,v31,(V.lit (Value.bool true)),v33,v35,v37,t24,t25,t26,t27,t28,t29],h38⟩) (
  opsP (xX s 68 wl k false) xg68_0 21 m0 ac (runK (xX s 68 wl k false) (bodyK s.P Try.f68) xk68_0) ⟨[t0,t1,t2,t3,t4,t5,t6,t7,t8,t9,t10,t11,t12,t13,t14,t15,t16,t17,t18,v31,(V.lit (Value.bool false)),uu,uu,uu,t24,t25,t26,t27,t28,t29],h32⟩) (
  opsP (xX s 68 wl k false) xg68_0 19 m0 ac (runK (xX s 68 wl k false) (bodyK s.P Try.f68) xk68_0) ⟨[t0,t1,t2,t3,t4,t5,t6,t7,t8,t9,t10,t11,t12,t13,t14,t15,t16,t17,t18,v31,v31,uu,t22,t23,t24,t25,t26,t27,t28,t29],h32⟩) :=
  (go_op0 rfl rfl (st_bm (by kernel_rfl) fun v31 h32 =>
  (go_op0 rfl rfl (st_id (v := v31) (H := h32) (by kernel_rfl)
  (go_gdT0 rfl rfl rfl (by kernel_rfl)
  (st_bm (by kernel_rfl) fun v33 h34 =>
  (go_run0 rfl rfl rfl (by kernel_rfl) (st_bm (by kernel_rfl) fun v35 h36 =>
  (go_run0 rfl rfl rfl (by kernel_rfl) (st_bp (by kernel_rfl) fun v37 h38 =>
  (by kernel_rfl))))))
  (go_skip0 rfl rfl rfl (by kernel_rfl)
  (go_skip0 rfl rfl rfl (by kernel_rfl)
  (by kernel_rfl)))
  (by kernel_rfl))))))
theorem xm68_2 (s : Sys) (k wl : Nat) (m0 : Nat) (ac : List Nat × List Nat) (t0 t1 t2 t3 t4 t5 t6 t7 t8 t9 t10 t11 t12 t13 t14 t15 t16 t17 t18 t19 t20 t21 t22 t23 t24 t25 t26 t27 t28 t29 : V) (h : Hp) : opsP (xX s 68 wl k false) xg68_0 21 m0 ac (runK (xX s 68 wl k false) (bodyK s.P Try.f68) xk68_0) ⟨[t0,t1,t2,t3,t4,t5,t6,t7,t8,t9,t10,t11,t12,t13,t14,t15,t16,t17,t18,t19,t20,t21,t22,t23,t24,t25,t26,t27,t28,t29],h⟩ =
  bm (vPick t20 t23 (V.lit (Value.bool false))) h fun v39 h40 =>
  gd v39 (
  bm (vFieldAddr s.P 23 t1 3) h40 fun v41 h42 =>
  bm (vLoad s.P 3 v41 h42) h42 fun v43 h44 =>
  bp (callV (xX s 68 wl k false) false true (.fn (.func 92) [] []) [v43,(V.lit (Value.int .i64 0)),(V.lit (Value.int .i64 4))] h44) fun v45 h46 =>
  opsP (xX s 68 wl k false) xg68_0 26 m0 ac (runK (xX s 68 wl k false) (bodyK s.P Try.f68) xk68_0) ⟨[t0,t1,t2,t3,t4,t5,t6,t7,t8,t9,t10,t11,t12,t13,t14,t15,t16,t17,t18,t19,t20,t21,t22,t23,v39,(V.lit (Value.bool true)),v41,v43,v45,t29],h46⟩) (
  opsP (xX s 68 wl k false) xg68_0 26 m0 ac (runK (xX s 68 wl k false) (bodyK s.P Try.f68) xk68_0) ⟨[t0,t1,t2,t3,t4,t5,t6,t7,t8,t9,t10,t11,t12,t13,t14,t15,t16,t17,t18,t19,t20,t21,t22,t23,v39,(V.lit (Value.bool false)),uu,uu,uu,t29],h40⟩) (
  opsP (xX s 68 wl k false) xg68_0 24 m0 ac (runK (xX s 68 wl k false) (bodyK s.P Try.f68) xk68_0) ⟨[t0,t1,t2,t3,t4,t5,t6,t7,t8,t9,t10,t11,t12,t13,t14,t15,t16,t17,t18,t19,t20,t21,t22,t23,v39,v39,uu,t27,t28,t29],h40⟩) :=
  (go_op0 rfl rfl (st_bm (by kernel_rfl) fun v39 h40 =>
  (go_op0 rfl rfl (st_id (v := v39) (H := h40) (by kernel_rfl)
  (go_gdT0 rfl rfl rfl (by kernel_rfl)
  (st_bm (by kernel_rfl) fun v41 h42 =>
  (go_run0 rfl rfl rfl (by kernel_rfl) (st_bm (by kernel_rfl) fun v43 h44 =>
  (go_run0 rfl rfl rfl (by kernel_rfl) (st_bp (by kernel_rfl) fun v45 h46 =>
  (by kernel_rfl))))))
  (go_skip0 rfl rfl rfl (by kernel_rfl)
  (go_skip0 rfl rfl rfl (by kernel_rfl)
  (by kernel_rfl)))
  (by kernel_rfl))))))
theorem xm68_3 (s : Sys) (k wl : Nat) (m0 : Nat) (ac : List Nat × List Nat) (t0 t1 t2 t3 t4 t5 t6 t7 t8 t9 t10 t11 t12 t13 t14 t15 t16 t17 t18 t19 t20 t21 t22 t23 t24 t25 t26 t27 t28 t29 : V) (h : Hp) : opsP (xX s 68 wl k false) xg68_0 26 m0 ac (runK (xX s 68 wl k false) (bodyK s.P Try.f68) xk68_0) ⟨[t0,t1,t2,t3,t4,t5,t6,t7,t8,t9,t10,t11,t12,t13,t14,t15,t16,t17,t18,t19,t20,t21,t22,t23,t24,t25,t26,t27,t28,t29],h⟩ =
  bm (vPick t25 t28 (V.lit (Value.bool false))) h fun v47 h48 =>
  some (v47,h48) :=
  (go_op0 rfl rfl (st_bm (by kernel_rfl) fun v47 h48 =>
  (go_op0 rfl rfl (st_id (v := v47) (H := h48) (by kernel_rfl)
  (go_end0 (by kernel_rfl)
  (go_ret (by kernel_rfl)))))))
theorem xk68_0_ret (cx : Cx) (K : Out → St → Option (V × Hp)) (s : St) : runK cx K xk68_0 .ret s = K .ret s := by kernel_rfl
-- names: xb68,xm68_0,xm68_1,xm68_2,xm68_3,xk68_0_ret

theorem xb69 (s : Sys) (k wl : Nat) (t0 : V) (h : Hp) : bodyV (xX s 69 wl k false) Try.f69 [t0] h =
  bp (opBox t0 h) fun v1 h2 =>
  bm (vLoad s.P 23 v1 h2) h2 fun v3 h4 =>
  bp (callV (xX s 69 wl k false) false true (.fn (.func 68) [] []) [v3] h4) fun v5 h6 =>
  bm (vUn .not v5) h6 fun v7 h8 =>
  cnd v7 (
  some ((V.lit (Value.int .i64 0)),h8)) (
  bm (vLoad s.P 23 v1 h8) h8 fun v9 h10 =>
  bm (vFieldAddr s.P 23 v1 0) h10 fun v11 h12 =>
  bm (vLoad s.P 3 v11 h12) h12 fun v13 h14 =>
  bp (callV (xX s 69 wl k false) false true (.fn (.func 72) [] []) [v9,v13] h14) fun v15 h16 =>
  some (v15,h16)) :=
  bodyV_run rfl (go_seq (go_reg0
  (go_op0 rfl rfl (st_bp (by kernel_rfl) fun v1 h2 =>
  (go_op0 rfl rfl (st_id (v := (V.lit (Value.int .i64 0))) (H := h2) (by kernel_rfl)
  (go_end0 (by kernel_rfl)
  (go_seq (go_seq (go_reg0
  (go_op0 rfl rfl (st_bm (by kernel_rfl) fun v3 h4 =>
  (go_op0 rfl rfl (st_bp (by kernel_rfl) fun v5 h6 =>
  (go_op0 rfl rfl (st_bm (by kernel_rfl) fun v7 h8 =>
  (go_end0 (by kernel_rfl)
  (go_cond (by kernel_rfl)
  (go_seq (go_reg0
  (go_op0 rfl rfl (st_id (v := (V.lit (Value.int .i64 0))) (H := h8) (by kernel_rfl)
  (go_end0 (by kernel_rfl)
  (go_ret (rt_seq_ret (by kernel_rfl))))))))
  (go_skip (go_seq (go_reg0
  (go_op0 rfl rfl (st_bm (by kernel_rfl) fun v9 h10 =>
  (go_op0 rfl rfl (st_bm (by kernel_rfl) fun v11 h12 =>
  (go_op0 rfl rfl (st_bm (by kernel_rfl) fun v13 h14 =>
  (go_op0 rfl rfl (st_bp (by kernel_rfl) fun v15 h16 =>
  (go_op0 rfl rfl (st_id (v := v15) (H := h16) (by kernel_rfl)
  (go_end0 (by kernel_rfl)
  (go_ret (by kernel_rfl))))))))))))))))))))))))))))))))))
theorem xe69 (k wl : Nat) (t0 : V) (h : Hp) : evF Try.prog xM (k + 1) wl 69 [t0] h = bodyV (xX (xS k) 69 wl k false) Try.f69 [t0] h := by kernel_rfl
-- names: xb69,
noncomputable def xg70_0 : Code := codeAt (bodyOf Try.f70) [1,0,0]
noncomputable def xk70_0 : List Fr := [.seq (codeAt (bodyOf Try.f70) [1,0,1]),.seq (codeAt (bodyOf Try.f70) [1,1])]
theorem xb70 (s : Sys) (k wl : Nat) (t0 t1 t2 : V) (h : Hp) : bodyV (xX s 70 wl k false) Try.f70 [t0,t1,t2] h =
  bp (opBox t0 h) fun v1 h2 =>
  bm (vLoad s.P 23 v1 h2) h2 fun v3 h4 =>
  bp (callV (xX s 70 wl k false) false true (.fn (.func 68) [] []) [v3] h4) fun v5 h6 =>
  bm (vUn .not v5) h6 fun v7 h8 =>
  gd v7 (
  opsP (xX s 70 wl k false) xg70_0 10 h2.length ([],[]) (runK (xX s 70 wl k false) (bodyK s.P Try.f70) xk70_0) ⟨[t0,t1,t2,v1,uu,uu,(V.lit (Value.int .i64 0)),v3,v5,v7,(V.lit (Value.bool true)),uu,uu,uu,uu,uu,uu,uu,uu,uu],h8⟩) (
  bm (vFieldAddr s.P 23 v1 0) h8 fun v9 h10 =>
  bm (vLoad s.P 3 v9 h10) h10 fun v11 h12 =>
  bm (vBin s.P .sub 3 v11 (V.lit (Value.int .i64 1))) h12 fun v13 h14 =>
  bp (callV (xX s 70 wl k false) false true (.fn (.func 92) [] []) [t1,(V.lit (Value.int .i64 0)),v13] h14) fun v15 h16 =>
  bm (vUn .not v15) h16 fun v17 h18 =>
  opsP (xX s 70 wl k false) xg70_0 10 h2.length ([],[]) (runK (xX s 70 wl k false) (bodyK s.P Try.f70) xk70_0) ⟨[t0,t1,t2,v1,uu,uu,(V.lit (Value.int .i64 0)),v3,v5,v7,(V.lit (Value.bool false)),t1,v9,v11,v13,v15,v17,uu,uu,uu],h18⟩) (
  opsP (xX s 70 wl k false) xg70_0 5 h2.length ([],[]) (runK (xX s 70 wl k false) (bodyK s.P Try.f70) xk70_0) ⟨[t0,t1,t2,v1,uu,uu,(V.lit (Value.int .i64 0)),v3,v5,v7,v7,uu,uu,uu,uu,uu,uu,uu,uu,uu],h8⟩) :=
  bodyV_run rfl (go_seq (go_reg0
  (go_op0 rfl rfl (st_bp (by kernel_rfl) fun v1 h2 =>
  (go_op0 rfl rfl (st_id (v := (V.lit (Value.int .i64 0))) (H := h2) (by kernel_rfl)
  (go_end0 (by kernel_rfl)
  (go_seq (go_seq (go_reg0
  (go_op0 rfl rfl (st_bm (by kernel_rfl) fun v3 h4 =>
  (go_op0 rfl rfl (st_bp (by kernel_rfl) fun v5 h6 =>
  (go_op0 rfl rfl (st_bm (by kernel_rfl) fun v7 h8 =>
  (go_op0 rfl rfl (st_id (v := v7) (H := h8) (by kernel_rfl)
  (go_gdF0 rfl rfl rfl (by kernel_rfl)
  (go_skip0 rfl rfl rfl (by kernel_rfl)
  (go_skip0 rfl rfl rfl (by kernel_rfl)
  (go_skip0 rfl rfl rfl (by kernel_rfl)
  (go_skip0 rfl rfl rfl (by kernel_rfl)
  (go_skip0 rfl rfl rfl (by kernel_rfl)
  (by kernel_rfl))))))
  (st_id (v := t1) (H := h8) (by kernel_rfl)
  (go_run0 rfl rfl rfl (by kernel_rfl) (st_bm (by kernel_rfl) fun v9 h10 =>
  (go_run0 rfl rfl rfl (by kernel_rfl) (st_bm (by kernel_rfl) fun v11 h12 =>
  (go_run0 rfl rfl rfl (by kernel_rfl) (st_bm (by kernel_rfl) fun v13 h14 =>
  (go_run0 rfl rfl rfl (by kernel_rfl) (st_bp (by kernel_rfl) fun v15 h16 =>
  (go_run0 rfl rfl rfl (by kernel_rfl) (st_bm (by kernel_rfl) fun v17 h18 =>
  (by kernel_rfl))))))))))))
  (by kernel_rfl))))))))))))))))))))
theorem xe70 (k wl : Nat) (t0 t1 t2 : V) (h : Hp) : evF Try.prog xM (k + 1) wl 70 [t0,t1,t2] h = bodyV (xX (xS k) 70 wl k false) Try.f70 [t0,t1,t2] h := by kernel_rfl
theorem xm70_0 (s : Sys) (k wl : Nat) (m0 : Nat) (ac : List Nat × List Nat) (t0 t1 t2 t3 t4 t5 t6 t7 t8 t9 t10 t11 t12 t13 t14 t15 t16 t17 t18 t19 : V) (h : Hp) : opsP (xX s 70 wl k false) xg70_0 10 m0 ac (runK (xX s 70 wl k false) (bodyK s.P Try.f70) xk70_0) ⟨[t0,t1,t2,t3,t4,t5,t6,t7,t8,t9,t10,t11,t12,t13,t14,t15,t16,t17,t18,t19],h⟩ =
  bm (vPick t10 (V.lit (Value.bool true)) t16) h fun v19 h20 =>
  cnd v19 (
  some ((V.lit (Value.int .i64 (-1))),h20)) (
  bp (callV (xX s 70 wl k false) false true t2 [] h20) fun v21 h22 =>
  some (v21,h22)) :=
  (go_op0 rfl rfl (st_bm (by kernel_rfl) fun v19 h20 =>
  (go_end0 (by kernel_rfl)
  (go_cond (by kernel_rfl)
  (go_seq (go_reg0
  (go_op0 rfl rfl (st_id (v := (V.lit (Value.int .i64 (-1)))) (H := h20) (by kernel_rfl)
  (go_end0 (by kernel_rfl)
  (go_ret (rt_seq_ret (by kernel_rfl))))))))
  (go_skip (go_seq (go_reg0
  (go_op0 rfl rfl (st_id (v := t2) (H := h20) (by kernel_rfl)
  (go_op0 rfl rfl (st_bp (by kernel_rfl) fun v21 h22 =>
  (go_op0 rfl rfl (st_id (v := v21) (H := h22) (by kernel_rfl)
  (go_end0 (by kernel_rfl)
  (go_ret (by kernel_rfl))))))))))))))))
theorem xk70_0_ret (cx : Cx) (K : Out → St → Option (V × Hp)) (s : St) : runK cx K xk70_0 .ret s = K .ret s := by kernel_rfl
-- names: xb70,xm70_0,xk70_0_ret

theorem xb71 (s : Sys) (k wl : Nat) (t0 t1 : V) (h : Hp) : bodyV (xX s 71 wl k false) Try.f71 [t0,t1] h =
  bm (vLoad s.P 23 t0 h) h fun v1 h2 =>
  bm (vLoad s.P 3 t1 h2) h2 fun v3 h4 =>
  bp (callV (xX s 71 wl k false) false true (.fn (.func 72) [] []) [v1,v3] h4) fun v5 h6 =>
  bm (vBin s.P .add 3 v5 (V.lit (Value.int .i64 2))) h6 fun v7 h8 =>
  some (v7,h8) :=
  bodyV_run rfl (go_seq (go_reg0
  (go_op0 rfl rfl (st_id (v := (V.lit (Value.int .i64 0))) (H := h) (by kernel_rfl)
  (go_end0 (by kernel_rfl)
  (go_seq (go_reg0
  (go_op0 rfl rfl (st_bm (by kernel_rfl) fun v1 h2 =>
  (go_op0 rfl rfl (st_bm (by kernel_rfl) fun v3 h4 =>
  (go_op0 rfl rfl (st_bp (by kernel_rfl) fun v5 h6 =>
  (go_op0 rfl rfl (st_bm (by kernel_rfl) fun v7 h8 =>
  (go_op0 rfl rfl (st_id (v := v7) (H := h8) (by kernel_rfl)
  (go_end0 (by kernel_rfl)
  (go_ret (by kernel_rfl))))))))))))))))))))
theorem xe71 (k wl : Nat) (t0 t1 : V) (h : Hp) : evF Try.prog xM (k + 1) wl 71 [t0,t1] h = bodyV (xX (xS k) 71 wl k false) Try.f71 [t0,t1] h := by kernel_rfl
-- names: xb71,

theorem xb72 (s : Sys) (k wl : Nat) (t0 t1 : V) (h : Hp) : bodyV (xX s 72 wl k false) Try.f72 [t0,t1] h =
  bp (opBox t0 h) fun v1 h2 =>
  bm (vFieldAddr s.P 23 v1 2) h2 fun v3 h4 =>
  bm (vLoad s.P 3 v3 h4) h4 fun v5 h6 =>
  bm (vBin s.P .mul 3 (V.lit (Value.int .i64 2)) v5) h6 fun v7 h8 =>
  bm (vBin s.P .add 3 (V.lit (Value.int .i64 6)) v7) h8 fun v9 h10 =>
  bm (vFieldAddr s.P 23 v1 1) h10 fun v11 h12 =>
  bm (vLoad s.P 3 v11 h12) h12 fun v13 h14 =>
  bm (vBin s.P .add 3 (V.lit (Value.int .i64 3)) v13) h14 fun v15 h16 =>
  bm (vBin s.P .mul 3 t1 v15) h16 fun v17 h18 =>
  bm (vBin s.P .add 3 v9 v17) h18 fun v19 h20 =>
  some (v19,h20) :=
  bodyV_run rfl (go_seq (go_reg0
  (go_op0 rfl rfl (st_bp (by kernel_rfl) fun v1 h2 =>
  (go_op0 rfl rfl (st_id (v := (V.lit (Value.int .i64 0))) (H := h2) (by kernel_rfl)
  (go_end0 (by kernel_rfl)
  (go_seq (go_reg0
  (go_op0 rfl rfl (st_bm (by kernel_rfl) fun v3 h4 =>
  (go_op0 rfl rfl (st_bm (by kernel_rfl) fun v5 h6 =>
  (go_op0 rfl rfl (st_bm (by kernel_rfl) fun v7 h8 =>
  (go_op0 rfl rfl (st_bm (by kernel_rfl) fun v9 h10 =>
  (go_op0 rfl rfl (st_id (v := t1) (H := h10) (by kernel_rfl)
  (go_op0 rfl rfl (st_bm (by kernel_rfl) fun v11 h12 =>
  (go_op0 rfl rfl (st_bm (by kernel_rfl) fun v13 h14 =>
  (go_op0 rfl rfl (st_bm (by kernel_rfl) fun v15 h16 =>
  (go_op0 rfl rfl (st_bm (by kernel_rfl) fun v17 h18 =>
  (go_op0 rfl rfl (st_bm (by kernel_rfl) fun v19 h20 =>
  (go_op0 rfl rfl (st_id (v := v19) (H := h20) (by kernel_rfl)
  (go_end0 (by kernel_rfl)
  (go_ret (by kernel_rfl))))))))))))))))))))))))))))))))))
theorem xe72 (k wl : Nat) (t0 t1 : V) (h : Hp) : evF Try.prog xM (k + 1) wl 72 [t0,t1] h = bodyV (xX (xS k) 72 wl k false) Try.f72 [t0,t1] h := by kernel_rfl
-- names: xb72,
noncomputable def xg73_0 : Code := codeAt (bodyOf Try.f73) [1,1,1,1,0]
theorem xo73_5 : orderIx (opsOf xg73_0) = [0,1,2,3,4,5,6] := by kernel_rfl
theorem xo73_5a : (rgOf (opsOf xg73_0)).any = false := by kernel_rfl
theorem xo73_5r : regOk (opsOf xg73_0) = true := by kernel_rfl
theorem xb73 (s : Sys) (k wl : Nat) (t0 t1 t2 : V) (h : Hp) : bodyV (xX s 73 wl k false) Try.f73 [t0,t1,t2] h =
  bp (some (.own h.length 0 0,h ++ [.rows 0 [] 0 true])) fun v1 h2 =>
  bp (callV (xX s 73 wl k false) false true (.fn (.func 50) [] []) [t0] h2) fun v3 h4 =>
  bp (callV (xX s 73 wl k false) false true (.fn (.func 75) [] []) [t0,t1] h4) fun v5 h6 =>
  bm (vUn .not v5) h6 fun v7 h8 =>
  cnd v7 (
  some (.tup [v3,(V.lit (Value.int .u64 0))],h8)) (
  bm (vIndexAddr s.P 25 t0 t1 h8) h8 fun v9 h10 =>
  bm (vLoad s.P 26 v9 h10) h10 fun v11 h12 =>
  bp (callV (xX s 73 wl k false) false true t2 [v11] h12) fun v13 h14 =>
  bm (vIndexAddr s.P 25 v3 t1 h14) h14 fun v15 h16 =>
  bs (vStore s.P wl 26 v15 v13 h16) fun h17 =>
  bm (vIndexAddr s.P 25 t0 t1 h17) h17 fun v18 h19 =>
  bm (vLoad s.P 26 v18 h19) h19 fun v20 h21 =>
  some (.tup [v3,v20],h21)) :=
  bodyV_run rfl (go_seq (go_reg0
  (go_op0 rfl rfl (st_bp (by kernel_rfl) fun v1 h2 =>
  (go_op0 rfl rfl (st_id (v := (V.lit (Value.int .u64 0))) (H := h2) (by kernel_rfl)
  (go_end0 (by kernel_rfl)
  (go_seq (go_reg0
  (go_op0 rfl rfl (st_id (v := t0) (H := h2) (by kernel_rfl)
  (go_op0 rfl rfl (st_bp (by kernel_rfl) fun v3 h4 =>
  (go_op0 rfl rfl (st_id (v := v3) (H := h4) (by kernel_rfl)
  (go_end0 (by kernel_rfl)
  (go_seq (go_seq (go_reg0
  (go_op0 rfl rfl (st_id (v := t0) (H := h4) (by kernel_rfl)
  (go_op0 rfl rfl (st_id (v := t1) (H := h4) (by kernel_rfl)
  (go_op0 rfl rfl (st_bp (by kernel_rfl) fun v5 h6 =>
  (go_op0 rfl rfl (st_bm (by kernel_rfl) fun v7 h8 =>
  (go_end0 (by kernel_rfl)
  (go_cond (by kernel_rfl)
  (go_seq (go_reg0
  (go_op0 rfl rfl (st_id (v := v3) (H := h8) (by kernel_rfl)
  (go_op0 rfl rfl (st_id (v := v3) (H := h8) (by kernel_rfl)
  (go_op0 rfl rfl (st_id (v := (V.lit (Value.int .u64 0))) (H := h8) (by kernel_rfl)
  (go_end0 (by kernel_rfl)
  (go_ret (rt_seq_ret (by kernel_rfl))))))))))))
  (go_skip (go_seq (go_reg0
  (go_op0 rfl rfl (st_id (v := v3) (H := h8) (by kernel_rfl)
  (go_op0 rfl rfl (st_id (v := t1) (H := h8) (by kernel_rfl)
  (go_op0 rfl rfl (st_id (v := t2) (H := h8) (by kernel_rfl)
  (go_op0 rfl rfl (st_id (v := t0) (H := h8) (by kernel_rfl)
  (go_op0 rfl rfl (st_id (v := t1) (H := h8) (by kernel_rfl)
  (go_op0 rfl rfl (st_bm (by kernel_rfl) fun v9 h10 =>
  (go_op0 rfl rfl (st_bm (by kernel_rfl) fun v11 h12 =>
  (go_op0 rfl rfl (st_bp (by kernel_rfl) fun v13 h14 =>
  (go_op0 rfl rfl (st_bm (by kernel_rfl) fun v15 h16 =>
  (go_op0 rfl rfl (st_bs (by kernel_rfl) fun h17 =>
  (go_end0 (by kernel_rfl)
  (go_seq (go_reg1 xo73_5r
  (go_op1 xo73_5 xo73_5a rfl rfl rfl (st_no (by kernel_rfl) (st_id (v := v3) (H := h17) (by kernel_rfl)
  (go_op1 xo73_5 xo73_5a rfl rfl rfl (st_no (by kernel_rfl) (st_id (v := t0) (H := h17) (by kernel_rfl)
  (go_op1 xo73_5 xo73_5a rfl rfl rfl (st_no (by kernel_rfl) (st_id (v := t1) (H := h17) (by kernel_rfl)
  (go_op1 xo73_5 xo73_5a rfl rfl rfl (st_no (by kernel_rfl) (st_bm (by kernel_rfl) fun v18 h19 =>
  (go_op1 xo73_5 xo73_5a rfl rfl rfl (st_no (by kernel_rfl) (st_bm (by kernel_rfl) fun v20 h21 =>
  (go_op1 xo73_5 xo73_5a rfl rfl rfl (st_no (by kernel_rfl) (st_id (v := v3) (H := h21) (by kernel_rfl)
  (go_op1 xo73_5 xo73_5a rfl rfl rfl (st_no (by kernel_rfl) (st_id (v := v20) (H := h21) (by kernel_rfl)
  (go_end1 xo73_5 (by kernel_rfl) xo73_5a
  (go_ret (by kernel_rfl)))))))))))))))))))))))))))))))))))))))))))))))))))))))))))))))))))))))))))))))
theorem xe73 (k wl : Nat) (t0 t1 t2 : V) (h : Hp) : evF Try.prog xM (k + 1) wl 73 [t0,t1,t2] h = bodyV (xX (xS k) 73 wl k false) Try.f73 [t0,t1,t2] h := by kernel_rfl
-- names: xb73,

theorem xb74 (s : Sys) (k wl : Nat) (t0 t1 : V) (h : Hp) : bodyV (xX s 74 wl k false) Try.f74 [t0,t1] h =
  bm (vLoad s.P 26 t1 h) h fun v1 h2 =>
  some (v1,h2) :=
  bodyV_run rfl (go_seq (go_reg0
  (go_op0 rfl rfl (st_id (v := (V.lit (Value.int .u64 0))) (H := h) (by kernel_rfl)
  (go_end0 (by kernel_rfl)
  (go_seq (go_reg0
  (go_op0 rfl rfl (st_bm (by kernel_rfl) fun v1 h2 =>
  (go_op0 rfl rfl (st_id (v := v1) (H := h2) (by kernel_rfl)
  (go_end0 (by kernel_rfl)
  (go_ret (by kernel_rfl))))))))))))))
theorem xe74 (k wl : Nat) (t0 t1 : V) (h : Hp) : evF Try.prog xM (k + 1) wl 74 [t0,t1] h = bodyV (xX (xS k) 74 wl k false) Try.f74 [t0,t1] h := by kernel_rfl
-- names: xb74,
noncomputable def xg75_0 : Code := codeAt (bodyOf Try.f75) [1,0]
noncomputable def xk75_0 : List Fr := [.seq (codeAt (bodyOf Try.f75) [1,1])]
theorem xb75 (s : Sys) (k wl : Nat) (t0 t1 : V) (h : Hp) : bodyV (xX s 75 wl k false) Try.f75 [t0,t1] h =
  bm (vBin s.P .geq 3 t1 (V.lit (Value.int .i64 0))) h fun v1 h2 =>
  gd v1 (
  bp (opLen s.P 25 t0 h2) fun v3 h4 =>
  bm (vBin s.P .lss 3 t1 v3) h4 fun v5 h6 =>
  opsP (xX s 75 wl k false) xg75_0 7 h.length ([],[]) (runK (xX s 75 wl k false) (bodyK s.P Try.f75) xk75_0) ⟨[t0,t1,uu,uu,(V.lit (Value.bool false)),t1,v1,(V.lit (Value.bool true)),t1,t0,v3,v5,uu],h6⟩) (
  opsP (xX s 75 wl k false) xg75_0 7 h.length ([],[]) (runK (xX s 75 wl k false) (bodyK s.P Try.f75) xk75_0) ⟨[t0,t1,uu,uu,(V.lit (Value.bool false)),t1,v1,(V.lit (Value.bool false)),uu,uu,uu,uu,uu],h2⟩) (
  opsP (xX s 75 wl k false) xg75_0 4 h.length ([],[]) (runK (xX s 75 wl k false) (bodyK s.P Try.f75) xk75_0) ⟨[t0,t1,uu,uu,(V.lit (Value.bool false)),t1,v1,v1,uu,uu,uu,uu,uu],h2⟩) :=
  bodyV_run rfl (go_seq (go_reg0
  (go_op0 rfl rfl (st_id (v := (V.lit (Value.bool false))) (H := h) (by kernel_rfl)
  (go_end0 (by kernel_rfl)
  (go_seq (go_reg0
  (go_op0 rfl rfl (st_id (v := t1) (H := h) (by kernel_rfl)
  (go_op0 rfl rfl (st_bm (by kernel_rfl) fun v1 h2 =>
  (go_op0 rfl rfl (st_id (v := v1) (H := h2) (by kernel_rfl)
  (go_gdT0 rfl rfl rfl (by kernel_rfl)
  (st_id (v := t1) (H := h2) (by kernel_rfl)
  (go_run0 rfl rfl rfl (by kernel_rfl) (st_id (v := t0) (H := h2) (by kernel_rfl)
  (go_run0 rfl rfl rfl (by kernel_rfl) (st_bp (by kernel_rfl) fun v3 h4 =>
  (go_run0 rfl rfl rfl (by kernel_rfl) (st_bm (by kernel_rfl) fun v5 h6 =>
  (by kernel_rfl))))))))
  (go_skip0 rfl rfl rfl (by kernel_rfl)
  (go_skip0 rfl rfl rfl (by kernel_rfl)
  (go_skip0 rfl rfl rfl (by kernel_rfl)
  (by kernel_rfl))))
  (by kernel_rfl)))))))))))))))
theorem xe75 (k wl : Nat) (t0 t1 : V) (h : Hp) : evF Try.prog xM (k + 1) wl 75 [t0,t1] h = bodyV (xX (xS k) 75 wl k false) Try.f75 [t0,t1] h := by kernel_rfl
theorem xm75_0 (s : Sys) (k wl : Nat) (m0 : Nat) (ac : List Nat × List Nat) (t0 t1 t2 t3 t4 t5 t6 t7 t8 t9 t10 t11 t12 : V) (h : Hp) : opsP (xX s 75 wl k false) xg75_0 7 m0 ac (runK (xX s 75 wl k false) (bodyK s.P Try.f75) xk75_0) ⟨[t0,t1,t2,t3,t4,t5,t6,t7,t8,t9,t10,t11,t12],h⟩ =
  bm (vPick t7 t11 (V.lit (Value.bool false))) h fun v7 h8 =>
  some (v7,h8) :=
  (go_op0 rfl rfl (st_bm (by kernel_rfl) fun v7 h8 =>
  (go_op0 rfl rfl (st_id (v := v7) (H := h8) (by kernel_rfl)
  (go_end0 (by kernel_rfl)
  (go_ret (by kernel_rfl)))))))
theorem xk75_0_ret (cx : Cx) (K : Out → St → Option (V × Hp)) (s : St) : runK cx K xk75_0 .ret s = K .ret s := by kernel_rfl
-- names: xb75,xm75_0,xk75_0_ret

theorem xb76 (s : Sys) (k wl : Nat) (t0 t1 : V) (h : Hp) : bodyV (xX s 76 wl k false) Try.f76 [t0,t1] h =
  bm (vBin s.P .shl 26 t0 (V.lit (Value.int .u64 16))) h fun v1 h2 =>
  bm (vBin s.P .and 26 t1 (V.lit (Value.int .u64 65535))) h2 fun v3 h4 =>
  bm (vBin s.P .or 26 v1 v3) h4 fun v5 h6 =>
  some (v5,h6) :=
  bodyV_run rfl (go_seq (go_reg0
  (go_op0 rfl rfl (st_id (v := (V.lit (Value.int .u64 0))) (H := h) (by kernel_rfl)
  (go_end0 (by kernel_rfl)
  (go_seq (go_reg0
  (go_op0 rfl rfl (st_id (v := t0) (H := h) (by kernel_rfl)
  (go_op0 rfl rfl (st_bm (by kernel_rfl) fun v1 h2 =>
  (go_op0 rfl rfl (st_id (v := t1) (H := h2) (by kernel_rfl)
  (go_op0 rfl rfl (st_bm (by kernel_rfl) fun v3 h4 =>
  (go_op0 rfl rfl (st_bm (by kernel_rfl) fun v5 h6 =>
  (go_op0 rfl rfl (st_id (v := v5) (H := h6) (by kernel_rfl)
  (go_end0 (by kernel_rfl)
  (go_ret (by kernel_rfl))))))))))))))))))))))
theorem xe76 (k wl : Nat) (t0 t1 : V) (h : Hp) : evF Try.prog xM (k + 1) wl 76 [t0,t1] h = bodyV (xX (xS k) 76 wl k false) Try.f76 [t0,t1] h := by kernel_rfl
-- names: xb76,

theorem xb77 (s : Sys) (k wl : Nat) (h : Hp) : bodyV (xX s 77 wl k false) Try.f77 [] h =
  bp (some (.map h.length,h ++ [.map []])) fun v1 h2 =>
  bs (vInsert s.P wl 83 v1 (V.lit (Value.int .i64 6)) (.fn (.func 93) [] []) h2) fun h3 =>
  bs (vInsert s.P wl 83 v1 (V.lit (Value.int .i64 7)) (.fn (.func 95) [] []) h3) fun h4 =>
  some (v1,h4) :=
  bodyV_run rfl (go_seq (go_reg0
  (go_op0 rfl rfl (st_id (v := (constV (Value.map none))) (H := h) (by kernel_rfl)
  (go_end0 (by kernel_rfl)
  (go_seq (go_reg0
  (go_op0 rfl rfl (st_bp (by kernel_rfl) fun v1 h2 =>
  (go_op0 rfl rfl (st_bs (by kernel_rfl) fun h3 =>
  (go_op0 rfl rfl (st_bs (by kernel_rfl) fun h4 =>
  (go_op0 rfl rfl (st_id (v := v1) (H := h4) (by kernel_rfl)
  (go_op0 rfl rfl (st_id (v := v1) (H := h4) (by kernel_rfl)
  (go_end0 (by kernel_rfl)
  (go_ret (by kernel_rfl))))))))))))))))))))
theorem xe77 (k wl : Nat) (h : Hp) : evF Try.prog xM (k + 1) wl 77 [] h = bodyV (xX (xS k) 77 wl k false) Try.f77 [] h := by kernel_rfl
-- names: xb77,
end Go.Ab
