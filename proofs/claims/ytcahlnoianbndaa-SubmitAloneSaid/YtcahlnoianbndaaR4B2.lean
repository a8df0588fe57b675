/- The program's code,point by point: printed by gen.py. -/
import Derived.Test.YtcahlnoianbndaaR4Seat
set_option linter.unusedVariables false
set_option linter.unusedSimpArgs false
set_option maxRecDepth 100000
set_option linter.unusedVariables false
namespace Go.Ab
open Go.Proofs
variable (t0 t1 t2 t3 t4 t5 t6 t7 t8 t9 ta tb tc td te tf tg th ti tj tk tl tm tn tp tq tr ts tt tu tv tw tx ty tz tA tB tC tD tE tF tG tH tI tJ tK tL tM tN tO tP tQ tR tS : V)
noncomputable def xg44_0 : Code := codeAt (bodyOf Try.f44) [1,0]
noncomputable def xk44_0 : List Fr := [.seq (codeAt (bodyOf Try.f44) [1,1,1,1])]
noncomputable def xg44_1 : Code := codeAt (bodyOf Try.f44) [1,1,1,1,0]
theorem xo44_1 : orderIx (opsOf xg44_0) = [0,1,2,3,4,5,6] := by kernel_rfl
theorem xo44_1a : (rgOf (opsOf xg44_0)).any = false := by kernel_rfl
theorem xo44_1r : regOk (opsOf xg44_0) = true := by kernel_rfl
theorem xo44_5 : orderIx (opsOf xg44_1) = [0,1,2,3,4,5,6,7,8,9] := by kernel_rfl
theorem xo44_5a : (rgOf (opsOf xg44_1)).any = false := by kernel_rfl
theorem xo44_5r : regOk (opsOf xg44_1) = true := by kernel_rfl
theorem xb44 (s : Sys) (k wl : Nat) (h : Hp) : bodyV (xX s 44 wl k false) Try.f44 [t0,t1,t2] h =
  bp (opBox t0 h) fun v1 h2 =>
  bp (opBox t2 h2) fun v3 h4 =>
  bp (some (.own h4.length 0 0,h4 ++ [.rows 0 [] 0 true])) fun v5 h6 =>
  bp (opAlloc s.P 30 h6) fun v7 h8 =>
  stO h8.length v3 (
  bm (vLoad s.P 30 v3 h8) h8 fun v9 h10 =>
  stO h8.length v1 (
  bm (vLoad s.P 23 v1 h10) h10 fun v11 h12 =>
  bp (callV (xX s 44 wl k false) true true (.fn (.func 21) [] []) [t1] h12) fun v13 h14 =>
  bm (vBuild s.P 80 [(0,v9),(1,v11),(2,v13)]) h14 fun v15 h16 =>
  bp (opBox v15 h16) fun v17 h18 =>
  bp (vBuildSlice s.P wl 82 5 [(0,(.fn (.func 53) [] [])),(1,(.fn (.func 54) [] [])),(2,(.fn (.func 55) [] [])),(3,(.fn (.func 56) [] [])),(4,(.fn (.func 57) [] []))] h18) fun v19 h20 =>
  bm (vLoad s.P 23 v1 h20) h20 fun v21 h22 =>
  bm (vLoad s.P 30 v3 h22) h22 fun v23 h24 =>
  bp (opLen s.P 82 v19 h24) fun v25 h26 =>
  bp (callV (xX s 44 wl k false) false true (.fn (.func 58) [] []) [v21,t1,v23,(V.lit (Value.int .i64 5)),v25] h26) fun v27 h28 =>
  cnd v27 (
  bm (vFieldAddr s.P 30 v3 1) h28 fun v29 h30 =>
  bm (vLoad s.P 3 v29 h30) h30 fun v31 h32 =>
  bm (vIndexAddr s.P 82 v19 v31 h32) h32 fun v33 h34 =>
  bm (vLoad s.P 81 v33 h34) h34 fun v35 h36 =>
  bp (callV (xX s 44 wl k false) false true v35 [v17] h36) fun v37 h38 =>
  runK (xX s 44 wl k false) (bodyK s.P Try.f44) xk44_0 .norm ⟨[t0,t1,t2,v1,uu,v3,v5,v7,v17,v19,v9,v11,t1,v13,v15,v17,v19,v21,t1,v23,v19,v25,v27,v19,v29,v31,v33,v35,v17,v37,uu,uu,uu,uu,uu,uu,uu,uu],h38⟩) (
  runK (xX s 44 wl k false) (bodyK s.P Try.f44) xk44_0 .norm ⟨[t0,t1,t2,v1,uu,v3,v5,v7,v17,v19,v9,v11,t1,v13,v15,v17,v19,v21,t1,v23,v19,v25,v27,uu,uu,uu,uu,uu,uu,uu,uu,uu,uu,uu,uu,uu,uu,uu],h28⟩))) :=
  bodyV_run rfl (go_seq (go_reg0
  (go_op0 rfl rfl (st_bp (by kernel_rfl) fun v1 h2 =>
  (go_op0 rfl rfl (st_bp (by kernel_rfl) fun v3 h4 =>
  (go_op0 rfl rfl (st_bp (by kernel_rfl) fun v5 h6 =>
  (go_op0 rfl rfl (st_bp (by kernel_rfl) fun v7 h8 =>
  (go_end0 (by kernel_rfl)
  (go_seq (go_reg1 xo44_1r
  (go_op1 xo44_1 xo44_1a rfl rfl rfl (st_yes (by kernel_rfl) (st_bm (by kernel_rfl) fun v9 h10 =>
  (go_op1 xo44_1 xo44_1a rfl rfl rfl (st_yes (by kernel_rfl) (st_bm (by kernel_rfl) fun v11 h12 =>
  (go_op1 xo44_1 xo44_1a rfl rfl rfl (st_no (by kernel_rfl) (st_id (v := t1) (H := h12) (by kernel_rfl)
  (go_op1 xo44_1 xo44_1a rfl rfl rfl (st_no (by kernel_rfl) (st_bp (by kernel_rfl) fun v13 h14 =>
  (go_op1 xo44_1 xo44_1a rfl rfl rfl (st_no (by kernel_rfl) (st_bm (by kernel_rfl) fun v15 h16 =>
  (go_op1 xo44_1 xo44_1a rfl rfl rfl (st_no (by kernel_rfl) (st_bp (by kernel_rfl) fun v17 h18 =>
  (go_op1 xo44_1 xo44_1a rfl rfl rfl (st_no (by kernel_rfl) (st_id (v := v17) (H := h18) (by kernel_rfl)
  (go_end1 xo44_1 (by kernel_rfl) xo44_1a
  (go_seq (go_reg0
  (go_op0 rfl rfl (st_bp (by kernel_rfl) fun v19 h20 =>
  (go_op0 rfl rfl (st_id (v := v19) (H := h20) (by kernel_rfl)
  (go_end0 (by kernel_rfl)
  (go_seq (go_seq (go_reg0
  (go_op0 rfl rfl (st_bm (by kernel_rfl) fun v21 h22 =>
  (go_op0 rfl rfl (st_id (v := t1) (H := h22) (by kernel_rfl)
  (go_op0 rfl rfl (st_bm (by kernel_rfl) fun v23 h24 =>
  (go_op0 rfl rfl (st_id (v := v19) (H := h24) (by kernel_rfl)
  (go_op0 rfl rfl (st_bp (by kernel_rfl) fun v25 h26 =>
  (go_op0 rfl rfl (st_bp (by kernel_rfl) fun v27 h28 =>
  (go_end0 (by kernel_rfl)
  (go_cond (by kernel_rfl)
  (go_reg0
  (go_op0 rfl rfl (st_id (v := v19) (H := h28) (by kernel_rfl)
  (go_op0 rfl rfl (st_bm (by kernel_rfl) fun v29 h30 =>
  (go_op0 rfl rfl (st_bm (by kernel_rfl) fun v31 h32 =>
  (go_op0 rfl rfl (st_bm (by kernel_rfl) fun v33 h34 =>
  (go_op0 rfl rfl (st_bm (by kernel_rfl) fun v35 h36 =>
  (go_op0 rfl rfl (st_id (v := v17) (H := h36) (by kernel_rfl)
  (go_op0 rfl rfl (st_bp (by kernel_rfl) fun v37 h38 =>
  (go_end0 (by kernel_rfl)
  (by kernel_rfl)))))))))))))))))
  (go_skip (by kernel_rfl)))))))))))))))))))))))))))))))))))))))))))))))))))))))))))))
theorem xe44 (k wl : Nat) (h : Hp) : evF Try.prog xM (k + 1) wl 44 [t0,t1,t2] h = bodyV (xX (xS k) 44 wl k false) Try.f44 [t0,t1,t2] h := by kernel_rfl
theorem xj44_0 (s : Sys) (k wl : Nat) (h : Hp) : runK (xX s 44 wl k false) (bodyK s.P Try.f44) xk44_0 .norm ⟨[t0,t1,t2,t3,t4,t5,t6,t7,t8,t9,ta,tb,tc,td,te,tf,tg,th,ti,tj,tk,tl,tm,tn,tp,tq,tr,ts,tt,tu,tv,tw,tx,ty,tz,tA,tB,tC],h⟩ =
  bm (vNil t8 h) h fun v39 h40 =>
  bm (vFieldAddr s.P 80 v39 2) h40 fun v41 h42 =>
  bm (vLoad s.P 26 v41 h42) h42 fun v43 h44 =>
  bm (vNil t8 h44) h44 fun v45 h46 =>
  bm (vFieldAddr s.P 80 v45 0) h46 fun v47 h48 =>
  bm (vLoad s.P 30 v47 h48) h48 fun v49 h50 =>
  bs (vStore s.P wl 30 t7 v49 h50) fun h51 =>
  resO [some v43,vLoad s.P 30 t7 h51] h51 :=
  (go_seq (go_reg1 xo44_5r
  (go_op1 xo44_5 xo44_5a rfl rfl rfl (st_no (by kernel_rfl) (st_id (v := t8) (H := h) (by kernel_rfl)
  (go_op1 xo44_5 xo44_5a rfl rfl rfl (st_no (by kernel_rfl) (st_bm (by kernel_rfl) fun v39 h40 =>
  (go_op1 xo44_5 xo44_5a rfl rfl rfl (st_no (by kernel_rfl) (st_bm (by kernel_rfl) fun v41 h42 =>
  (go_op1 xo44_5 xo44_5a rfl rfl rfl (st_no (by kernel_rfl) (st_bm (by kernel_rfl) fun v43 h44 =>
  (go_op1 xo44_5 xo44_5a rfl rfl rfl (st_no (by kernel_rfl) (st_id (v := t8) (H := h44) (by kernel_rfl)
  (go_op1 xo44_5 xo44_5a rfl rfl rfl (st_no (by kernel_rfl) (st_bm (by kernel_rfl) fun v45 h46 =>
  (go_op1 xo44_5 xo44_5a rfl rfl rfl (st_no (by kernel_rfl) (st_bm (by kernel_rfl) fun v47 h48 =>
  (go_op1 xo44_5 xo44_5a rfl rfl rfl (st_no (by kernel_rfl) (st_bm (by kernel_rfl) fun v49 h50 =>
  (go_op1 xo44_5 xo44_5a rfl rfl rfl (st_no (by kernel_rfl) (st_id (v := v43) (H := h50) (by kernel_rfl)
  (go_op1 xo44_5 xo44_5a rfl rfl rfl (st_no (by kernel_rfl) (st_bs (by kernel_rfl) fun h51 =>
  (go_end1 xo44_5 (by kernel_rfl) xo44_5a
  (go_ret (by kernel_rfl)))))))))))))))))))))))))))))))))))
theorem xk44_0_ret (cx : Cx) (K : Out → St → Option (V × Hp)) (s : St) : runK cx K xk44_0 .ret s = K .ret s := by kernel_rfl
-- names: xb44,xj44_0,xk44_0_ret

theorem xb53 (s : Sys) (k wl : Nat) (h : Hp) : bodyV (xX s 53 wl k false) Try.f53 [t0] h =
  bm (vNil t0 h) h fun v1 h2 =>
  bm (vFieldAddr s.P 80 v1 2) h2 fun v3 h4 =>
  bm (vLoad s.P 26 v3 h4) h4 fun v5 h6 =>
  bp (callV (xX s 53 wl k false) false true (.fn (.func 17) [] []) [v5,(V.lit (Value.int .i64 2))] h6) fun v7 h8 =>
  bm (vNil t0 h8) h8 fun v9 h10 =>
  bm (vFieldAddr s.P 80 v9 0) h10 fun v11 h12 =>
  bm (vFieldAddr s.P 30 v11 4) h12 fun v13 h14 =>
  bs (vStore s.P wl 28 v13 v7 h14) fun h15 =>
  bm (vNil t0 h15) h15 fun v16 h17 =>
  bm (vFieldAddr s.P 80 v16 0) h17 fun v18 h19 =>
  bm (vFieldAddr s.P 30 v18 1) h19 fun v20 h21 =>
  bs (vStore s.P wl 3 v20 (V.lit (Value.int .i64 1)) h21) fun h22 =>
  some (.tup [],h22) :=
  bodyV_run rfl (go_seq (go_reg0
  (go_op0 rfl rfl (st_id (v := t0) (H := h) (by kernel_rfl)
  (go_op0 rfl rfl (st_id (v := t0) (H := h) (by kernel_rfl)
  (go_op0 rfl rfl (st_bm (by kernel_rfl) fun v1 h2 =>
  (go_op0 rfl rfl (st_bm (by kernel_rfl) fun v3 h4 =>
  (go_op0 rfl rfl (st_bm (by kernel_rfl) fun v5 h6 =>
  (go_op0 rfl rfl (st_bp (by kernel_rfl) fun v7 h8 =>
  (go_op0 rfl rfl (st_bm (by kernel_rfl) fun v9 h10 =>
  (go_op0 rfl rfl (st_bm (by kernel_rfl) fun v11 h12 =>
  (go_op0 rfl rfl (st_bm (by kernel_rfl) fun v13 h14 =>
  (go_op0 rfl rfl (st_bs (by kernel_rfl) fun h15 =>
  (go_end0 (by kernel_rfl)
  (go_reg0
  (go_op0 rfl rfl (st_id (v := t0) (H := h15) (by kernel_rfl)
  (go_op0 rfl rfl (st_bm (by kernel_rfl) fun v16 h17 =>
  (go_op0 rfl rfl (st_bm (by kernel_rfl) fun v18 h19 =>
  (go_op0 rfl rfl (st_bm (by kernel_rfl) fun v20 h21 =>
  (go_op0 rfl rfl (st_bs (by kernel_rfl) fun h22 =>
  (go_end0 (by kernel_rfl)
  (by kernel_rfl))))))))))))))))))))))))))))))))))))
theorem xe53 (k wl : Nat) (h : Hp) : evF Try.prog xM (k + 1) wl 53 [t0] h = bodyV (xX (xS k) 53 wl k false) Try.f53 [t0] h := by kernel_rfl
-- names: xb53,
noncomputable def xg54_0 : Code := codeAt (bodyOf Try.f54) [1,1,0]
theorem xo54_2 : orderIx (opsOf xg54_0) = [0,1,2,3,4,5,6,7,8,9,10,11,12] := by kernel_rfl
theorem xo54_2a : (rgOf (opsOf xg54_0)).any = false := by kernel_rfl
theorem xo54_2r : regOk (opsOf xg54_0) = true := by kernel_rfl
theorem xb54 (s : Sys) (k wl : Nat) (h : Hp) : bodyV (xX s 54 wl k false) Try.f54 [t0] h =
  bm (vNil t0 h) h fun v1 h2 =>
  bm (vFieldAddr s.P 80 v1 2) h2 fun v3 h4 =>
  bm (vLoad s.P 26 v3 h4) h4 fun v5 h6 =>
  bp (callV (xX s 54 wl k false) false true (.fn (.func 17) [] []) [v5,(V.lit (Value.int .i64 2))] h6) fun v7 h8 =>
  bm (vNil t0 h8) h8 fun v9 h10 =>
  bm (vFieldAddr s.P 80 v9 0) h10 fun v11 h12 =>
  bm (vFieldAddr s.P 30 v11 5) h12 fun v13 h14 =>
  bs (vStore s.P wl 28 v13 v7 h14) fun h15 =>
  bm (vNil t0 h15) h15 fun v16 h17 =>
  bm (vFieldAddr s.P 80 v16 0) h17 fun v18 h19 =>
  bm (vFieldAddr s.P 30 v18 1) h19 fun v20 h21 =>
  bs (vStore s.P wl 3 v20 (V.lit (Value.int .i64 2)) h21) fun h22 =>
  bm (vNil t0 h22) h22 fun v23 h24 =>
  bm (vFieldAddr s.P 80 v23 0) h24 fun v25 h26 =>
  bm (vFieldAddr s.P 30 v25 5) h26 fun v27 h28 =>
  bm (vLoad s.P 28 v27 h28) h28 fun v29 h30 =>
  bp (callV (xX s 54 wl k false) true true (.fn (.func 79) [] []) [v29] h30) fun v31 h32 =>
  stO h22.length t0 (
  bm (vNil t0 h32) h32 fun v33 h34 =>
  bm (vFieldAddr s.P 80 v33 0) h34 fun v35 h36 =>
  bm (vFieldAddr s.P 30 v35 4) h36 fun v37 h38 =>
  stO h22.length v37 (
  bm (vLoad s.P 28 v37 h38) h38 fun v39 h40 =>
  bp (callV (xX s 54 wl k false) false true (.fn (.func 79) [] []) [v39] h40) fun v41 h42 =>
  bm (vBin s.P .neq 28 v31 v41) h42 fun v43 h44 =>
  cnd v43 (
  bm (vNil t0 h44) h44 fun v45 h46 =>
  bm (vFieldAddr s.P 80 v45 0) h46 fun v47 h48 =>
  bm (vLoad s.P 30 v47 h48) h48 fun v49 h50 =>
  bp (callV (xX s 54 wl k false) false true (.fn (.func 63) [] []) [v49,(V.lit (Value.int .i64 4)),(V.lit (Value.int .u64 0))] h50) fun v51 h52 =>
  bm (vNil t0 h52) h52 fun v53 h54 =>
  bm (vFieldAddr s.P 80 v53 0) h54 fun v55 h56 =>
  bs (vStore s.P wl 30 v55 v51 h56) fun h57 =>
  some (.tup [],h57)) (
  some (.tup [],h44)))) :=
  bodyV_run rfl (go_seq (go_reg0
  (go_op0 rfl rfl (st_id (v := t0) (H := h) (by kernel_rfl)
  (go_op0 rfl rfl (st_id (v := t0) (H := h) (by kernel_rfl)
  (go_op0 rfl rfl (st_bm (by kernel_rfl) fun v1 h2 =>
  (go_op0 rfl rfl (st_bm (by kernel_rfl) fun v3 h4 =>
  (go_op0 rfl rfl (st_bm (by kernel_rfl) fun v5 h6 =>
  (go_op0 rfl rfl (st_bp (by kernel_rfl) fun v7 h8 =>
  (go_op0 rfl rfl (st_bm (by kernel_rfl) fun v9 h10 =>
  (go_op0 rfl rfl (st_bm (by kernel_rfl) fun v11 h12 =>
  (go_op0 rfl rfl (st_bm (by kernel_rfl) fun v13 h14 =>
  (go_op0 rfl rfl (st_bs (by kernel_rfl) fun h15 =>
  (go_end0 (by kernel_rfl)
  (go_seq (go_reg0
  (go_op0 rfl rfl (st_id (v := t0) (H := h15) (by kernel_rfl)
  (go_op0 rfl rfl (st_bm (by kernel_rfl) fun v16 h17 =>
  (go_op0 rfl rfl (st_bm (by kernel_rfl) fun v18 h19 =>
  (go_op0 rfl rfl (st_bm (by kernel_rfl) fun v20 h21 =>
  (go_op0 rfl rfl (st_bs (by kernel_rfl) fun h22 =>
  (go_end0 (by kernel_rfl)
  (go_seq (go_reg1 xo54_2r
  (go_op1 xo54_2 xo54_2a rfl rfl rfl (st_no (by kernel_rfl) (st_id (v := t0) (H := h22) (by kernel_rfl)
  (go_op1 xo54_2 xo54_2a rfl rfl rfl (st_no (by kernel_rfl) (st_bm (by kernel_rfl) fun v23 h24 =>
  (go_op1 xo54_2 xo54_2a rfl rfl rfl (st_no (by kernel_rfl) (st_bm (by kernel_rfl) fun v25 h26 =>
  (go_op1 xo54_2 xo54_2a rfl rfl rfl (st_no (by kernel_rfl) (st_bm (by kernel_rfl) fun v27 h28 =>
  (go_op1 xo54_2 xo54_2a rfl rfl rfl (st_no (by kernel_rfl) (st_bm (by kernel_rfl) fun v29 h30 =>
  (go_op1 xo54_2 xo54_2a rfl rfl rfl (st_no (by kernel_rfl) (st_bp (by kernel_rfl) fun v31 h32 =>
  (go_op1 xo54_2 xo54_2a rfl rfl rfl (st_no (by kernel_rfl) (st_id (v := t0) (H := h32) (by kernel_rfl)
  (go_op1 xo54_2 xo54_2a rfl rfl rfl (st_yes (by kernel_rfl) (st_bm (by kernel_rfl) fun v33 h34 =>
  (go_op1 xo54_2 xo54_2a rfl rfl rfl (st_no (by kernel_rfl) (st_bm (by kernel_rfl) fun v35 h36 =>
  (go_op1 xo54_2 xo54_2a rfl rfl rfl (st_no (by kernel_rfl) (st_bm (by kernel_rfl) fun v37 h38 =>
  (go_op1 xo54_2 xo54_2a rfl rfl rfl (st_yes (by kernel_rfl) (st_bm (by kernel_rfl) fun v39 h40 =>
  (go_op1 xo54_2 xo54_2a rfl rfl rfl (st_no (by kernel_rfl) (st_bp (by kernel_rfl) fun v41 h42 =>
  (go_op1 xo54_2 xo54_2a rfl rfl rfl (st_no (by kernel_rfl) (st_bm (by kernel_rfl) fun v43 h44 =>
  (go_end1 xo54_2 (by kernel_rfl) xo54_2a
  (go_cond (by kernel_rfl)
  (go_reg0
  (go_op0 rfl rfl (st_id (v := t0) (H := h44) (by kernel_rfl)
  (go_op0 rfl rfl (st_id (v := t0) (H := h44) (by kernel_rfl)
  (go_op0 rfl rfl (st_bm (by kernel_rfl) fun v45 h46 =>
  (go_op0 rfl rfl (st_bm (by kernel_rfl) fun v47 h48 =>
  (go_op0 rfl rfl (st_bm (by kernel_rfl) fun v49 h50 =>
  (go_op0 rfl rfl (st_bp (by kernel_rfl) fun v51 h52 =>
  (go_op0 rfl rfl (st_bm (by kernel_rfl) fun v53 h54 =>
  (go_op0 rfl rfl (st_bm (by kernel_rfl) fun v55 h56 =>
  (go_op0 rfl rfl (st_bs (by kernel_rfl) fun h57 =>
  (go_end0 (by kernel_rfl)
  (by kernel_rfl)))))))))))))))))))))
  (go_skip (by kernel_rfl)))))))))))))))))))))))))))))))))))))))))))))))))))))))))))))))))))))))))))))))))
theorem xe54 (k wl : Nat) (h : Hp) : evF Try.prog xM (k + 1) wl 54 [t0] h = bodyV (xX (xS k) 54 wl k false) Try.f54 [t0] h := by kernel_rfl
-- names: xb54,
noncomputable def xg55_0 : Code := codeAt (bodyOf Try.f55) [1,1,0]
theorem xo55_2 : orderIx (opsOf xg55_0) = [0,1,2,3,4,5,6,7,8,9,10,11,12,13,14,15,16,17,18,19,20,21,22,23,24,25,26,27,28] := by kernel_rfl
theorem xo55_2a : (rgOf (opsOf xg55_0)).any = false := by kernel_rfl
theorem xo55_2r : regOk (opsOf xg55_0) = true := by kernel_rfl
theorem xb55 (s : Sys) (k wl : Nat) (h : Hp) : bodyV (xX s 55 wl k false) Try.f55 [t0] h =
  bm (vNil t0 h) h fun v1 h2 =>
  bm (vFieldAddr s.P 80 v1 0) h2 fun v3 h4 =>
  bm (vFieldAddr s.P 30 v3 1) h4 fun v5 h6 =>
  bs (vStore s.P wl 3 v5 (V.lit (Value.int .i64 1)) h6) fun h7 =>
  stO h7.length t0 (
  bm (vNil t0 h7) h7 fun v8 h9 =>
  bm (vFieldAddr s.P 80 v8 2) h9 fun v10 h11 =>
  stO h7.length v10 (
  bm (vLoad s.P 26 v10 h11) h11 fun v12 h13 =>
  stO h7.length t0 (
  bm (vNil t0 h13) h13 fun v14 h15 =>
  bm (vFieldAddr s.P 80 v14 0) h15 fun v16 h17 =>
  bm (vFieldAddr s.P 30 v16 5) h17 fun v18 h19 =>
  stO h7.length v18 (
  bm (vLoad s.P 28 v18 h19) h19 fun v20 h21 =>
  bm (vNil t0 h21) h21 fun v22 h23 =>
  bm (vFieldAddr s.P 80 v22 0) h23 fun v24 h25 =>
  bm (vFieldAddr s.P 30 v24 5) h25 fun v26 h27 =>
  bm (vLoad s.P 28 v26 h27) h27 fun v28 h29 =>
  bm (vNil t0 h29) h29 fun v30 h31 =>
  bm (vFieldAddr s.P 80 v30 0) h31 fun v32 h33 =>
  bm (vFieldAddr s.P 30 v32 2) h33 fun v34 h35 =>
  bm (vLoad s.P 3 v34 h35) h35 fun v36 h37 =>
  bp (callV (xX s 55 wl k false) true true (.fn (.func 80) [] []) [v28,v36] h37) fun v38 h39 =>
  bp (callV (xX s 55 wl k false) false true (.fn (.func 61) [] []) [v12,(V.lit (Value.int .i64 2)),v20,v38] h39) fun v40 h41 =>
  bm (vExtract v40 0) h41 fun v42 h43 =>
  bm (vExtract v40 1) h43 fun v44 h45 =>
  bm (vNil t0 h45) h45 fun v46 h47 =>
  bm (vFieldAddr s.P 80 v46 2) h47 fun v48 h49 =>
  bs (vStore s.P wl 26 v48 v42 h49) fun h50 =>
  cnd v44 (
  bm (vNil t0 h50) h50 fun v51 h52 =>
  bm (vFieldAddr s.P 80 v51 0) h52 fun v53 h54 =>
  bm (vFieldAddr s.P 30 v53 1) h54 fun v55 h56 =>
  bs (vStore s.P wl 3 v55 (V.lit (Value.int .i64 3)) h56) fun h57 =>
  some (.tup [],h57)) (
  some (.tup [],h50)))))) :=
  bodyV_run rfl (go_seq (go_reg0
  (go_op0 rfl rfl (st_id (v := (V.lit (Value.bool false))) (H := h) (by kernel_rfl)
  (go_end0 (by kernel_rfl)
  (go_seq (go_reg0
  (go_op0 rfl rfl (st_id (v := t0) (H := h) (by kernel_rfl)
  (go_op0 rfl rfl (st_bm (by kernel_rfl) fun v1 h2 =>
  (go_op0 rfl rfl (st_bm (by kernel_rfl) fun v3 h4 =>
  (go_op0 rfl rfl (st_bm (by kernel_rfl) fun v5 h6 =>
  (go_op0 rfl rfl (st_bs (by kernel_rfl) fun h7 =>
  (go_end0 (by kernel_rfl)
  (go_seq (go_reg1 xo55_2r
  (go_op1 xo55_2 xo55_2a rfl rfl rfl (st_no (by kernel_rfl) (st_id (v := t0) (H := h7) (by kernel_rfl)
  (go_op1 xo55_2 xo55_2a rfl rfl rfl (st_no (by kernel_rfl) (st_id (v := t0) (H := h7) (by kernel_rfl)
  (go_op1 xo55_2 xo55_2a rfl rfl rfl (st_yes (by kernel_rfl) (st_bm (by kernel_rfl) fun v8 h9 =>
  (go_op1 xo55_2 xo55_2a rfl rfl rfl (st_no (by kernel_rfl) (st_bm (by kernel_rfl) fun v10 h11 =>
  (go_op1 xo55_2 xo55_2a rfl rfl rfl (st_yes (by kernel_rfl) (st_bm (by kernel_rfl) fun v12 h13 =>
  (go_op1 xo55_2 xo55_2a rfl rfl rfl (st_no (by kernel_rfl) (st_id (v := t0) (H := h13) (by kernel_rfl)
  (go_op1 xo55_2 xo55_2a rfl rfl rfl (st_yes (by kernel_rfl) (st_bm (by kernel_rfl) fun v14 h15 =>
  (go_op1 xo55_2 xo55_2a rfl rfl rfl (st_no (by kernel_rfl) (st_bm (by kernel_rfl) fun v16 h17 =>
  (go_op1 xo55_2 xo55_2a rfl rfl rfl (st_no (by kernel_rfl) (st_bm (by kernel_rfl) fun v18 h19 =>
  (go_op1 xo55_2 xo55_2a rfl rfl rfl (st_yes (by kernel_rfl) (st_bm (by kernel_rfl) fun v20 h21 =>
  (go_op1 xo55_2 xo55_2a rfl rfl rfl (st_no (by kernel_rfl) (st_id (v := t0) (H := h21) (by kernel_rfl)
  (go_op1 xo55_2 xo55_2a rfl rfl rfl (st_no (by kernel_rfl) (st_bm (by kernel_rfl) fun v22 h23 =>
  (go_op1 xo55_2 xo55_2a rfl rfl rfl (st_no (by kernel_rfl) (st_bm (by kernel_rfl) fun v24 h25 =>
  (go_op1 xo55_2 xo55_2a rfl rfl rfl (st_no (by kernel_rfl) (st_bm (by kernel_rfl) fun v26 h27 =>
  (go_op1 xo55_2 xo55_2a rfl rfl rfl (st_no (by kernel_rfl) (st_bm (by kernel_rfl) fun v28 h29 =>
  (go_op1 xo55_2 xo55_2a rfl rfl rfl (st_no (by kernel_rfl) (st_id (v := t0) (H := h29) (by kernel_rfl)
  (go_op1 xo55_2 xo55_2a rfl rfl rfl (st_no (by kernel_rfl) (st_bm (by kernel_rfl) fun v30 h31 =>
  (go_op1 xo55_2 xo55_2a rfl rfl rfl (st_no (by kernel_rfl) (st_bm (by kernel_rfl) fun v32 h33 =>
  (go_op1 xo55_2 xo55_2a rfl rfl rfl (st_no (by kernel_rfl) (st_bm (by kernel_rfl) fun v34 h35 =>
  (go_op1 xo55_2 xo55_2a rfl rfl rfl (st_no (by kernel_rfl) (st_bm (by kernel_rfl) fun v36 h37 =>
  (go_op1 xo55_2 xo55_2a rfl rfl rfl (st_no (by kernel_rfl) (st_bp (by kernel_rfl) fun v38 h39 =>
  (go_op1 xo55_2 xo55_2a rfl rfl rfl (st_no (by kernel_rfl) (st_bp (by kernel_rfl) fun v40 h41 =>
  (go_op1 xo55_2 xo55_2a rfl rfl rfl (st_no (by kernel_rfl) (st_id (v := v40) (H := h41) (by kernel_rfl)
  (go_op1 xo55_2 xo55_2a rfl rfl rfl (st_no (by kernel_rfl) (st_bm (by kernel_rfl) fun v42 h43 =>
  (go_op1 xo55_2 xo55_2a rfl rfl rfl (st_no (by kernel_rfl) (st_bm (by kernel_rfl) fun v44 h45 =>
  (go_op1 xo55_2 xo55_2a rfl rfl rfl (st_no (by kernel_rfl) (st_bm (by kernel_rfl) fun v46 h47 =>
  (go_op1 xo55_2 xo55_2a rfl rfl rfl (st_no (by kernel_rfl) (st_bm (by kernel_rfl) fun v48 h49 =>
  (go_op1 xo55_2 xo55_2a rfl rfl rfl (st_no (by kernel_rfl) (st_bs (by kernel_rfl) fun h50 =>
  (go_op1 xo55_2 xo55_2a rfl rfl rfl (st_no (by kernel_rfl) (st_id (v := v44) (H := h50) (by kernel_rfl)
  (go_end1 xo55_2 (by kernel_rfl) xo55_2a
  (go_seq (go_reg0
  (go_op0 rfl rfl (st_id (v := v44) (H := h50) (by kernel_rfl)
  (go_end0 (by kernel_rfl)
  (go_cond (by kernel_rfl)
  (go_reg0
  (go_op0 rfl rfl (st_id (v := t0) (H := h50) (by kernel_rfl)
  (go_op0 rfl rfl (st_bm (by kernel_rfl) fun v51 h52 =>
  (go_op0 rfl rfl (st_bm (by kernel_rfl) fun v53 h54 =>
  (go_op0 rfl rfl (st_bm (by kernel_rfl) fun v55 h56 =>
  (go_op0 rfl rfl (st_bs (by kernel_rfl) fun h57 =>
  (go_end0 (by kernel_rfl)
  (by kernel_rfl)))))))))))))
  (go_skip (by kernel_rfl))))))))))))))))))))))))))))))))))))))))))))))))))))))))))))))))))))))))))))))))))))))))))))))))))))))))))))))))))))
theorem xe55 (k wl : Nat) (h : Hp) : evF Try.prog xM (k + 1) wl 55 [t0] h = bodyV (xX (xS k) 55 wl k false) Try.f55 [t0] h := by kernel_rfl
-- names: xb55,
noncomputable def xg56_0 : Code := codeAt (bodyOf Try.f56) [0]
theorem xo56_0 : orderIx (opsOf xg56_0) = [0,1,2,3,4,5,6,7,8,9,10,11,12,13,14,15,16,17,18,19] := by kernel_rfl
theorem xo56_0a : (rgOf (opsOf xg56_0)).any = false := by kernel_rfl
theorem xo56_0r : regOk (opsOf xg56_0) = true := by kernel_rfl
theorem xb56 (s : Sys) (k wl : Nat) (h : Hp) : bodyV (xX s 56 wl k false) Try.f56 [t0] h =
  stO h.length t0 (
  bm (vNil t0 h) h fun v1 h2 =>
  bm (vFieldAddr s.P 80 v1 2) h2 fun v3 h4 =>
  stO h.length v3 (
  bm (vLoad s.P 26 v3 h4) h4 fun v5 h6 =>
  bm (vNil t0 h6) h6 fun v7 h8 =>
  bm (vFieldAddr s.P 80 v7 1) h8 fun v9 h10 =>
  bm (vLoad s.P 23 v9 h10) h10 fun v11 h12 =>
  bm (vNil t0 h12) h12 fun v13 h14 =>
  bm (vFieldAddr s.P 80 v13 0) h14 fun v15 h16 =>
  bm (vFieldAddr s.P 30 v15 2) h16 fun v17 h18 =>
  bm (vLoad s.P 3 v17 h18) h18 fun v19 h20 =>
  bp (callV (xX s 56 wl k false) true true (.fn (.func 81) [] []) [v11,v19] h20) fun v21 h22 =>
  bp (callV (xX s 56 wl k false) false true (.fn (.func 17) [] []) [v5,v21] h22) fun v23 h24 =>
  bm (vNil t0 h24) h24 fun v25 h26 =>
  bm (vFieldAddr s.P 80 v25 0) h26 fun v27 h28 =>
  bm (vFieldAddr s.P 30 v27 5) h28 fun v29 h30 =>
  bs (vStore s.P wl 28 v29 v23 h30) fun h31 =>
  bm (vNil t0 h31) h31 fun v32 h33 =>
  bm (vFieldAddr s.P 80 v32 0) h33 fun v34 h35 =>
  bm (vFieldAddr s.P 30 v34 5) h35 fun v36 h37 =>
  bm (vLoad s.P 28 v36 h37) h37 fun v38 h39 =>
  bm (vBin s.P .neq 28 v38 (V.lit (Value.int .u64 0))) h39 fun v40 h41 =>
  cnd v40 (
  bm (vNil t0 h41) h41 fun v42 h43 =>
  bm (vFieldAddr s.P 80 v42 0) h43 fun v44 h45 =>
  bm (vFieldAddr s.P 30 v44 1) h45 fun v46 h47 =>
  bs (vStore s.P wl 3 v46 (V.lit (Value.int .i64 4)) h47) fun h48 =>
  some (.tup [],h48)) (
  some (.tup [],h41)))) :=
  bodyV_run rfl (go_seq (go_reg1 xo56_0r
  (go_op1 xo56_0 xo56_0a rfl rfl rfl (st_no (by kernel_rfl) (st_id (v := t0) (H := h) (by kernel_rfl)
  (go_op1 xo56_0 xo56_0a rfl rfl rfl (st_no (by kernel_rfl) (st_id (v := t0) (H := h) (by kernel_rfl)
  (go_op1 xo56_0 xo56_0a rfl rfl rfl (st_yes (by kernel_rfl) (st_bm (by kernel_rfl) fun v1 h2 =>
  (go_op1 xo56_0 xo56_0a rfl rfl rfl (st_no (by kernel_rfl) (st_bm (by kernel_rfl) fun v3 h4 =>
  (go_op1 xo56_0 xo56_0a rfl rfl rfl (st_yes (by kernel_rfl) (st_bm (by kernel_rfl) fun v5 h6 =>
  (go_op1 xo56_0 xo56_0a rfl rfl rfl (st_no (by kernel_rfl) (st_id (v := t0) (H := h6) (by kernel_rfl)
  (go_op1 xo56_0 xo56_0a rfl rfl rfl (st_no (by kernel_rfl) (st_bm (by kernel_rfl) fun v7 h8 =>
  (go_op1 xo56_0 xo56_0a rfl rfl rfl (st_no (by kernel_rfl) (st_bm (by kernel_rfl) fun v9 h10 =>
  (go_op1 xo56_0 xo56_0a rfl rfl rfl (st_no (by kernel_rfl) (st_bm (by kernel_rfl) fun v11 h12 =>
  (go_op1 xo56_0 xo56_0a rfl rfl rfl (st_no (by kernel_rfl) (st_id (v := t0) (H := h12) (by kernel_rfl)
  (go_op1 xo56_0 xo56_0a rfl rfl rfl (st_no (by kernel_rfl) (st_bm (by kernel_rfl) fun v13 h14 =>
  (go_op1 xo56_0 xo56_0a rfl rfl rfl (st_no (by kernel_rfl) (st_bm (by kernel_rfl) fun v15 h16 =>
  (go_op1 xo56_0 xo56_0a rfl rfl rfl (st_no (by kernel_rfl) (st_bm (by kernel_rfl) fun v17 h18 =>
  (go_op1 xo56_0 xo56_0a rfl rfl rfl (st_no (by kernel_rfl) (st_bm (by kernel_rfl) fun v19 h20 =>
  (go_op1 xo56_0 xo56_0a rfl rfl rfl (st_no (by kernel_rfl) (st_bp (by kernel_rfl) fun v21 h22 =>
  (go_op1 xo56_0 xo56_0a rfl rfl rfl (st_no (by kernel_rfl) (st_bp (by kernel_rfl) fun v23 h24 =>
  (go_op1 xo56_0 xo56_0a rfl rfl rfl (st_no (by kernel_rfl) (st_bm (by kernel_rfl) fun v25 h26 =>
  (go_op1 xo56_0 xo56_0a rfl rfl rfl (st_no (by kernel_rfl) (st_bm (by kernel_rfl) fun v27 h28 =>
  (go_op1 xo56_0 xo56_0a rfl rfl rfl (st_no (by kernel_rfl) (st_bm (by kernel_rfl) fun v29 h30 =>
  (go_op1 xo56_0 xo56_0a rfl rfl rfl (st_no (by kernel_rfl) (st_bs (by kernel_rfl) fun h31 =>
  (go_end1 xo56_0 (by kernel_rfl) xo56_0a
  (go_seq (go_reg0
  (go_op0 rfl rfl (st_id (v := t0) (H := h31) (by kernel_rfl)
  (go_op0 rfl rfl (st_bm (by kernel_rfl) fun v32 h33 =>
  (go_op0 rfl rfl (st_bm (by kernel_rfl) fun v34 h35 =>
  (go_op0 rfl rfl (st_bm (by kernel_rfl) fun v36 h37 =>
  (go_op0 rfl rfl (st_bm (by kernel_rfl) fun v38 h39 =>
  (go_op0 rfl rfl (st_bm (by kernel_rfl) fun v40 h41 =>
  (go_end0 (by kernel_rfl)
  (go_cond (by kernel_rfl)
  (go_reg0
  (go_op0 rfl rfl (st_id (v := t0) (H := h41) (by kernel_rfl)
  (go_op0 rfl rfl (st_bm (by kernel_rfl) fun v42 h43 =>
  (go_op0 rfl rfl (st_bm (by kernel_rfl) fun v44 h45 =>
  (go_op0 rfl rfl (st_bm (by kernel_rfl) fun v46 h47 =>
  (go_op0 rfl rfl (st_bs (by kernel_rfl) fun h48 =>
  (go_end0 (by kernel_rfl)
  (by kernel_rfl)))))))))))))
  (go_skip (by kernel_rfl)))))))))))))))))))))))))))))))))))))))))))))))))))))))))))))))))))))))))))))))))
theorem xe56 (k wl : Nat) (h : Hp) : evF Try.prog xM (k + 1) wl 56 [t0] h = bodyV (xX (xS k) 56 wl k false) Try.f56 [t0] h := by kernel_rfl
-- names: xb56,
noncomputable def xg57_0 : Code := codeAt (bodyOf Try.f57) [0]
theorem xo57_0 : orderIx (opsOf xg57_0) = [0,1,2,3,4,5,6,7,8,9,10,11,12,13,14,15,16,17,18] := by kernel_rfl
theorem xo57_0a : (rgOf (opsOf xg57_0)).any = false := by kernel_rfl
theorem xo57_0r : regOk (opsOf xg57_0) = true := by kernel_rfl
theorem xb57 (s : Sys) (k wl : Nat) (h : Hp) : bodyV (xX s 57 wl k false) Try.f57 [t0] h =
  stO h.length t0 (
  bm (vNil t0 h) h fun v1 h2 =>
  bm (vFieldAddr s.P 80 v1 2) h2 fun v3 h4 =>
  stO h.length v3 (
  bm (vLoad s.P 26 v3 h4) h4 fun v5 h6 =>
  bm (vNil t0 h6) h6 fun v7 h8 =>
  bm (vFieldAddr s.P 80 v7 1) h8 fun v9 h10 =>
  bm (vLoad s.P 23 v9 h10) h10 fun v11 h12 =>
  bm (vNil t0 h12) h12 fun v13 h14 =>
  bm (vFieldAddr s.P 80 v13 0) h14 fun v15 h16 =>
  bm (vFieldAddr s.P 30 v15 2) h16 fun v17 h18 =>
  bm (vLoad s.P 3 v17 h18) h18 fun v19 h20 =>
  bp (callV (xX s 57 wl k false) true true (.fn (.func 81) [] []) [v11,v19] h20) fun v21 h22 =>
  bp (callV (xX s 57 wl k false) false true (.fn (.func 18) [] []) [v5,v21,(V.lit (Value.int .u64 0))] h22) fun v23 h24 =>
  bm (vNil t0 h24) h24 fun v25 h26 =>
  bm (vFieldAddr s.P 80 v25 2) h26 fun v27 h28 =>
  bs (vStore s.P wl 26 v27 v23 h28) fun h29 =>
  bm (vNil t0 h29) h29 fun v30 h31 =>
  bm (vFieldAddr s.P 80 v30 0) h31 fun v32 h33 =>
  bm (vLoad s.P 30 v32 h33) h33 fun v34 h35 =>
  bp (callV (xX s 57 wl k false) false true (.fn (.func 63) [] []) [v34,(V.lit (Value.int .i64 1)),(V.lit (Value.int .u64 0))] h35) fun v36 h37 =>
  bm (vNil t0 h37) h37 fun v38 h39 =>
  bm (vFieldAddr s.P 80 v38 0) h39 fun v40 h41 =>
  bs (vStore s.P wl 30 v40 v36 h41) fun h42 =>
  some (.tup [],h42))) :=
  bodyV_run rfl (go_seq (go_reg1 xo57_0r
  (go_op1 xo57_0 xo57_0a rfl rfl rfl (st_no (by kernel_rfl) (st_id (v := t0) (H := h) (by kernel_rfl)
  (go_op1 xo57_0 xo57_0a rfl rfl rfl (st_no (by kernel_rfl) (st_id (v := t0) (H := h) (by kernel_rfl)
  (go_op1 xo57_0 xo57_0a rfl rfl rfl (st_yes (by kernel_rfl) (st_bm (by kernel_rfl) fun v1 h2 =>
  (go_op1 xo57_0 xo57_0a rfl rfl rfl (st_no (by kernel_rfl) (st_bm (by kernel_rfl) fun v3 h4 =>
  (go_op1 xo57_0 xo57_0a rfl rfl rfl (st_yes (by kernel_rfl) (st_bm (by kernel_rfl) fun v5 h6 =>
  (go_op1 xo57_0 xo57_0a rfl rfl rfl (st_no (by kernel_rfl) (st_id (v := t0) (H := h6) (by kernel_rfl)
  (go_op1 xo57_0 xo57_0a rfl rfl rfl (st_no (by kernel_rfl) (st_bm (by kernel_rfl) fun v7 h8 =>
  (go_op1 xo57_0 xo57_0a rfl rfl rfl (st_no (by kernel_rfl) (st_bm (by kernel_rfl) fun v9 h10 =>
  (go_op1 xo57_0 xo57_0a rfl rfl rfl (st_no (by kernel_rfl) (st_bm (by kernel_rfl) fun v11 h12 =>
  (go_op1 xo57_0 xo57_0a rfl rfl rfl (st_no (by kernel_rfl) (st_id (v := t0) (H := h12) (by kernel_rfl)
  (go_op1 xo57_0 xo57_0a rfl rfl rfl (st_no (by kernel_rfl) (st_bm (by kernel_rfl) fun v13 h14 =>
  (go_op1 xo57_0 xo57_0a rfl rfl rfl (st_no (by kernel_rfl) (st_bm (by kernel_rfl) fun v15 h16 =>
  (go_op1 xo57_0 xo57_0a rfl rfl rfl (st_no (by kernel_rfl) (st_bm (by kernel_rfl) fun v17 h18 =>
  (go_op1 xo57_0 xo57_0a rfl rfl rfl (st_no (by kernel_rfl) (st_bm (by kernel_rfl) fun v19 h20 =>
  (go_op1 xo57_0 xo57_0a rfl rfl rfl (st_no (by kernel_rfl) (st_bp (by kernel_rfl) fun v21 h22 =>
  (go_op1 xo57_0 xo57_0a rfl rfl rfl (st_no (by kernel_rfl) (st_bp (by kernel_rfl) fun v23 h24 =>
  (go_op1 xo57_0 xo57_0a rfl rfl rfl (st_no (by kernel_rfl) (st_bm (by kernel_rfl) fun v25 h26 =>
  (go_op1 xo57_0 xo57_0a rfl rfl rfl (st_no (by kernel_rfl) (st_bm (by kernel_rfl) fun v27 h28 =>
  (go_op1 xo57_0 xo57_0a rfl rfl rfl (st_no (by kernel_rfl) (st_bs (by kernel_rfl) fun h29 =>
  (go_end1 xo57_0 (by kernel_rfl) xo57_0a
  (go_reg0
  (go_op0 rfl rfl (st_id (v := t0) (H := h29) (by kernel_rfl)
  (go_op0 rfl rfl (st_id (v := t0) (H := h29) (by kernel_rfl)
  (go_op0 rfl rfl (st_bm (by kernel_rfl) fun v30 h31 =>
  (go_op0 rfl rfl (st_bm (by kernel_rfl) fun v32 h33 =>
  (go_op0 rfl rfl (st_bm (by kernel_rfl) fun v34 h35 =>
  (go_op0 rfl rfl (st_bp (by kernel_rfl) fun v36 h37 =>
  (go_op0 rfl rfl (st_bm (by kernel_rfl) fun v38 h39 =>
  (go_op0 rfl rfl (st_bm (by kernel_rfl) fun v40 h41 =>
  (go_op0 rfl rfl (st_bs (by kernel_rfl) fun h42 =>
  (go_end0 (by kernel_rfl)
  (by kernel_rfl)))))))))))))))))))))))))))))))))))))))))))))))))))))))))))))))))))))))))))))))))
theorem xe57 (k wl : Nat) (h : Hp) : evF Try.prog xM (k + 1) wl 57 [t0] h = bodyV (xX (xS k) 57 wl k false) Try.f57 [t0] h := by kernel_rfl
-- names: xb57,
noncomputable def xg58_0 : Code := codeAt (bodyOf Try.f58) [1,0]
noncomputable def xk58_0 : List Fr := [.seq (codeAt (bodyOf Try.f58) [1,1])]
theorem xb58 (s : Sys) (k wl : Nat) (h : Hp) : bodyV (xX s 58 wl k false) Try.f58 [t0,t1,t2,t3,t4] h =
  bp (opBox t0 h) fun v1 h2 =>
  bp (opBox t2 h2) fun v3 h4 =>
  bm (vLoad s.P 23 v1 h4) h4 fun v5 h6 =>
  bp (callV (xX s 58 wl k false) false true (.fn (.func 14) [] []) [v5] h6) fun v7 h8 =>
  gd v7 (
  bp (opLen s.P 26 t1 h8) fun v9 h10 =>
  bm (vLoad s.P 23 v1 h10) h10 fun v11 h12 =>
  bp (callV (xX s 58 wl k false) false true (.fn (.func 37) [] []) [v11] h12) fun v13 h14 =>
  bm (vBin s.P .eql 3 v9 v13) h14 fun v15 h16 =>
  opsP (xX s 58 wl k false) xg58_0 8 h4.length ([],[]) (runK (xX s 58 wl k false) (bodyK s.P Try.f58) xk58_0) ⟨[t0,t1,t2,t3,t4,v1,uu,v3,uu,uu,(V.lit (Value.bool false)),v5,v7,(V.lit (Value.bool true)),t1,v9,v11,v13,v15,uu,uu,uu,uu,uu,uu,uu,uu,uu,uu,uu,uu,uu,uu,uu,uu,uu,uu,uu,uu,uu,uu,uu,uu,uu,uu,uu,uu,uu,uu,uu,uu,uu,uu,uu],h16⟩) (
  opsP (xX s 58 wl k false) xg58_0 8 h4.length ([],[]) (runK (xX s 58 wl k false) (bodyK s.P Try.f58) xk58_0) ⟨[t0,t1,t2,t3,t4,v1,uu,v3,uu,uu,(V.lit (Value.bool false)),v5,v7,(V.lit (Value.bool false)),uu,uu,uu,uu,uu,uu,uu,uu,uu,uu,uu,uu,uu,uu,uu,uu,uu,uu,uu,uu,uu,uu,uu,uu,uu,uu,uu,uu,uu,uu,uu,uu,uu,uu,uu,uu,uu,uu,uu,uu],h8⟩) (
  opsP (xX s 58 wl k false) xg58_0 4 h4.length ([],[]) (runK (xX s 58 wl k false) (bodyK s.P Try.f58) xk58_0) ⟨[t0,t1,t2,t3,t4,v1,uu,v3,uu,uu,(V.lit (Value.bool false)),v5,v7,v7,uu,uu,uu,uu,uu,uu,uu,uu,uu,uu,uu,uu,uu,uu,uu,uu,uu,uu,uu,uu,uu,uu,uu,uu,uu,uu,uu,uu,uu,uu,uu,uu,uu,uu,uu,uu,uu,uu,uu,uu],h8⟩) :=
  bodyV_run rfl (go_seq (go_reg0
  (go_op0 rfl rfl (st_bp (by kernel_rfl) fun v1 h2 =>
  (go_op0 rfl rfl (st_bp (by kernel_rfl) fun v3 h4 =>
  (go_op0 rfl rfl (st_id (v := (V.lit (Value.bool false))) (H := h4) (by kernel_rfl)
  (go_end0 (by kernel_rfl)
  (go_seq (go_reg0
  (go_op0 rfl rfl (st_bm (by kernel_rfl) fun v5 h6 =>
  (go_op0 rfl rfl (st_bp (by kernel_rfl) fun v7 h8 =>
  (go_op0 rfl rfl (st_id (v := v7) (H := h8) (by kernel_rfl)
  (go_gdT0 rfl rfl rfl (by kernel_rfl)
  (st_id (v := t1) (H := h8) (by kernel_rfl)
  (go_run0 rfl rfl rfl (by kernel_rfl) (st_bp (by kernel_rfl) fun v9 h10 =>
  (go_run0 rfl rfl rfl (by kernel_rfl) (st_bm (by kernel_rfl) fun v11 h12 =>
  (go_run0 rfl rfl rfl (by kernel_rfl) (st_bp (by kernel_rfl) fun v13 h14 =>
  (go_run0 rfl rfl rfl (by kernel_rfl) (st_bm (by kernel_rfl) fun v15 h16 =>
  (by kernel_rfl))))))))))
  (go_skip0 rfl rfl rfl (by kernel_rfl)
  (go_skip0 rfl rfl rfl (by kernel_rfl)
  (go_skip0 rfl rfl rfl (by kernel_rfl)
  (go_skip0 rfl rfl rfl (by kernel_rfl)
  (by kernel_rfl)))))
  (by kernel_rfl)))))))))))))))))))
theorem xe58 (k wl : Nat) (h : Hp) : evF Try.prog xM (k + 1) wl 58 [t0,t1,t2,t3,t4] h = bodyV (xX (xS k) 58 wl k false) Try.f58 [t0,t1,t2,t3,t4] h := by kernel_rfl
theorem xm58_0 (s : Sys) (k wl : Nat) (m0 : Nat) (ac : List Nat × List Nat) (h : Hp) : opsP (xX s 58 wl k false) xg58_0 8 m0 ac (runK (xX s 58 wl k false) (bodyK s.P Try.f58) xk58_0) ⟨[t0,t1,t2,t3,t4,t5,t6,t7,t8,t9,ta,tb,tc,td,te,tf,tg,th,ti,tj,tk,tl,tm,tn,tp,tq,tr,ts,tt,tu,tv,tw,tx,ty,tz,tA,tB,tC,tD,tE,tF,tG,tH,tI,tJ,tK,tL,tM,tN,tO,tP,tQ,tR,tS],h⟩ =
  bm (vPick td ti (V.lit (Value.bool false))) h fun v17 h18 =>
  gd v17 (
  bm (vLoad s.P 30 t7 h18) h18 fun v19 h20 =>
  bp (callV (xX s 58 wl k false) false true (.fn (.func 28) [] []) [v19] h20) fun v21 h22 =>
  bm (vUn .not v21) h22 fun v23 h24 =>
  opsP (xX s 58 wl k false) xg58_0 13 m0 ac (runK (xX s 58 wl k false) (bodyK s.P Try.f58) xk58_0) ⟨[t0,t1,t2,t3,t4,t5,t6,t7,t8,t9,ta,tb,tc,td,te,tf,tg,th,ti,v17,(V.lit (Value.bool true)),v19,v21,v23,tp,tq,tr,ts,tt,tu,tv,tw,tx,ty,tz,tA,tB,tC,tD,tE,tF,tG,tH,tI,tJ,tK,tL,tM,tN,tO,tP,tQ,tR,tS],h24⟩) (
  opsP (xX s 58 wl k false) xg58_0 13 m0 ac (runK (xX s 58 wl k false) (bodyK s.P Try.f58) xk58_0) ⟨[t0,t1,t2,t3,t4,t5,t6,t7,t8,t9,ta,tb,tc,td,te,tf,tg,th,ti,v17,(V.lit (Value.bool false)),uu,uu,uu,tp,tq,tr,ts,tt,tu,tv,tw,tx,ty,tz,tA,tB,tC,tD,tE,tF,tG,tH,tI,tJ,tK,tL,tM,tN,tO,tP,tQ,tR,tS],h18⟩) (
  opsP (xX s 58 wl k false) xg58_0 11 m0 ac (runK (xX s 58 wl k false) (bodyK s.P Try.f58) xk58_0) ⟨[t0,t1,t2,t3,t4,t5,t6,t7,t8,t9,ta,tb,tc,td,te,tf,tg,th,ti,v17,v17,uu,tm,tn,tp,tq,tr,ts,tt,tu,tv,tw,tx,ty,tz,tA,tB,tC,tD,tE,tF,tG,tH,tI,tJ,tK,tL,tM,tN,tO,tP,tQ,tR,tS],h18⟩) :=
  (go_op0 rfl rfl (st_bm (by kernel_rfl) fun v17 h18 =>
  (go_op0 rfl rfl (st_id (v := v17) (H := h18) (by kernel_rfl)
  (go_gdT0 rfl rfl rfl (by kernel_rfl)
  (st_bm (by kernel_rfl) fun v19 h20 =>
  (go_run0 rfl rfl rfl (by kernel_rfl) (st_bp (by kernel_rfl) fun v21 h22 =>
  (go_run0 rfl rfl rfl (by kernel_rfl) (st_bm (by kernel_rfl) fun v23 h24 =>
  (by kernel_rfl))))))
  (go_skip0 rfl rfl rfl (by kernel_rfl)
  (go_skip0 rfl rfl rfl (by kernel_rfl)
  (by kernel_rfl)))
  (by kernel_rfl))))))
theorem xm58_1 (s : Sys) (k wl : Nat) (m0 : Nat) (ac : List Nat × List Nat) (h : Hp) : opsP (xX s 58 wl k false) xg58_0 13 m0 ac (runK (xX s 58 wl k false) (bodyK s.P Try.f58) xk58_0) ⟨[t0,t1,t2,t3,t4,t5,t6,t7,t8,t9,ta,tb,tc,td,te,tf,tg,th,ti,tj,tk,tl,tm,tn,tp,tq,tr,ts,tt,tu,tv,tw,tx,ty,tz,tA,tB,tC,tD,tE,tF,tG,tH,tI,tJ,tK,tL,tM,tN,tO,tP,tQ,tR,tS],h⟩ =
  bm (vPick tk tn (V.lit (Value.bool false))) h fun v25 h26 =>
  gd v25 (
  bm (vFieldAddr s.P 30 t7 2) h26 fun v27 h28 =>
  bm (vLoad s.P 3 v27 h28) h28 fun v29 h30 =>
  bm (vBin s.P .geq 3 v29 (V.lit (Value.int .i64 0))) h30 fun v31 h32 =>
  opsP (xX s 58 wl k false) xg58_0 18 m0 ac (runK (xX s 58 wl k false) (bodyK s.P Try.f58) xk58_0) ⟨[t0,t1,t2,t3,t4,t5,t6,t7,t8,t9,ta,tb,tc,td,te,tf,tg,th,ti,tj,tk,tl,tm,tn,v25,(V.lit (Value.bool true)),v27,v29,v31,tu,tv,tw,tx,ty,tz,tA,tB,tC,tD,tE,tF,tG,tH,tI,tJ,tK,tL,tM,tN,tO,tP,tQ,tR,tS],h32⟩) (
  opsP (xX s 58 wl k false) xg58_0 18 m0 ac (runK (xX s 58 wl k false) (bodyK s.P Try.f58) xk58_0) ⟨[t0,t1,t2,t3,t4,t5,t6,t7,t8,t9,ta,tb,tc,td,te,tf,tg,th,ti,tj,tk,tl,tm,tn,v25,(V.lit (Value.bool false)),uu,uu,uu,tu,tv,tw,tx,ty,tz,tA,tB,tC,tD,tE,tF,tG,tH,tI,tJ,tK,tL,tM,tN,tO,tP,tQ,tR,tS],h26⟩) (
  opsP (xX s 58 wl k false) xg58_0 16 m0 ac (runK (xX s 58 wl k false) (bodyK s.P Try.f58) xk58_0) ⟨[t0,t1,t2,t3,t4,t5,t6,t7,t8,t9,ta,tb,tc,td,te,tf,tg,th,ti,tj,tk,tl,tm,tn,v25,v25,uu,ts,tt,tu,tv,tw,tx,ty,tz,tA,tB,tC,tD,tE,tF,tG,tH,tI,tJ,tK,tL,tM,tN,tO,tP,tQ,tR,tS],h26⟩) :=
  (go_op0 rfl rfl (st_bm (by kernel_rfl) fun v25 h26 =>
  (go_op0 rfl rfl (st_id (v := v25) (H := h26) (by kernel_rfl)
  (go_gdT0 rfl rfl rfl (by kernel_rfl)
  (st_bm (by kernel_rfl) fun v27 h28 =>
  (go_run0 rfl rfl rfl (by kernel_rfl) (st_bm (by kernel_rfl) fun v29 h30 =>
  (go_run0 rfl rfl rfl (by kernel_rfl) (st_bm (by kernel_rfl) fun v31 h32 =>
  (by kernel_rfl))))))
  (go_skip0 rfl rfl rfl (by kernel_rfl)
  (go_skip0 rfl rfl rfl (by kernel_rfl)
  (by kernel_rfl)))
  (by kernel_rfl))))))
theorem xm58_2 (s : Sys) (k wl : Nat) (m0 : Nat) (ac : List Nat × List Nat) (h : Hp) : opsP (xX s 58 wl k false) xg58_0 18 m0 ac (runK (xX s 58 wl k false) (bodyK s.P Try.f58) xk58_0) ⟨[t0,t1,t2,t3,t4,t5,t6,t7,t8,t9,ta,tb,tc,td,te,tf,tg,th,ti,tj,tk,tl,tm,tn,tp,tq,tr,ts,tt,tu,tv,tw,tx,ty,tz,tA,tB,tC,tD,tE,tF,tG,tH,tI,tJ,tK,tL,tM,tN,tO,tP,tQ,tR,tS],h⟩ =
  bm (vPick tq tt (V.lit (Value.bool false))) h fun v33 h34 =>
  gd v33 (
  bm (vFieldAddr s.P 30 t7 2) h34 fun v35 h36 =>
  bm (vLoad s.P 3 v35 h36) h36 fun v37 h38 =>
  bm (vFieldAddr s.P 23 t5 0) h38 fun v39 h40 =>
  bm (vLoad s.P 3 v39 h40) h40 fun v41 h42 =>
  bm (vBin s.P .lss 3 v37 v41) h42 fun v43 h44 =>
  opsP (xX s 58 wl k false) xg58_0 25 m0 ac (runK (xX s 58 wl k false) (bodyK s.P Try.f58) xk58_0) ⟨[t0,t1,t2,t3,t4,t5,t6,t7,t8,t9,ta,tb,tc,td,te,tf,tg,th,ti,tj,tk,tl,tm,tn,tp,tq,tr,ts,tt,v33,(V.lit (Value.bool true)),v35,v37,v39,v41,v43,tB,tC,tD,tE,tF,tG,tH,tI,tJ,tK,tL,tM,tN,tO,tP,tQ,tR,tS],h44⟩) (
  opsP (xX s 58 wl k false) xg58_0 25 m0 ac (runK (xX s 58 wl k false) (bodyK s.P Try.f58) xk58_0) ⟨[t0,t1,t2,t3,t4,t5,t6,t7,t8,t9,ta,tb,tc,td,te,tf,tg,th,ti,tj,tk,tl,tm,tn,tp,tq,tr,ts,tt,v33,(V.lit (Value.bool false)),uu,uu,uu,uu,uu,tB,tC,tD,tE,tF,tG,tH,tI,tJ,tK,tL,tM,tN,tO,tP,tQ,tR,tS],h34⟩) (
  opsP (xX s 58 wl k false) xg58_0 21 m0 ac (runK (xX s 58 wl k false) (bodyK s.P Try.f58) xk58_0) ⟨[t0,t1,t2,t3,t4,t5,t6,t7,t8,t9,ta,tb,tc,td,te,tf,tg,th,ti,tj,tk,tl,tm,tn,tp,tq,tr,ts,tt,v33,v33,uu,tx,ty,tz,tA,tB,tC,tD,tE,tF,tG,tH,tI,tJ,tK,tL,tM,tN,tO,tP,tQ,tR,tS],h34⟩) :=
  (go_op0 rfl rfl (st_bm (by kernel_rfl) fun v33 h34 =>
  (go_op0 rfl rfl (st_id (v := v33) (H := h34) (by kernel_rfl)
  (go_gdT0 rfl rfl rfl (by kernel_rfl)
  (st_bm (by kernel_rfl) fun v35 h36 =>
  (go_run0 rfl rfl rfl (by kernel_rfl) (st_bm (by kernel_rfl) fun v37 h38 =>
  (go_run0 rfl rfl rfl (by kernel_rfl) (st_bm (by kernel_rfl) fun v39 h40 =>
  (go_run0 rfl rfl rfl (by kernel_rfl) (st_bm (by kernel_rfl) fun v41 h42 =>
  (go_run0 rfl rfl rfl (by kernel_rfl) (st_bm (by kernel_rfl) fun v43 h44 =>
  (by kernel_rfl))))))))))
  (go_skip0 rfl rfl rfl (by kernel_rfl)
  (go_skip0 rfl rfl rfl (by kernel_rfl)
  (go_skip0 rfl rfl rfl (by kernel_rfl)
  (go_skip0 rfl rfl rfl (by kernel_rfl)
  (by kernel_rfl)))))
  (by kernel_rfl))))))
theorem xm58_3 (s : Sys) (k wl : Nat) (m0 : Nat) (ac : List Nat × List Nat) (h : Hp) : opsP (xX s 58 wl k false) xg58_0 25 m0 ac (runK (xX s 58 wl k false) (bodyK s.P Try.f58) xk58_0) ⟨[t0,t1,t2,t3,t4,t5,t6,t7,t8,t9,ta,tb,tc,td,te,tf,tg,th,ti,tj,tk,tl,tm,tn,tp,tq,tr,ts,tt,tu,tv,tw,tx,ty,tz,tA,tB,tC,tD,tE,tF,tG,tH,tI,tJ,tK,tL,tM,tN,tO,tP,tQ,tR,tS],h⟩ =
  bm (vPick tv tA (V.lit (Value.bool false))) h fun v45 h46 =>
  gd v45 (
  bm (vFieldAddr s.P 30 t7 0) h46 fun v47 h48 =>
  bm (vLoad s.P 3 v47 h48) h48 fun v49 h50 =>
  bm (vBin s.P .eql 3 v49 t3) h50 fun v51 h52 =>
  opsP (xX s 58 wl k false) xg58_0 31 m0 ac (runK (xX s 58 wl k false) (bodyK s.P Try.f58) xk58_0) ⟨[t0,t1,t2,t3,t4,t5,t6,t7,t8,t9,ta,tb,tc,td,te,tf,tg,th,ti,tj,tk,tl,tm,tn,tp,tq,tr,ts,tt,tu,tv,tw,tx,ty,tz,tA,v45,(V.lit (Value.bool true)),v47,v49,t3,v51,tH,tI,tJ,tK,tL,tM,tN,tO,tP,tQ,tR,tS],h52⟩) (
  opsP (xX s 58 wl k false) xg58_0 31 m0 ac (runK (xX s 58 wl k false) (bodyK s.P Try.f58) xk58_0) ⟨[t0,t1,t2,t3,t4,t5,t6,t7,t8,t9,ta,tb,tc,td,te,tf,tg,th,ti,tj,tk,tl,tm,tn,tp,tq,tr,ts,tt,tu,tv,tw,tx,ty,tz,tA,v45,(V.lit (Value.bool false)),uu,uu,uu,uu,tH,tI,tJ,tK,tL,tM,tN,tO,tP,tQ,tR,tS],h46⟩) (
  opsP (xX s 58 wl k false) xg58_0 28 m0 ac (runK (xX s 58 wl k false) (bodyK s.P Try.f58) xk58_0) ⟨[t0,t1,t2,t3,t4,t5,t6,t7,t8,t9,ta,tb,tc,td,te,tf,tg,th,ti,tj,tk,tl,tm,tn,tp,tq,tr,ts,tt,tu,tv,tw,tx,ty,tz,tA,v45,v45,uu,tE,tF,tG,tH,tI,tJ,tK,tL,tM,tN,tO,tP,tQ,tR,tS],h46⟩) :=
  (go_op0 rfl rfl (st_bm (by kernel_rfl) fun v45 h46 =>
  (go_op0 rfl rfl (st_id (v := v45) (H := h46) (by kernel_rfl)
  (go_gdT0 rfl rfl rfl (by kernel_rfl)
  (st_bm (by kernel_rfl) fun v47 h48 =>
  (go_run0 rfl rfl rfl (by kernel_rfl) (st_bm (by kernel_rfl) fun v49 h50 =>
  (go_run0 rfl rfl rfl (by kernel_rfl) (st_id (v := t3) (H := h50) (by kernel_rfl)
  (go_run0 rfl rfl rfl (by kernel_rfl) (st_bm (by kernel_rfl) fun v51 h52 =>
  (by kernel_rfl))))))))
  (go_skip0 rfl rfl rfl (by kernel_rfl)
  (go_skip0 rfl rfl rfl (by kernel_rfl)
  (go_skip0 rfl rfl rfl (by kernel_rfl)
  (by kernel_rfl))))
  (by kernel_rfl))))))
theorem xm58_4 (s : Sys) (k wl : Nat) (m0 : Nat) (ac : List Nat × List Nat) (h : Hp) : opsP (xX s 58 wl k false) xg58_0 31 m0 ac (runK (xX s 58 wl k false) (bodyK s.P Try.f58) xk58_0) ⟨[t0,t1,t2,t3,t4,t5,t6,t7,t8,t9,ta,tb,tc,td,te,tf,tg,th,ti,tj,tk,tl,tm,tn,tp,tq,tr,ts,tt,tu,tv,tw,tx,ty,tz,tA,tB,tC,tD,tE,tF,tG,tH,tI,tJ,tK,tL,tM,tN,tO,tP,tQ,tR,tS],h⟩ =
  bm (vPick tC tG (V.lit (Value.bool false))) h fun v53 h54 =>
  gd v53 (
  bm (vFieldAddr s.P 30 t7 1) h54 fun v55 h56 =>
  bm (vLoad s.P 3 v55 h56) h56 fun v57 h58 =>
  bm (vBin s.P .geq 3 v57 (V.lit (Value.int .i64 0))) h58 fun v59 h60 =>
  opsP (xX s 58 wl k false) xg58_0 36 m0 ac (runK (xX s 58 wl k false) (bodyK s.P Try.f58) xk58_0) ⟨[t0,t1,t2,t3,t4,t5,t6,t7,t8,t9,ta,tb,tc,td,te,tf,tg,th,ti,tj,tk,tl,tm,tn,tp,tq,tr,ts,tt,tu,tv,tw,tx,ty,tz,tA,tB,tC,tD,tE,tF,tG,v53,(V.lit (Value.bool true)),v55,v57,v59,tM,tN,tO,tP,tQ,tR,tS],h60⟩) (
  opsP (xX s 58 wl k false) xg58_0 36 m0 ac (runK (xX s 58 wl k false) (bodyK s.P Try.f58) xk58_0) ⟨[t0,t1,t2,t3,t4,t5,t6,t7,t8,t9,ta,tb,tc,td,te,tf,tg,th,ti,tj,tk,tl,tm,tn,tp,tq,tr,ts,tt,tu,tv,tw,tx,ty,tz,tA,tB,tC,tD,tE,tF,tG,v53,(V.lit (Value.bool false)),uu,uu,uu,tM,tN,tO,tP,tQ,tR,tS],h54⟩) (
  opsP (xX s 58 wl k false) xg58_0 34 m0 ac (runK (xX s 58 wl k false) (bodyK s.P Try.f58) xk58_0) ⟨[t0,t1,t2,t3,t4,t5,t6,t7,t8,t9,ta,tb,tc,td,te,tf,tg,th,ti,tj,tk,tl,tm,tn,tp,tq,tr,ts,tt,tu,tv,tw,tx,ty,tz,tA,tB,tC,tD,tE,tF,tG,v53,v53,uu,tK,tL,tM,tN,tO,tP,tQ,tR,tS],h54⟩) :=
  (go_op0 rfl rfl (st_bm (by kernel_rfl) fun v53 h54 =>
  (go_op0 rfl rfl (st_id (v := v53) (H := h54) (by kernel_rfl)
  (go_gdT0 rfl rfl rfl (by kernel_rfl)
  (st_bm (by kernel_rfl) fun v55 h56 =>
  (go_run0 rfl rfl rfl (by kernel_rfl) (st_bm (by kernel_rfl) fun v57 h58 =>
  (go_run0 rfl rfl rfl (by kernel_rfl) (st_bm (by kernel_rfl) fun v59 h60 =>
  (by kernel_rfl))))))
  (go_skip0 rfl rfl rfl (by kernel_rfl)
  (go_skip0 rfl rfl rfl (by kernel_rfl)
  (by kernel_rfl)))
  (by kernel_rfl))))))
theorem xm58_5 (s : Sys) (k wl : Nat) (m0 : Nat) (ac : List Nat × List Nat) (h : Hp) : opsP (xX s 58 wl k false) xg58_0 36 m0 ac (runK (xX s 58 wl k false) (bodyK s.P Try.f58) xk58_0) ⟨[t0,t1,t2,t3,t4,t5,t6,t7,t8,t9,ta,tb,tc,td,te,tf,tg,th,ti,tj,tk,tl,tm,tn,tp,tq,tr,ts,tt,tu,tv,tw,tx,ty,tz,tA,tB,tC,tD,tE,tF,tG,tH,tI,tJ,tK,tL,tM,tN,tO,tP,tQ,tR,tS],h⟩ =
  bm (vPick tI tL (V.lit (Value.bool false))) h fun v61 h62 =>
  gd v61 (
  bm (vFieldAddr s.P 30 t7 1) h62 fun v63 h64 =>
  bm (vLoad s.P 3 v63 h64) h64 fun v65 h66 =>
  bm (vBin s.P .lss 3 v65 t4) h66 fun v67 h68 =>
  opsP (xX s 58 wl k false) xg58_0 42 m0 ac (runK (xX s 58 wl k false) (bodyK s.P Try.f58) xk58_0) ⟨[t0,t1,t2,t3,t4,t5,t6,t7,t8,t9,ta,tb,tc,td,te,tf,tg,th,ti,tj,tk,tl,tm,tn,tp,tq,tr,ts,tt,tu,tv,tw,tx,ty,tz,tA,tB,tC,tD,tE,tF,tG,tH,tI,tJ,tK,tL,v61,(V.lit (Value.bool true)),v63,v65,t4,v67,tS],h68⟩) (
  opsP (xX s 58 wl k false) xg58_0 42 m0 ac (runK (xX s 58 wl k false) (bodyK s.P Try.f58) xk58_0) ⟨[t0,t1,t2,t3,t4,t5,t6,t7,t8,t9,ta,tb,tc,td,te,tf,tg,th,ti,tj,tk,tl,tm,tn,tp,tq,tr,ts,tt,tu,tv,tw,tx,ty,tz,tA,tB,tC,tD,tE,tF,tG,tH,tI,tJ,tK,tL,v61,(V.lit (Value.bool false)),uu,uu,uu,uu,tS],h62⟩) (
  opsP (xX s 58 wl k false) xg58_0 39 m0 ac (runK (xX s 58 wl k false) (bodyK s.P Try.f58) xk58_0) ⟨[t0,t1,t2,t3,t4,t5,t6,t7,t8,t9,ta,tb,tc,td,te,tf,tg,th,ti,tj,tk,tl,tm,tn,tp,tq,tr,ts,tt,tu,tv,tw,tx,ty,tz,tA,tB,tC,tD,tE,tF,tG,tH,tI,tJ,tK,tL,v61,v61,uu,tP,tQ,tR,tS],h62⟩) :=
  (go_op0 rfl rfl (st_bm (by kernel_rfl) fun v61 h62 =>
  (go_op0 rfl rfl (st_id (v := v61) (H := h62) (by kernel_rfl)
  (go_gdT0 rfl rfl rfl (by kernel_rfl)
  (st_bm (by kernel_rfl) fun v63 h64 =>
  (go_run0 rfl rfl rfl (by kernel_rfl) (st_bm (by kernel_rfl) fun v65 h66 =>
  (go_run0 rfl rfl rfl (by kernel_rfl) (st_id (v := t4) (H := h66) (by kernel_rfl)
  (go_run0 rfl rfl rfl (by kernel_rfl) (st_bm (by kernel_rfl) fun v67 h68 =>
  (by kernel_rfl))))))))
  (go_skip0 rfl rfl rfl (by kernel_rfl)
  (go_skip0 rfl rfl rfl (by kernel_rfl)
  (go_skip0 rfl rfl rfl (by kernel_rfl)
  (by kernel_rfl))))
  (by kernel_rfl))))))
theorem xm58_6 (s : Sys) (k wl : Nat) (m0 : Nat) (ac : List Nat × List Nat) (h : Hp) : opsP (xX s 58 wl k false) xg58_0 42 m0 ac (runK (xX s 58 wl k false) (bodyK s.P Try.f58) xk58_0) ⟨[t0,t1,t2,t3,t4,t5,t6,t7,t8,t9,ta,tb,tc,td,te,tf,tg,th,ti,tj,tk,tl,tm,tn,tp,tq,tr,ts,tt,tu,tv,tw,tx,ty,tz,tA,tB,tC,tD,tE,tF,tG,tH,tI,tJ,tK,tL,tM,tN,tO,tP,tQ,tR,tS],h⟩ =
  bm (vPick tN tR (V.lit (Value.bool false))) h fun v69 h70 =>
  some (v69,h70) :=
  (go_op0 rfl rfl (st_bm (by kernel_rfl) fun v69 h70 =>
  (go_op0 rfl rfl (st_id (v := v69) (H := h70) (by kernel_rfl)
  (go_end0 (by kernel_rfl)
  (go_ret (by kernel_rfl)))))))
theorem xk58_0_ret (cx : Cx) (K : Out → St → Option (V × Hp)) (s : St) : runK cx K xk58_0 .ret s = K .ret s := by kernel_rfl
-- names: xb58,xm58_0,xm58_1,xm58_2,xm58_3,xm58_4,xm58_5,xm58_6,xk58_0_ret

theorem xb62 (s : Sys) (k wl : Nat) (h : Hp) : bodyV (xX s 62 wl k false) Try.f62 [t0] h =
  bm (vBin s.P .and 28 t0 (V.lit (Value.int .u64 65535))) h fun v1 h2 =>
  some (v1,h2) :=
  bodyV_run rfl (go_seq (go_reg0
  (go_op0 rfl rfl (st_id (v := (V.lit (Value.int .u64 0))) (H := h) (by kernel_rfl)
  (go_end0 (by kernel_rfl)
  (go_seq (go_reg0
  (go_op0 rfl rfl (st_id (v := t0) (H := h) (by kernel_rfl)
  (go_op0 rfl rfl (st_bm (by kernel_rfl) fun v1 h2 =>
  (go_op0 rfl rfl (st_id (v := v1) (H := h2) (by kernel_rfl)
  (go_end0 (by kernel_rfl)
  (go_ret (by kernel_rfl))))))))))))))))
theorem xe62 (k wl : Nat) (h : Hp) : evF Try.prog xM (k + 1) wl 62 [t0] h = bodyV (xX (xS k) 62 wl k false) Try.f62 [t0] h := by kernel_rfl
-- names: xb62,

theorem xb79 (s : Sys) (k wl : Nat) (h : Hp) : bodyV (xX s 79 wl k false) Try.f79 [t0] h =
  bm (vBin s.P .shr 28 t0 (V.lit (Value.int .u64 16))) h fun v1 h2 =>
  some (v1,h2) :=
  bodyV_run rfl (go_seq (go_reg0
  (go_op0 rfl rfl (st_id (v := (V.lit (Value.int .u64 0))) (H := h) (by kernel_rfl)
  (go_end0 (by kernel_rfl)
  (go_seq (go_reg0
  (go_op0 rfl rfl (st_id (v := t0) (H := h) (by kernel_rfl)
  (go_op0 rfl rfl (st_bm (by kernel_rfl) fun v1 h2 =>
  (go_op0 rfl rfl (st_id (v := v1) (H := h2) (by kernel_rfl)
  (go_end0 (by kernel_rfl)
  (go_ret (by kernel_rfl))))))))))))))))
theorem xe79 (k wl : Nat) (h : Hp) : evF Try.prog xM (k + 1) wl 79 [t0] h = bodyV (xX (xS k) 79 wl k false) Try.f79 [t0] h := by kernel_rfl
-- names: xb79,
noncomputable def xg80_0 : Code := codeAt (bodyOf Try.f80) [1,0,0]
noncomputable def xk80_0 : List Fr := [.seq (codeAt (bodyOf Try.f80) [1,0,1]),.seq (codeAt (bodyOf Try.f80) [1,1])]
theorem xb80 (s : Sys) (k wl : Nat) (h : Hp) : bodyV (xX s 80 wl k false) Try.f80 [t0,t1] h =
  bm (vBin s.P .lss 3 t1 (V.lit (Value.int .i64 0))) h fun v1 h2 =>
  gd v1 (
  opsP (xX s 80 wl k false) xg80_0 5 h.length ([],[]) (runK (xX s 80 wl k false) (bodyK s.P Try.f80) xk80_0) ⟨[t0,t1,uu,uu,(V.lit (Value.int .u64 0)),t1,v1,(V.lit (Value.bool true)),uu,uu,uu,uu,uu,uu,uu,uu],h2⟩) (
  bm (vBin s.P .geq 3 t1 (V.lit (Value.int .i64 16))) h2 fun v3 h4 =>
  opsP (xX s 80 wl k false) xg80_0 5 h.length ([],[]) (runK (xX s 80 wl k false) (bodyK s.P Try.f80) xk80_0) ⟨[t0,t1,uu,uu,(V.lit (Value.int .u64 0)),t1,v1,(V.lit (Value.bool false)),t1,v3,uu,uu,uu,uu,uu,uu],h4⟩) (
  opsP (xX s 80 wl k false) xg80_0 4 h.length ([],[]) (runK (xX s 80 wl k false) (bodyK s.P Try.f80) xk80_0) ⟨[t0,t1,uu,uu,(V.lit (Value.int .u64 0)),t1,v1,v1,uu,uu,uu,uu,uu,uu,uu,uu],h2⟩) :=
  bodyV_run rfl (go_seq (go_reg0
  (go_op0 rfl rfl (st_id (v := (V.lit (Value.int .u64 0))) (H := h) (by kernel_rfl)
  (go_end0 (by kernel_rfl)
  (go_seq (go_seq (go_reg0
  (go_op0 rfl rfl (st_id (v := t1) (H := h) (by kernel_rfl)
  (go_op0 rfl rfl (st_bm (by kernel_rfl) fun v1 h2 =>
  (go_op0 rfl rfl (st_id (v := v1) (H := h2) (by kernel_rfl)
  (go_gdF0 rfl rfl rfl (by kernel_rfl)
  (go_skip0 rfl rfl rfl (by kernel_rfl)
  (by kernel_rfl))
  (st_id (v := t1) (H := h2) (by kernel_rfl)
  (go_run0 rfl rfl rfl (by kernel_rfl) (st_bm (by kernel_rfl) fun v3 h4 =>
  (by kernel_rfl))))
  (by kernel_rfl))))))))))))))))
theorem xe80 (k wl : Nat) (h : Hp) : evF Try.prog xM (k + 1) wl 80 [t0,t1] h = bodyV (xX (xS k) 80 wl k false) Try.f80 [t0,t1] h := by kernel_rfl
theorem xm80_0 (s : Sys) (k wl : Nat) (m0 : Nat) (ac : List Nat × List Nat) (h : Hp) : opsP (xX s 80 wl k false) xg80_0 5 m0 ac (runK (xX s 80 wl k false) (bodyK s.P Try.f80) xk80_0) ⟨[t0,t1,t2,t3,t4,t5,t6,t7,t8,t9,ta,tb,tc,td,te,tf],h⟩ =
  bm (vPick t7 (V.lit (Value.bool true)) t9) h fun v5 h6 =>
  cnd v5 (
  some (t0,h6)) (
  bm (vBin s.P .shl 28 (V.lit (Value.int .u64 1)) t1) h6 fun v7 h8 =>
  bm (vBin s.P .or 28 t0 v7) h8 fun v9 h10 =>
  some (v9,h10)) :=
  (go_op0 rfl rfl (st_bm (by kernel_rfl) fun v5 h6 =>
  (go_end0 (by kernel_rfl)
  (go_cond (by kernel_rfl)
  (go_seq (go_reg0
  (go_op0 rfl rfl (st_id (v := t0) (H := h6) (by kernel_rfl)
  (go_op0 rfl rfl (st_id (v := t0) (H := h6) (by kernel_rfl)
  (go_end0 (by kernel_rfl)
  (go_ret (rt_seq_ret (by kernel_rfl))))))))))
  (go_skip (go_seq (go_reg0
  (go_op0 rfl rfl (st_id (v := t0) (H := h6) (by kernel_rfl)
  (go_op0 rfl rfl (st_id (v := t1) (H := h6) (by kernel_rfl)
  (go_op0 rfl rfl (st_bm (by kernel_rfl) fun v7 h8 =>
  (go_op0 rfl rfl (st_bm (by kernel_rfl) fun v9 h10 =>
  (go_op0 rfl rfl (st_id (v := v9) (H := h10) (by kernel_rfl)
  (go_end0 (by kernel_rfl)
  (go_ret (by kernel_rfl))))))))))))))))))))
theorem xk80_0_ret (cx : Cx) (K : Out → St → Option (V × Hp)) (s : St) : runK cx K xk80_0 .ret s = K .ret s := by kernel_rfl
-- names: xb80,xm80_0,xk80_0_ret

theorem xb81 (s : Sys) (k wl : Nat) (h : Hp) : bodyV (xX s 81 wl k false) Try.f81 [t0,t1] h =
  bp (opBox t0 h) fun v1 h2 =>
  bp (opBox t1 h2) fun v3 h4 =>
  bm (vLoad s.P 23 v1 h4) h4 fun v5 h6 =>
  bm (vLoad s.P 3 v3 h6) h6 fun v7 h8 =>
  bp (callV (xX s 81 wl k false) false true (.fn (.func 90) [] []) [v5,v7,(.fn (.func 93) [] [v1,v3])] h8) fun v9 h10 =>
  some (v9,h10) :=
  bodyV_run rfl (go_seq (go_reg0
  (go_op0 rfl rfl (st_bp (by kernel_rfl) fun v1 h2 =>
  (go_op0 rfl rfl (st_bp (by kernel_rfl) fun v3 h4 =>
  (go_op0 rfl rfl (st_id (v := (V.lit (Value.int .i64 0))) (H := h4) (by kernel_rfl)
  (go_end0 (by kernel_rfl)
  (go_seq (go_reg0
  (go_op0 rfl rfl (st_bm (by kernel_rfl) fun v5 h6 =>
  (go_op0 rfl rfl (st_bm (by kernel_rfl) fun v7 h8 =>
  (go_op0 rfl rfl (st_id (v := (.fn (.func 93) [] [v1,v3])) (H := h8) (by kernel_rfl)
  (go_op0 rfl rfl (st_bp (by kernel_rfl) fun v9 h10 =>
  (go_op0 rfl rfl (st_id (v := v9) (H := h10) (by kernel_rfl)
  (go_end0 (by kernel_rfl)
  (go_ret (by kernel_rfl))))))))))))))))))))))))
theorem xe81 (k wl : Nat) (h : Hp) : evF Try.prog xM (k + 1) wl 81 [t0,t1] h = bodyV (xX (xS k) 81 wl k false) Try.f81 [t0,t1] h := by kernel_rfl
-- names: xb81,
noncomputable def xg90_0 : Code := codeAt (bodyOf Try.f90) [1,0,0]
noncomputable def xk90_0 : List Fr := [.seq (codeAt (bodyOf Try.f90) [1,0,1]),.seq (codeAt (bodyOf Try.f90) [1,1])]
theorem xb90 (s : Sys) (k wl : Nat) (h : Hp) : bodyV (xX s 90 wl k false) Try.f90 [t0,t1,t2] h =
  bp (opBox t0 h) fun v1 h2 =>
  bm (vLoad s.P 23 v1 h2) h2 fun v3 h4 =>
  bp (callV (xX s 90 wl k false) false true (.fn (.func 14) [] []) [v3] h4) fun v5 h6 =>
  bm (vUn .not v5) h6 fun v7 h8 =>
  gd v7 (
  opsP (xX s 90 wl k false) xg90_0 10 h2.length ([],[]) (runK (xX s 90 wl k false) (bodyK s.P Try.f90) xk90_0) ⟨[t0,t1,t2,v1,uu,uu,(V.lit (Value.int .i64 0)),v3,v5,v7,(V.lit (Value.bool true)),uu,uu,uu,uu,uu,uu,uu,uu,uu],h8⟩) (
  bm (vFieldAddr s.P 23 v1 0) h8 fun v9 h10 =>
  bm (vLoad s.P 3 v9 h10) h10 fun v11 h12 =>
  bm (vBin s.P .sub 3 v11 (V.lit (Value.int .i64 1))) h12 fun v13 h14 =>
  bp (callV (xX s 90 wl k false) false true (.fn (.func 40) [] []) [t1,(V.lit (Value.int .i64 0)),v13] h14) fun v15 h16 =>
  bm (vUn .not v15) h16 fun v17 h18 =>
  opsP (xX s 90 wl k false) xg90_0 10 h2.length ([],[]) (runK (xX s 90 wl k false) (bodyK s.P Try.f90) xk90_0) ⟨[t0,t1,t2,v1,uu,uu,(V.lit (Value.int .i64 0)),v3,v5,v7,(V.lit (Value.bool false)),t1,v9,v11,v13,v15,v17,uu,uu,uu],h18⟩) (
  opsP (xX s 90 wl k false) xg90_0 5 h2.length ([],[]) (runK (xX s 90 wl k false) (bodyK s.P Try.f90) xk90_0) ⟨[t0,t1,t2,v1,uu,uu,(V.lit (Value.int .i64 0)),v3,v5,v7,v7,uu,uu,uu,uu,uu,uu,uu,uu,uu],h8⟩) :=
  bodyV_run rfl (go_seq (go_reg0
  (go_op0 rfl rfl (st_bp (by kernel_rfl) fun v1 h2 =>
  (go_op0 rfl rfl (st_id (v := (V.lit (Value.int .i64 0))) (H := h2) (by kernel_rfl)
  (go_end0 (by kernel_rfl)
  (go_seq (go_seq (go_reg0
  (go_op0 rfl rfl (st_bm (by kernel_rfl) fun v3 h4 =>
  (go_op0 rfl rfl (st_bp (by kernel_rfl) fun v5 h6 =>
  (go_op0 rfl rfl (st_bm (by kernel_rfl) fun v7 h8 =>
  (go_op0 rfl rfl (st_id (v := v7) (H := h8) (by kernel_rfl)
  (go_gdF0 rfl rfl rfl (by kernel_rfl)
  (go_skip0 rfl rfl rfl (by kernel_rfl)
  (go_skip0 rfl rfl rfl (by kernel_rfl)
  (go_skip0 rfl rfl rfl (by kernel_rfl)
  (go_skip0 rfl rfl rfl (by kernel_rfl)
  (go_skip0 rfl rfl rfl (by kernel_rfl)
  (by kernel_rfl))))))
  (st_id (v := t1) (H := h8) (by kernel_rfl)
  (go_run0 rfl rfl rfl (by kernel_rfl) (st_bm (by kernel_rfl) fun v9 h10 =>
  (go_run0 rfl rfl rfl (by kernel_rfl) (st_bm (by kernel_rfl) fun v11 h12 =>
  (go_run0 rfl rfl rfl (by kernel_rfl) (st_bm (by kernel_rfl) fun v13 h14 =>
  (go_run0 rfl rfl rfl (by kernel_rfl) (st_bp (by kernel_rfl) fun v15 h16 =>
  (go_run0 rfl rfl rfl (by kernel_rfl) (st_bm (by kernel_rfl) fun v17 h18 =>
  (by kernel_rfl))))))))))))
  (by kernel_rfl))))))))))))))))))))
theorem xe90 (k wl : Nat) (h : Hp) : evF Try.prog xM (k + 1) wl 90 [t0,t1,t2] h = bodyV (xX (xS k) 90 wl k false) Try.f90 [t0,t1,t2] h := by kernel_rfl
theorem xm90_0 (s : Sys) (k wl : Nat) (m0 : Nat) (ac : List Nat × List Nat) (h : Hp) : opsP (xX s 90 wl k false) xg90_0 10 m0 ac (runK (xX s 90 wl k false) (bodyK s.P Try.f90) xk90_0) ⟨[t0,t1,t2,t3,t4,t5,t6,t7,t8,t9,ta,tb,tc,td,te,tf,tg,th,ti,tj],h⟩ =
  bm (vPick ta (V.lit (Value.bool true)) tg) h fun v19 h20 =>
  cnd v19 (
  some ((V.lit (Value.int .i64 (-1))),h20)) (
  bp (callV (xX s 90 wl k false) false true t2 [] h20) fun v21 h22 =>
  some (v21,h22)) :=
  (go_op0 rfl rfl (st_bm (by kernel_rfl) fun v19 h20 =>
  (go_end0 (by kernel_rfl)
  (go_cond (by kernel_rfl)
  (go_seq (go_reg0
  (go_op0 rfl rfl (st_id (v := (V.lit (Value.int .i64 (-1)))) (H := h20) (by kernel_rfl)
  (go_end0 (by kernel_rfl)
  (go_ret (rt_seq_ret (by kernel_rfl))))))))
  (go_skip (go_seq (go_reg0
  (go_op0 rfl rfl (st_id (v := t2) (H := h20) (by kernel_rfl)
  (go_op0 rfl rfl (st_bp (by kernel_rfl) fun v21 h22 =>
  (go_op0 rfl rfl (st_id (v := v21) (H := h22) (by kernel_rfl)
  (go_end0 (by kernel_rfl)
  (go_ret (by kernel_rfl))))))))))))))))
theorem xk90_0_ret (cx : Cx) (K : Out → St → Option (V × Hp)) (s : St) : runK cx K xk90_0 .ret s = K .ret s := by kernel_rfl
-- names: xb90,xm90_0,xk90_0_ret

theorem xb93 (s : Sys) (k wl : Nat) (h : Hp) : bodyV (xX s 93 wl k false) Try.f93 [t0,t1] h =
  bm (vLoad s.P 23 t0 h) h fun v1 h2 =>
  bm (vLoad s.P 3 t1 h2) h2 fun v3 h4 =>
  bp (callV (xX s 93 wl k false) false true (.fn (.func 49) [] []) [v1,v3] h4) fun v5 h6 =>
  bm (vBin s.P .add 3 v5 (V.lit (Value.int .i64 2))) h6 fun v7 h8 =>
  some (v7,h8) :=
  bodyV_run rfl (go_seq (go_reg0
  (go_op0 rfl rfl (st_id (v := (V.lit (Value.int .i64 0))) (H := h) (by kernel_rfl)
  (go_end0 (by kernel_rfl)
  (go_seq (go_reg0
  (go_op0 rfl rfl (st_bm (by kernel_rfl) fun v1 h2 =>
  (go_op0 rfl rfl (st_bm (by kernel_rfl) fun v3 h4 =>
  (go_op0 rfl rfl (st_bp (by kernel_rfl) fun v5 h6 =>
  (go_op0 rfl rfl (st_bm (by kernel_rfl) fun v7 h8 =>
  (go_op0 rfl rfl (st_id (v := v7) (H := h8) (by kernel_rfl)
  (go_end0 (by kernel_rfl)
  (go_ret (by kernel_rfl))))))))))))))))))))
theorem xe93 (k wl : Nat) (h : Hp) : evF Try.prog xM (k + 1) wl 93 [t0,t1] h = bodyV (xX (xS k) 93 wl k false) Try.f93 [t0,t1] h := by kernel_rfl
-- names: xb93,
end Go.Ab
