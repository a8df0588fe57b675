/- The program's code,point by point: printed by gen.py. -/
import Derived.Test.YtcahlnoianbndaaR4Seat
set_option linter.unusedVariables false
set_option linter.unusedSimpArgs false
set_option maxRecDepth 100000
set_option linter.unusedVariables false
namespace Go.Ab
open Go.Proofs
variable (t0 t1 t2 t3 t4 t5 t6 t7 t8 t9 ta tb tc td te tf tg th ti tj tk tl tm tn tp tq tr ts tt tu tv tw tx ty tz tA tB tC tD tE tF tG tH tI tJ tK tL tM tN tO tP tQ tR tS tT tU tV tW tX tY tZ q0 q1 q2 q3 q4 q5 q6 q7 q8 q9 qa qb qc qd qe qf qg qh qi qj qk ql qm qn qo qp qq qr qs qt qu qv qw : V)
noncomputable def xg46_0 : Code := codeAt (bodyOf Try.f46) [1,0]
noncomputable def xg46_1 : Code := codeAt (bodyOf Try.f46) [1,1,0,1,0,0]
noncomputable def xg46_2 : Code := codeAt (bodyOf Try.f46) [1,1,1,1,1,1,0]
theorem xo46_1 : orderIx (opsOf xg46_0) = [0,1,2,3,4,5,6] := by kernel_rfl
theorem xo46_1a : (rgOf (opsOf xg46_0)).any = false := by kernel_rfl
theorem xo46_1r : regOk (opsOf xg46_0) = true := by kernel_rfl
theorem xo46_3 : orderIx (opsOf xg46_1) = [0,1,2,3,4,5,6] := by kernel_rfl
theorem xo46_3a : (rgOf (opsOf xg46_1)).any = false := by kernel_rfl
theorem xo46_3r : regOk (opsOf xg46_1) = true := by kernel_rfl
theorem xo46_7 : orderIx (opsOf xg46_2) = [0,1,2,3,4,5,6,7,8,9] := by kernel_rfl
theorem xo46_7a : (rgOf (opsOf xg46_2)).any = false := by kernel_rfl
theorem xo46_7r : regOk (opsOf xg46_2) = true := by kernel_rfl
theorem xb46 (s : Sys) (k wl : Nat) (h : Hp) : bodyV (xX s 46 wl k false) Try.f46 [t0,t1,t2] h =
  bp (opBox t0 h) fun v1 h2 =>
  bp (opBox t2 h2) fun v3 h4 =>
  bp (some (.own h4.length 0 0,h4 ++ [.rows 0 [] 0 true])) fun v5 h6 =>
  bp (opAlloc s.P 30 h6) fun v7 h8 =>
  stO h8.length v3 (
  bm (vLoad s.P 30 v3 h8) h8 fun v9 h10 =>
  stO h8.length v1 (
  bm (vLoad s.P 23 v1 h10) h10 fun v11 h12 =>
  bp (callV (xX s 46 wl k false) true true (.fn (.func 21) [] []) [t1] h12) fun v13 h14 =>
  bm (vBuild s.P 96 [(0,v9),(1,v11),(2,v13)]) h14 fun v15 h16 =>
  bp (opBox v15 h16) fun v17 h18 =>
  bm (vLoad s.P 23 v1 h18) h18 fun v19 h20 =>
  bm (vLoad s.P 30 v3 h20) h20 fun v21 h22 =>
  bp (callV (xX s 46 wl k false) false true (.fn (.func 66) [] []) [v19,t1,v21,(V.lit (Value.int .i64 3))] h22) fun v23 h24 =>
  bm (vUn .not v23) h24 fun v25 h26 =>
  cnd v25 (
  bm (vNil v17 h26) h26 fun v27 h28 =>
  bm (vFieldAddr s.P 96 v27 2) h28 fun v29 h30 =>
  bm (vLoad s.P 26 v29 h30) h30 fun v31 h32 =>
  bm (vLoad s.P 30 v3 h32) h32 fun v33 h34 =>
  bs (vStore s.P wl 30 v7 v33 h34) fun h35 =>
  resO [some v31,vLoad s.P 30 v7 h35] h35) (
  bp (vBuildSlice s.P wl 99 5 [(0,(.fn (.func 67) [v17] [])),(1,(.fn (.func 68) [v17] [])),(2,(.fn (.func 69) [v17] [])),(3,(.fn (.func 70) [v17] [])),(4,(.fn (.func 71) [v17] []))] h26) fun v36 h37 =>
  bp (opAlloc s.P 99 h37) fun v38 h39 =>
  bs (vStore s.P wl 99 v38 v36 h39) fun h40 =>
  bp (callV (xX s 46 wl k false) false true (.fn (.func 72) [] [v38,v3]) [] h40) fun v41 h42 =>
  bm (vNil v17 h42) h42 fun v43 h44 =>
  bm (vFieldAddr s.P 96 v43 0) h44 fun v45 h46 =>
  bm (vFieldAddr s.P 30 v45 1) h46 fun v47 h48 =>
  bs (vStore s.P wl 3 v47 v41 h48) fun h49 =>
  bm (vNil v17 h49) h49 fun v50 h51 =>
  bm (vFieldAddr s.P 96 v50 2) h51 fun v52 h53 =>
  bm (vLoad s.P 26 v52 h53) h53 fun v54 h55 =>
  bm (vNil v17 h55) h55 fun v56 h57 =>
  bm (vFieldAddr s.P 96 v56 0) h57 fun v58 h59 =>
  bm (vLoad s.P 30 v58 h59) h59 fun v60 h61 =>
  bs (vStore s.P wl 30 v7 v60 h61) fun h62 =>
  resO [some v54,vLoad s.P 30 v7 h62] h62))) :=
  bodyV_run rfl (go_seq (go_reg0
  (go_op0 rfl rfl (st_bp (by kernel_rfl) fun v1 h2 =>
  (go_op0 rfl rfl (st_bp (by kernel_rfl) fun v3 h4 =>
  (go_op0 rfl rfl (st_bp (by kernel_rfl) fun v5 h6 =>
  (go_op0 rfl rfl (st_bp (by kernel_rfl) fun v7 h8 =>
  (go_end0 (by kernel_rfl)
  (go_seq (go_reg1 xo46_1r
  (go_op1 xo46_1 xo46_1a rfl rfl rfl (st_yes (by kernel_rfl) (st_bm (by kernel_rfl) fun v9 h10 =>
  (go_op1 xo46_1 xo46_1a rfl rfl rfl (st_yes (by kernel_rfl) (st_bm (by kernel_rfl) fun v11 h12 =>
  (go_op1 xo46_1 xo46_1a rfl rfl rfl (st_no (by kernel_rfl) (st_id (v := t1) (H := h12) (by kernel_rfl)
  (go_op1 xo46_1 xo46_1a rfl rfl rfl (st_no (by kernel_rfl) (st_bp (by kernel_rfl) fun v13 h14 =>
  (go_op1 xo46_1 xo46_1a rfl rfl rfl (st_no (by kernel_rfl) (st_bm (by kernel_rfl) fun v15 h16 =>
  (go_op1 xo46_1 xo46_1a rfl rfl rfl (st_no (by kernel_rfl) (st_bp (by kernel_rfl) fun v17 h18 =>
  (go_op1 xo46_1 xo46_1a rfl rfl rfl (st_no (by kernel_rfl) (st_id (v := v17) (H := h18) (by kernel_rfl)
  (go_end1 xo46_1 (by kernel_rfl) xo46_1a
  (go_seq (go_seq (go_reg0
  (go_op0 rfl rfl (st_bm (by kernel_rfl) fun v19 h20 =>
  (go_op0 rfl rfl (st_id (v := t1) (H := h20) (by kernel_rfl)
  (go_op0 rfl rfl (st_bm (by kernel_rfl) fun v21 h22 =>
  (go_op0 rfl rfl (st_bp (by kernel_rfl) fun v23 h24 =>
  (go_op0 rfl rfl (st_bm (by kernel_rfl) fun v25 h26 =>
  (go_end0 (by kernel_rfl)
  (go_cond (by kernel_rfl)
  (go_seq (go_reg1 xo46_3r
  (go_op1 xo46_3 xo46_3a rfl rfl rfl (st_no (by kernel_rfl) (st_id (v := v17) (H := h26) (by kernel_rfl)
  (go_op1 xo46_3 xo46_3a rfl rfl rfl (st_no (by kernel_rfl) (st_bm (by kernel_rfl) fun v27 h28 =>
  (go_op1 xo46_3 xo46_3a rfl rfl rfl (st_no (by kernel_rfl) (st_bm (by kernel_rfl) fun v29 h30 =>
  (go_op1 xo46_3 xo46_3a rfl rfl rfl (st_no (by kernel_rfl) (st_bm (by kernel_rfl) fun v31 h32 =>
  (go_op1 xo46_3 xo46_3a rfl rfl rfl (st_no (by kernel_rfl) (st_bm (by kernel_rfl) fun v33 h34 =>
  (go_op1 xo46_3 xo46_3a rfl rfl rfl (st_no (by kernel_rfl) (st_id (v := v31) (H := h34) (by kernel_rfl)
  (go_op1 xo46_3 xo46_3a rfl rfl rfl (st_no (by kernel_rfl) (st_bs (by kernel_rfl) fun h35 =>
  (go_end1 xo46_3 (by kernel_rfl) xo46_3a
  (go_ret (rt_seq_ret (by kernel_rfl)))))))))))))))))))))))))))
  (go_skip (go_seq (go_reg0
  (go_op0 rfl rfl (st_id (v := v17) (H := h26) (by kernel_rfl)
  (go_op0 rfl rfl (st_id (v := (.fn (.func 67) [v17] [])) (H := h26) (by kernel_rfl)
  (go_op0 rfl rfl (st_id (v := v17) (H := h26) (by kernel_rfl)
  (go_op0 rfl rfl (st_id (v := (.fn (.func 68) [v17] [])) (H := h26) (by kernel_rfl)
  (go_op0 rfl rfl (st_id (v := v17) (H := h26) (by kernel_rfl)
  (go_op0 rfl rfl (st_id (v := (.fn (.func 69) [v17] [])) (H := h26) (by kernel_rfl)
  (go_op0 rfl rfl (st_id (v := v17) (H := h26) (by kernel_rfl)
  (go_op0 rfl rfl (st_id (v := (.fn (.func 70) [v17] [])) (H := h26) (by kernel_rfl)
  (go_op0 rfl rfl (st_id (v := v17) (H := h26) (by kernel_rfl)
  (go_op0 rfl rfl (st_id (v := (.fn (.func 71) [v17] [])) (H := h26) (by kernel_rfl)
  (go_op0 rfl rfl (st_bp (by kernel_rfl) fun v36 h37 =>
  (go_op0 rfl rfl (st_bp (by kernel_rfl) fun v38 h39 =>
  (go_op0 rfl rfl (st_bs (by kernel_rfl) fun h40 =>
  (go_end0 (by kernel_rfl)
  (go_seq (go_reg0
  (go_op0 rfl rfl (st_id (v := (.fn (.func 72) [] [v38,v3])) (H := h40) (by kernel_rfl)
  (go_op0 rfl rfl (st_id (v := (.fn (.func 72) [] [v38,v3])) (H := h40) (by kernel_rfl)
  (go_end0 (by kernel_rfl)
  (go_seq (go_reg0
  (go_op0 rfl rfl (st_id (v := v17) (H := h40) (by kernel_rfl)
  (go_op0 rfl rfl (st_id (v := (.fn (.func 72) [] [v38,v3])) (H := h40) (by kernel_rfl)
  (go_op0 rfl rfl (st_bp (by kernel_rfl) fun v41 h42 =>
  (go_op0 rfl rfl (st_bm (by kernel_rfl) fun v43 h44 =>
  (go_op0 rfl rfl (st_bm (by kernel_rfl) fun v45 h46 =>
  (go_op0 rfl rfl (st_bm (by kernel_rfl) fun v47 h48 =>
  (go_op0 rfl rfl (st_bs (by kernel_rfl) fun h49 =>
  (go_end0 (by kernel_rfl)
  (go_seq (go_reg1 xo46_7r
  (go_op1 xo46_7 xo46_7a rfl rfl rfl (st_no (by kernel_rfl) (st_id (v := v17) (H := h49) (by kernel_rfl)
  (go_op1 xo46_7 xo46_7a rfl rfl rfl (st_no (by kernel_rfl) (st_bm (by kernel_rfl) fun v50 h51 =>
  (go_op1 xo46_7 xo46_7a rfl rfl rfl (st_no (by kernel_rfl) (st_bm (by kernel_rfl) fun v52 h53 =>
  (go_op1 xo46_7 xo46_7a rfl rfl rfl (st_no (by kernel_rfl) (st_bm (by kernel_rfl) fun v54 h55 =>
  (go_op1 xo46_7 xo46_7a rfl rfl rfl (st_no (by kernel_rfl) (st_id (v := v17) (H := h55) (by kernel_rfl)
  (go_op1 xo46_7 xo46_7a rfl rfl rfl (st_no (by kernel_rfl) (st_bm (by kernel_rfl) fun v56 h57 =>
  (go_op1 xo46_7 xo46_7a rfl rfl rfl (st_no (by kernel_rfl) (st_bm (by kernel_rfl) fun v58 h59 =>
  (go_op1 xo46_7 xo46_7a rfl rfl rfl (st_no (by kernel_rfl) (st_bm (by kernel_rfl) fun v60 h61 =>
  (go_op1 xo46_7 xo46_7a rfl rfl rfl (st_no (by kernel_rfl) (st_id (v := v54) (H := h61) (by kernel_rfl)
  (go_op1 xo46_7 xo46_7a rfl rfl rfl (st_no (by kernel_rfl) (st_bs (by kernel_rfl) fun h62 =>
  (go_end1 xo46_7 (by kernel_rfl) xo46_7a
  (go_ret (by kernel_rfl)))))))))))))))))))))))))))))))))))))))))))))))))))))))))))))))))))))))))))))))))))))))))))))))))))))))))))))))))))))))))))))))))))))))))))
theorem xe46 (k wl : Nat) (h : Hp) : evF Try.prog xM (k + 1) wl 46 [t0,t1,t2] h = bodyV (xX (xS k) 46 wl k false) Try.f46 [t0,t1,t2] h := by kernel_rfl
-- names: xb46,
noncomputable def xg47_0 : Code := codeAt (bodyOf Try.f47) [1,1,0,1,0,0]
noncomputable def xk47_0 : List Fr := [.block 0,.seq (codeAt (bodyOf Try.f47) [1,1,1,1])]
noncomputable def xg47_1 : Code := codeAt (bodyOf Try.f47) [1,1,1,0,1,0,1,1,1,0,1,0]
noncomputable def xg47_2 : Code := codeAt (bodyOf Try.f47) [1,1,1,0,1,0,1,1,1,1,1,1,1,1,0]
noncomputable def xg47_3 : Code := codeAt (bodyOf Try.f47) [1,1,1,1,0]
theorem xo47_3 : orderIx (opsOf xg47_0) = [0,1,2,3] := by kernel_rfl
theorem xo47_3a : (rgOf (opsOf xg47_0)).any = false := by kernel_rfl
theorem xo47_3r : regOk (opsOf xg47_0) = true := by kernel_rfl
theorem xo47_11 : orderIx (opsOf xg47_1) = [0,1,2,3,4,5,6,7] := by kernel_rfl
theorem xo47_11a : (rgOf (opsOf xg47_1)).any = false := by kernel_rfl
theorem xo47_11r : regOk (opsOf xg47_1) = true := by kernel_rfl
theorem xo47_5 : orderIx (opsOf xg47_2) = [0,1,2,3,4,5,6,7,8,9,10,11] := by kernel_rfl
theorem xo47_5a : (rgOf (opsOf xg47_2)).any = false := by kernel_rfl
theorem xo47_5r : regOk (opsOf xg47_2) = true := by kernel_rfl
theorem xo47_24 : orderIx (opsOf xg47_3) = [0,1,2,3] := by kernel_rfl
theorem xo47_24a : (rgOf (opsOf xg47_3)).any = false := by kernel_rfl
theorem xo47_24r : regOk (opsOf xg47_3) = true := by kernel_rfl
theorem xb47 (s : Sys) (k wl : Nat) (h : Hp) : bodyV (xX s 47 wl k false) Try.f47 [t0,t1,t2] h =
  bp (opBox t0 h) fun v1 h2 =>
  bp (opBox t2 h2) fun v3 h4 =>
  bp (some (.own h4.length 0 0,h4 ++ [.rows 0 [] 0 true])) fun v5 h6 =>
  bp (opAlloc s.P 30 h6) fun v7 h8 =>
  bp (callV (xX s 47 wl k false) false true (.fn (.func 21) [] []) [t1] h8) fun v9 h10 =>
  bm (vLoad s.P 23 v1 h10) h10 fun v11 h12 =>
  bm (vLoad s.P 30 v3 h12) h12 fun v13 h14 =>
  bp (callV (xX s 47 wl k false) false true (.fn (.func 66) [] []) [v11,t1,v13,(V.lit (Value.int .i64 4))] h14) fun v15 h16 =>
  bm (vUn .not v15) h16 fun v17 h18 =>
  cnd v17 (
  bm (vLoad s.P 30 v3 h18) h18 fun v19 h20 =>
  bs (vStore s.P wl 30 v7 v19 h20) fun h21 =>
  resO [some v9,vLoad s.P 30 v7 h21] h21) (
  bm (vFieldAddr s.P 30 v3 1) h18 fun v22 h23 =>
  bm (vLoad s.P 3 v22 h23) h23 fun v24 h25 =>
  bm (vBin s.P .eql 3 v24 (V.lit (Value.int .i64 0))) h25 fun v26 h27 =>
  cnd v26 (
  bp (callV (xX s 47 wl k false) false true (.fn (.func 17) [] []) [v9,(V.lit (Value.int .i64 4))] h27) fun v28 h29 =>
  bm (vFieldAddr s.P 30 v3 4) h29 fun v30 h31 =>
  bs (vStore s.P wl 28 v30 v28 h31) fun h32 =>
  bm (vFieldAddr s.P 30 v3 1) h32 fun v33 h34 =>
  bs (vStore s.P wl 3 v33 (V.lit (Value.int .i64 1)) h34) fun h35 =>
  runK (xX s 47 wl k false) (bodyK s.P Try.f47) xk47_0 .norm ⟨(t0::t1::t2::v1::uu::v3::v5::v7::v9::uu::uu::t1::v9::v11::t1::v13::v15::v17::uu::uu::v22::v24::uu::uu::uu::uu::uu::uu::uu::uu::uu::uu::uu::uu::uu::uu::uu::v26::v26::v9::v28::v30::v33::uu::uu::uu::uu::uu::uu::uu::uu::uu::uu::uu::uu::uu::uu::uu::uu::uu::uu::uu::uu::uu::uu::uu::uu::uu::uu::uu::uu::uu::uu::uu::uu::uu::uu::uu::uu::uu::uu::uu::uu::uu::uu::uu::uu::uu::uu::uu::uu::uu::uu::uu::[]),h35⟩) (
  bm (vBin s.P .eql 3 v24 (V.lit (Value.int .i64 1))) h27 fun v36 h37 =>
  cnd v36 (
  bm (vLoad s.P 23 v1 h37) h37 fun v38 h39 =>
  bm (vFieldAddr s.P 30 v3 4) h39 fun v40 h41 =>
  bm (vLoad s.P 28 v40 h41) h41 fun v42 h43 =>
  bp (callV (xX s 47 wl k false) false true (.fn (.func 73) [] []) [v38,v42] h43) fun v44 h45 =>
  bp (callV (xX s 47 wl k false) false true (.fn (.func 17) [] []) [v9,v44] h45) fun v46 h47 =>
  bm (vFieldAddr s.P 30 v3 5) h47 fun v48 h49 =>
  bs (vStore s.P wl 28 v48 v46 h49) fun h50 =>
  bm (vFieldAddr s.P 30 v3 1) h50 fun v51 h52 =>
  bs (vStore s.P wl 3 v51 (V.lit (Value.int .i64 0)) h52) fun h53 =>
  bm (vFieldAddr s.P 30 v3 5) h53 fun v54 h55 =>
  stO h53.length v54 (
  bm (vLoad s.P 28 v54 h55) h55 fun v56 h57 =>
  bm (vLoad s.P 23 v1 h57) h57 fun v58 h59 =>
  bm (vFieldAddr s.P 30 v3 4) h59 fun v60 h61 =>
  bm (vLoad s.P 28 v60 h61) h61 fun v62 h63 =>
  bp (callV (xX s 47 wl k false) true true (.fn (.func 75) [] []) [v58,v62] h63) fun v64 h65 =>
  bp (callV (xX s 47 wl k false) false true (.fn (.func 74) [] []) [v56,v64] h65) fun v66 h67 =>
  bm (vBin s.P .eql 3 v66 (V.lit (Value.int .i64 0))) h67 fun v68 h69 =>
  cnd v68 (
  bm (vFieldAddr s.P 30 v3 1) h69 fun v70 h71 =>
  bs (vStore s.P wl 3 v70 (V.lit (Value.int .i64 2)) h71) fun h72 =>
  runK (xX s 47 wl k false) (bodyK s.P Try.f47) xk47_0 .norm ⟨(t0::t1::t2::v1::uu::v3::v5::v7::v9::v66::uu::t1::v9::v11::t1::v13::v15::v17::uu::uu::v22::v24::uu::uu::uu::uu::uu::uu::uu::uu::uu::uu::uu::uu::uu::uu::uu::v26::v26::uu::uu::uu::uu::v36::v36::v9::v38::v40::v42::v44::v46::v48::v51::v54::v56::v58::v60::v62::v64::v66::v66::v68::v70::uu::uu::uu::uu::uu::uu::uu::uu::uu::uu::uu::uu::uu::uu::uu::uu::uu::uu::uu::uu::uu::uu::uu::uu::uu::uu::uu::uu::uu::uu::uu::[]),h72⟩) (
  bm (vBin s.P .lss 3 v66 (V.lit (Value.int .i64 0))) h69 fun v73 h74 =>
  cnd v73 (
  bm (vLoad s.P 30 v3 h74) h74 fun v75 h76 =>
  bp (callV (xX s 47 wl k false) false true (.fn (.func 63) [] []) [v75,(V.lit (Value.int .i64 3)),(V.lit (Value.int .u64 0))] h76) fun v77 h78 =>
  bs (vStore s.P wl 30 v3 v77 h78) fun h79 =>
  runK (xX s 47 wl k false) (bodyK s.P Try.f47) xk47_0 .norm ⟨(t0::t1::t2::v1::uu::v3::v5::v7::v9::v66::uu::t1::v9::v11::t1::v13::v15::v17::uu::uu::v22::v24::uu::uu::uu::uu::uu::uu::uu::uu::uu::uu::uu::uu::uu::uu::uu::v26::v26::uu::uu::uu::uu::v36::v36::v9::v38::v40::v42::v44::v46::v48::v51::v54::v56::v58::v60::v62::v64::v66::v66::v68::uu::v66::v73::v75::v77::uu::uu::uu::uu::uu::uu::uu::uu::uu::uu::uu::uu::uu::uu::uu::uu::uu::uu::uu::uu::uu::uu::uu::uu::uu::uu::uu::[]),h79⟩) (
  runK (xX s 47 wl k false) (bodyK s.P Try.f47) xk47_0 .norm ⟨(t0::t1::t2::v1::uu::v3::v5::v7::v9::v66::uu::t1::v9::v11::t1::v13::v15::v17::uu::uu::v22::v24::uu::uu::uu::uu::uu::uu::uu::uu::uu::uu::uu::uu::uu::uu::uu::v26::v26::uu::uu::uu::uu::v36::v36::v9::v38::v40::v42::v44::v46::v48::v51::v54::v56::v58::v60::v62::v64::v66::v66::v68::uu::v66::v73::uu::uu::uu::uu::uu::uu::uu::uu::uu::uu::uu::uu::uu::uu::uu::uu::uu::uu::uu::uu::uu::uu::uu::uu::uu::uu::uu::uu::uu::[]),h74⟩)))) (
  bm (vBin s.P .eql 3 v24 (V.lit (Value.int .i64 2))) h37 fun v80 h81 =>
  cnd v80 (
  bm (vFieldAddr s.P 30 v3 1) h81 fun v82 h83 =>
  bs (vStore s.P wl 3 v82 (V.lit (Value.int .i64 0)) h83) fun h84 =>
  bm (vFieldAddr s.P 30 v3 4) h84 fun v85 h86 =>
  bm (vLoad s.P 28 v85 h86) h86 fun v87 h88 =>
  bm (vFieldAddr s.P 30 v3 4) h88 fun v89 h90 =>
  bm (vLoad s.P 28 v89 h90) h90 fun v91 h92 =>
  bm (vBin s.P .add 28 v91 (V.lit (Value.int .u64 1))) h92 fun v93 h94 =>
  bp (callV (xX s 47 wl k false) false true (.fn (.func 61) [] []) [v9,(V.lit (Value.int .i64 4)),v87,v93] h94) fun v95 h96 =>
  bm (vExtract v95 0) h96 fun v97 h98 =>
  bm (vExtract v95 1) h98 fun v99 h100 =>
  cnd v99 (
  bm (vFieldAddr s.P 30 v3 1) h100 fun v101 h102 =>
  bs (vStore s.P wl 3 v101 (V.lit (Value.int .i64 3)) h102) fun h103 =>
  runK (xX s 47 wl k false) (bodyK s.P Try.f47) xk47_0 .norm ⟨(t0::t1::t2::v1::uu::v3::v5::v7::v97::uu::v99::t1::v9::v11::t1::v13::v15::v17::uu::uu::v22::v24::uu::uu::uu::uu::uu::uu::uu::uu::uu::uu::uu::uu::uu::uu::uu::v26::v26::uu::uu::uu::uu::v36::v36::uu::uu::uu::uu::uu::uu::uu::uu::uu::uu::uu::uu::uu::uu::uu::uu::uu::uu::uu::uu::uu::uu::v80::v80::v82::v95::v9::v85::v87::v89::v91::v93::v95::v97::v99::v99::v101::uu::uu::uu::uu::uu::uu::uu::uu::uu::uu::uu::uu::[]),h103⟩) (
  runK (xX s 47 wl k false) (bodyK s.P Try.f47) xk47_0 .norm ⟨(t0::t1::t2::v1::uu::v3::v5::v7::v97::uu::v99::t1::v9::v11::t1::v13::v15::v17::uu::uu::v22::v24::uu::uu::uu::uu::uu::uu::uu::uu::uu::uu::uu::uu::uu::uu::uu::v26::v26::uu::uu::uu::uu::v36::v36::uu::uu::uu::uu::uu::uu::uu::uu::uu::uu::uu::uu::uu::uu::uu::uu::uu::uu::uu::uu::uu::uu::v80::v80::v82::v95::v9::v85::v87::v89::v91::v93::v95::v97::v99::v99::uu::uu::uu::uu::uu::uu::uu::uu::uu::uu::uu::uu::uu::[]),h100⟩)) (
  bm (vBin s.P .eql 3 v24 (V.lit (Value.int .i64 3))) h81 fun v104 h105 =>
  cnd v104 (
  bm (vLoad s.P 23 v1 h105) h105 fun v106 h107 =>
  bm (vFieldAddr s.P 30 v3 4) h107 fun v108 h109 =>
  bm (vLoad s.P 28 v108 h109) h109 fun v110 h111 =>
  bp (callV (xX s 47 wl k false) false true (.fn (.func 76) [] []) [v106,v110] h111) fun v112 h113 =>
  bp (callV (xX s 47 wl k false) false true (.fn (.func 17) [] []) [v9,v112] h113) fun v114 h115 =>
  bm (vFieldAddr s.P 30 v3 3) h115 fun v116 h117 =>
  bs (vStore s.P wl 28 v116 v114 h117) fun h118 =>
  bm (vFieldAddr s.P 30 v3 1) h118 fun v119 h120 =>
  bs (vStore s.P wl 3 v119 (V.lit (Value.int .i64 4)) h120) fun h121 =>
  runK (xX s 47 wl k false) (bodyK s.P Try.f47) xk47_0 .norm ⟨(t0::t1::t2::v1::uu::v3::v5::v7::v9::uu::uu::t1::v9::v11::t1::v13::v15::v17::uu::uu::v22::v24::uu::uu::uu::uu::uu::uu::uu::uu::uu::uu::uu::uu::uu::uu::uu::v26::v26::uu::uu::uu::uu::v36::v36::uu::uu::uu::uu::uu::uu::uu::uu::uu::uu::uu::uu::uu::uu::uu::uu::uu::uu::uu::uu::uu::uu::v80::v80::uu::uu::uu::uu::uu::uu::uu::uu::uu::uu::uu::uu::uu::v104::v104::v9::v106::v108::v110::v112::v114::v116::v119::uu::uu::[]),h121⟩) (
  bm (vLoad s.P 23 v1 h105) h105 fun v122 h123 =>
  bm (vFieldAddr s.P 30 v3 4) h123 fun v124 h125 =>
  bm (vLoad s.P 28 v124 h125) h125 fun v126 h127 =>
  bp (callV (xX s 47 wl k false) true true (.fn (.func 73) [] []) [v122,v126] h127) fun v128 h129 =>
  stO h105.length v1 (
  bm (vLoad s.P 23 v1 h129) h129 fun v130 h131 =>
  bm (vFieldAddr s.P 30 v3 4) h131 fun v132 h133 =>
  stO h105.length v132 (
  bm (vLoad s.P 28 v132 h133) h133 fun v134 h135 =>
  bp (callV (xX s 47 wl k false) false true (.fn (.func 75) [] []) [v130,v134] h135) fun v136 h137 =>
  bm (vBin s.P .add 28 v136 (V.lit (Value.int .u64 1))) h137 fun v138 h139 =>
  bp (callV (xX s 47 wl k false) false true (.fn (.func 18) [] []) [v9,v128,v138] h139) fun v140 h141 =>
  bm (vLoad s.P 30 v3 h141) h141 fun v142 h143 =>
  bm (vFieldAddr s.P 30 v3 3) h143 fun v144 h145 =>
  bm (vLoad s.P 28 v144 h145) h145 fun v146 h147 =>
  bp (callV (xX s 47 wl k false) false true (.fn (.func 63) [] []) [v142,(V.lit (Value.int .i64 1)),v146] h147) fun v148 h149 =>
  bs (vStore s.P wl 30 v3 v148 h149) fun h150 =>
  runK (xX s 47 wl k false) (bodyK s.P Try.f47) xk47_0 .norm ⟨(t0::t1::t2::v1::uu::v3::v5::v7::v140::uu::uu::t1::v9::v11::t1::v13::v15::v17::uu::uu::v22::v24::v9::v122::v124::v126::v128::v130::v132::v134::v136::v138::v140::v142::v144::v146::v148::v26::v26::uu::uu::uu::uu::v36::v36::uu::uu::uu::uu::uu::uu::uu::uu::uu::uu::uu::uu::uu::uu::uu::uu::uu::uu::uu::uu::uu::uu::v80::v80::uu::uu::uu::uu::uu::uu::uu::uu::uu::uu::uu::uu::uu::v104::v104::uu::uu::uu::uu::uu::uu::uu::uu::uu::uu::[]),h150⟩))))))) :=
  bodyV_run rfl (go_seq (go_reg0
  (go_op0 rfl rfl (st_bp (by kernel_rfl) fun v1 h2 =>
  (go_op0 rfl rfl (st_bp (by kernel_rfl) fun v3 h4 =>
  (go_op0 rfl rfl (st_bp (by kernel_rfl) fun v5 h6 =>
  (go_op0 rfl rfl (st_bp (by kernel_rfl) fun v7 h8 =>
  (go_end0 (by kernel_rfl)
  (go_seq (go_reg0
  (go_op0 rfl rfl (st_id (v := t1) (H := h8) (by kernel_rfl)
  (go_op0 rfl rfl (st_bp (by kernel_rfl) fun v9 h10 =>
  (go_op0 rfl rfl (st_id (v := v9) (H := h10) (by kernel_rfl)
  (go_end0 (by kernel_rfl)
  (go_seq (go_seq (go_reg0
  (go_op0 rfl rfl (st_bm (by kernel_rfl) fun v11 h12 =>
  (go_op0 rfl rfl (st_id (v := t1) (H := h12) (by kernel_rfl)
  (go_op0 rfl rfl (st_bm (by kernel_rfl) fun v13 h14 =>
  (go_op0 rfl rfl (st_bp (by kernel_rfl) fun v15 h16 =>
  (go_op0 rfl rfl (st_bm (by kernel_rfl) fun v17 h18 =>
  (go_end0 (by kernel_rfl)
  (go_cond (by kernel_rfl)
  (go_seq (go_reg1 xo47_3r
  (go_op1 xo47_3 xo47_3a rfl rfl rfl (st_no (by kernel_rfl) (st_id (v := v9) (H := h18) (by kernel_rfl)
  (go_op1 xo47_3 xo47_3a rfl rfl rfl (st_no (by kernel_rfl) (st_bm (by kernel_rfl) fun v19 h20 =>
  (go_op1 xo47_3 xo47_3a rfl rfl rfl (st_no (by kernel_rfl) (st_id (v := v9) (H := h20) (by kernel_rfl)
  (go_op1 xo47_3 xo47_3a rfl rfl rfl (st_no (by kernel_rfl) (st_bs (by kernel_rfl) fun h21 =>
  (go_end1 xo47_3 (by kernel_rfl) xo47_3a
  (go_ret (rt_seq_ret (by kernel_rfl))))))))))))))))))
  (go_skip (go_seq (go_seq (go_reg0
  (go_op0 rfl rfl (st_bm (by kernel_rfl) fun v22 h23 =>
  (go_op0 rfl rfl (st_bm (by kernel_rfl) fun v24 h25 =>
  (go_end0 (by kernel_rfl)
  (go_block (go_seq (go_reg0
  (go_op0 rfl rfl (st_bm (by kernel_rfl) fun v26 h27 =>
  (go_op0 rfl rfl (st_id (v := v26) (H := h27) (by kernel_rfl)
  (go_end0 (by kernel_rfl)
  (go_cond (by kernel_rfl)
  (go_reg0
  (go_op0 rfl rfl (st_id (v := v9) (H := h27) (by kernel_rfl)
  (go_op0 rfl rfl (st_bp (by kernel_rfl) fun v28 h29 =>
  (go_op0 rfl rfl (st_bm (by kernel_rfl) fun v30 h31 =>
  (go_op0 rfl rfl (st_bs (by kernel_rfl) fun h32 =>
  (go_op0 rfl rfl (st_bm (by kernel_rfl) fun v33 h34 =>
  (go_op0 rfl rfl (st_bs (by kernel_rfl) fun h35 =>
  (go_end0 (by kernel_rfl)
  (by kernel_rfl)))))))))))))))
  (go_seq (go_reg0
  (go_op0 rfl rfl (st_bm (by kernel_rfl) fun v36 h37 =>
  (go_op0 rfl rfl (st_id (v := v36) (H := h37) (by kernel_rfl)
  (go_end0 (by kernel_rfl)
  (go_cond (by kernel_rfl)
  (go_seq (go_reg0
  (go_op0 rfl rfl (st_id (v := v9) (H := h37) (by kernel_rfl)
  (go_op0 rfl rfl (st_bm (by kernel_rfl) fun v38 h39 =>
  (go_op0 rfl rfl (st_bm (by kernel_rfl) fun v40 h41 =>
  (go_op0 rfl rfl (st_bm (by kernel_rfl) fun v42 h43 =>
  (go_op0 rfl rfl (st_bp (by kernel_rfl) fun v44 h45 =>
  (go_op0 rfl rfl (st_bp (by kernel_rfl) fun v46 h47 =>
  (go_op0 rfl rfl (st_bm (by kernel_rfl) fun v48 h49 =>
  (go_op0 rfl rfl (st_bs (by kernel_rfl) fun h50 =>
  (go_op0 rfl rfl (st_bm (by kernel_rfl) fun v51 h52 =>
  (go_op0 rfl rfl (st_bs (by kernel_rfl) fun h53 =>
  (go_end0 (by kernel_rfl)
  (go_seq (go_reg1 xo47_11r
  (go_op1 xo47_11 xo47_11a rfl rfl rfl (st_no (by kernel_rfl) (st_bm (by kernel_rfl) fun v54 h55 =>
  (go_op1 xo47_11 xo47_11a rfl rfl rfl (st_yes (by kernel_rfl) (st_bm (by kernel_rfl) fun v56 h57 =>
  (go_op1 xo47_11 xo47_11a rfl rfl rfl (st_no (by kernel_rfl) (st_bm (by kernel_rfl) fun v58 h59 =>
  (go_op1 xo47_11 xo47_11a rfl rfl rfl (st_no (by kernel_rfl) (st_bm (by kernel_rfl) fun v60 h61 =>
  (go_op1 xo47_11 xo47_11a rfl rfl rfl (st_no (by kernel_rfl) (st_bm (by kernel_rfl) fun v62 h63 =>
  (go_op1 xo47_11 xo47_11a rfl rfl rfl (st_no (by kernel_rfl) (st_bp (by kernel_rfl) fun v64 h65 =>
  (go_op1 xo47_11 xo47_11a rfl rfl rfl (st_no (by kernel_rfl) (st_bp (by kernel_rfl) fun v66 h67 =>
  (go_op1 xo47_11 xo47_11a rfl rfl rfl (st_no (by kernel_rfl) (st_id (v := v66) (H := h67) (by kernel_rfl)
  (go_end1 xo47_11 (by kernel_rfl) xo47_11a
  (go_seq (go_reg0
  (go_op0 rfl rfl (st_id (v := v66) (H := h67) (by kernel_rfl)
  (go_op0 rfl rfl (st_bm (by kernel_rfl) fun v68 h69 =>
  (go_end0 (by kernel_rfl)
  (go_cond (by kernel_rfl)
  (go_reg0
  (go_op0 rfl rfl (st_bm (by kernel_rfl) fun v70 h71 =>
  (go_op0 rfl rfl (st_bs (by kernel_rfl) fun h72 =>
  (go_end0 (by kernel_rfl)
  (by kernel_rfl)))))))
  (go_seq (go_reg0
  (go_op0 rfl rfl (st_id (v := v66) (H := h69) (by kernel_rfl)
  (go_op0 rfl rfl (st_bm (by kernel_rfl) fun v73 h74 =>
  (go_end0 (by kernel_rfl)
  (go_cond (by kernel_rfl)
  (go_reg0
  (go_op0 rfl rfl (st_bm (by kernel_rfl) fun v75 h76 =>
  (go_op0 rfl rfl (st_bp (by kernel_rfl) fun v77 h78 =>
  (go_op0 rfl rfl (st_bs (by kernel_rfl) fun h79 =>
  (go_end0 (by kernel_rfl)
  (by kernel_rfl)))))))))
  (go_skip (by kernel_rfl))))))))))))))))))))))))))))))))))))))))))))))))))))))))))))))))))))
  (go_seq (go_reg0
  (go_op0 rfl rfl (st_bm (by kernel_rfl) fun v80 h81 =>
  (go_op0 rfl rfl (st_id (v := v80) (H := h81) (by kernel_rfl)
  (go_end0 (by kernel_rfl)
  (go_cond (by kernel_rfl)
  (go_seq (go_reg0
  (go_op0 rfl rfl (st_id (v := (V.lit (Value.bool false))) (H := h81) (by kernel_rfl)
  (go_end0 (by kernel_rfl)
  (go_seq (go_reg0
  (go_op0 rfl rfl (st_bm (by kernel_rfl) fun v82 h83 =>
  (go_op0 rfl rfl (st_bs (by kernel_rfl) fun h84 =>
  (go_end0 (by kernel_rfl)
  (go_seq (go_reg0
  (go_op0 rfl rfl (st_id (v := v9) (H := h84) (by kernel_rfl)
  (go_op0 rfl rfl (st_bm (by kernel_rfl) fun v85 h86 =>
  (go_op0 rfl rfl (st_bm (by kernel_rfl) fun v87 h88 =>
  (go_op0 rfl rfl (st_bm (by kernel_rfl) fun v89 h90 =>
  (go_op0 rfl rfl (st_bm (by kernel_rfl) fun v91 h92 =>
  (go_op0 rfl rfl (st_bm (by kernel_rfl) fun v93 h94 =>
  (go_op0 rfl rfl (st_bp (by kernel_rfl) fun v95 h96 =>
  (go_op0 rfl rfl (st_id (v := v95) (H := h96) (by kernel_rfl)
  (go_op0 rfl rfl (st_bm (by kernel_rfl) fun v97 h98 =>
  (go_op0 rfl rfl (st_bm (by kernel_rfl) fun v99 h100 =>
  (go_op0 rfl rfl (st_id (v := v97) (H := h100) (by kernel_rfl)
  (go_op0 rfl rfl (st_id (v := v99) (H := h100) (by kernel_rfl)
  (go_end0 (by kernel_rfl)
  (go_seq (go_reg0
  (go_op0 rfl rfl (st_id (v := v99) (H := h100) (by kernel_rfl)
  (go_end0 (by kernel_rfl)
  (go_cond (by kernel_rfl)
  (go_reg0
  (go_op0 rfl rfl (st_bm (by kernel_rfl) fun v101 h102 =>
  (go_op0 rfl rfl (st_bs (by kernel_rfl) fun h103 =>
  (go_end0 (by kernel_rfl)
  (by kernel_rfl)))))))
  (go_skip (by kernel_rfl)))))))))))))))))))))))))))))))))))))))))))))))
  (go_seq (go_reg0
  (go_op0 rfl rfl (st_bm (by kernel_rfl) fun v104 h105 =>
  (go_op0 rfl rfl (st_id (v := v104) (H := h105) (by kernel_rfl)
  (go_end0 (by kernel_rfl)
  (go_cond (by kernel_rfl)
  (go_reg0
  (go_op0 rfl rfl (st_id (v := v9) (H := h105) (by kernel_rfl)
  (go_op0 rfl rfl (st_bm (by kernel_rfl) fun v106 h107 =>
  (go_op0 rfl rfl (st_bm (by kernel_rfl) fun v108 h109 =>
  (go_op0 rfl rfl (st_bm (by kernel_rfl) fun v110 h111 =>
  (go_op0 rfl rfl (st_bp (by kernel_rfl) fun v112 h113 =>
  (go_op0 rfl rfl (st_bp (by kernel_rfl) fun v114 h115 =>
  (go_op0 rfl rfl (st_bm (by kernel_rfl) fun v116 h117 =>
  (go_op0 rfl rfl (st_bs (by kernel_rfl) fun h118 =>
  (go_op0 rfl rfl (st_bm (by kernel_rfl) fun v119 h120 =>
  (go_op0 rfl rfl (st_bs (by kernel_rfl) fun h121 =>
  (go_end0 (by kernel_rfl)
  (by kernel_rfl)))))))))))))))))))))))
  (go_seq (go_reg1 xo47_5r
  (go_op1 xo47_5 xo47_5a rfl rfl rfl (st_no (by kernel_rfl) (st_id (v := v9) (H := h105) (by kernel_rfl)
  (go_op1 xo47_5 xo47_5a rfl rfl rfl (st_no (by kernel_rfl) (st_bm (by kernel_rfl) fun v122 h123 =>
  (go_op1 xo47_5 xo47_5a rfl rfl rfl (st_no (by kernel_rfl) (st_bm (by kernel_rfl) fun v124 h125 =>
  (go_op1 xo47_5 xo47_5a rfl rfl rfl (st_no (by kernel_rfl) (st_bm (by kernel_rfl) fun v126 h127 =>
  (go_op1 xo47_5 xo47_5a rfl rfl rfl (st_no (by kernel_rfl) (st_bp (by kernel_rfl) fun v128 h129 =>
  (go_op1 xo47_5 xo47_5a rfl rfl rfl (st_yes (by kernel_rfl) (st_bm (by kernel_rfl) fun v130 h131 =>
  (go_op1 xo47_5 xo47_5a rfl rfl rfl (st_no (by kernel_rfl) (st_bm (by kernel_rfl) fun v132 h133 =>
  (go_op1 xo47_5 xo47_5a rfl rfl rfl (st_yes (by kernel_rfl) (st_bm (by kernel_rfl) fun v134 h135 =>
  (go_op1 xo47_5 xo47_5a rfl rfl rfl (st_no (by kernel_rfl) (st_bp (by kernel_rfl) fun v136 h137 =>
  (go_op1 xo47_5 xo47_5a rfl rfl rfl (st_no (by kernel_rfl) (st_bm (by kernel_rfl) fun v138 h139 =>
  (go_op1 xo47_5 xo47_5a rfl rfl rfl (st_no (by kernel_rfl) (st_bp (by kernel_rfl) fun v140 h141 =>
  (go_op1 xo47_5 xo47_5a rfl rfl rfl (st_no (by kernel_rfl) (st_id (v := v140) (H := h141) (by kernel_rfl)
  (go_end1 xo47_5 (by kernel_rfl) xo47_5a
  (go_reg0
  (go_op0 rfl rfl (st_bm (by kernel_rfl) fun v142 h143 =>
  (go_op0 rfl rfl (st_bm (by kernel_rfl) fun v144 h145 =>
  (go_op0 rfl rfl (st_bm (by kernel_rfl) fun v146 h147 =>
  (go_op0 rfl rfl (st_bp (by kernel_rfl) fun v148 h149 =>
  (go_op0 rfl rfl (st_bs (by kernel_rfl) fun h150 =>
  (go_end0 (by kernel_rfl)
  (by kernel_rfl)))))))))))))))))))))))))))))))))))))))))))))))))))))))))))))))))))))))))))))))))))))))))))))))))))))))))))))))))))))))))))))))))
theorem xe47 (k wl : Nat) (h : Hp) : evF Try.prog xM (k + 1) wl 47 [t0,t1,t2] h = bodyV (xX (xS k) 47 wl k false) Try.f47 [t0,t1,t2] h := by kernel_rfl
theorem xj47_0 (s : Sys) (k wl : Nat) (h : Hp) : runK (xX s 47 wl k false) (bodyK s.P Try.f47) xk47_0 .norm ⟨(t0::t1::t2::t3::t4::t5::t6::t7::t8::t9::ta::tb::tc::td::te::tf::tg::th::ti::tj::tk::tl::tm::tn::tp::tq::tr::ts::tt::tu::tv::tw::tx::ty::tz::tA::tB::tC::tD::tE::tF::tG::tH::tI::tJ::tK::tL::tM::tN::tO::tP::tQ::tR::tS::tT::tU::tV::tW::tX::tY::tZ::q0::q1::q2::q3::q4::q5::q6::q7::q8::q9::qa::qb::qc::qd::qe::qf::qg::qh::qi::qj::qk::ql::qm::qn::qo::qp::qq::qr::qs::qt::qu::qv::qw::[]),h⟩ =
  bm (vLoad s.P 30 t5 h) h fun v151 h152 =>
  bs (vStore s.P wl 30 t7 v151 h152) fun h153 =>
  resO [some t8,vLoad s.P 30 t7 h153] h153 :=
  (rt_block_norm (go_seq (go_reg1 xo47_24r
  (go_op1 xo47_24 xo47_24a rfl rfl rfl (st_no (by kernel_rfl) (st_id (v := t8) (H := h) (by kernel_rfl)
  (go_op1 xo47_24 xo47_24a rfl rfl rfl (st_no (by kernel_rfl) (st_bm (by kernel_rfl) fun v151 h152 =>
  (go_op1 xo47_24 xo47_24a rfl rfl rfl (st_no (by kernel_rfl) (st_id (v := t8) (H := h152) (by kernel_rfl)
  (go_op1 xo47_24 xo47_24a rfl rfl rfl (st_no (by kernel_rfl) (st_bs (by kernel_rfl) fun h153 =>
  (go_end1 xo47_24 (by kernel_rfl) xo47_24a
  (go_ret (by kernel_rfl))))))))))))))))))
theorem xk47_0_ret (cx : Cx) (K : Out → St → Option (V × Hp)) (s : St) : runK cx K xk47_0 .ret s = K .ret s := by kernel_rfl
-- names: xb47,xj47_0,xk47_0_ret
noncomputable def xg66_0 : Code := codeAt (bodyOf Try.f66) [1,0]
noncomputable def xk66_0 : List Fr := [.seq (codeAt (bodyOf Try.f66) [1,1])]
theorem xb66 (s : Sys) (k wl : Nat) (h : Hp) : bodyV (xX s 66 wl k false) Try.f66 [t0,t1,t2,t3] h =
  bp (opBox t0 h) fun v1 h2 =>
  bp (opBox t2 h2) fun v3 h4 =>
  bm (vLoad s.P 23 v1 h4) h4 fun v5 h6 =>
  bp (callV (xX s 66 wl k false) false true (.fn (.func 88) [] []) [v5,t1] h6) fun v7 h8 =>
  gd v7 (
  bm (vLoad s.P 30 v3 h8) h8 fun v9 h10 =>
  bp (callV (xX s 66 wl k false) false true (.fn (.func 28) [] []) [v9] h10) fun v11 h12 =>
  bm (vUn .not v11) h12 fun v13 h14 =>
  opsP (xX s 66 wl k false) xg66_0 7 h4.length ([],[]) (runK (xX s 66 wl k false) (bodyK s.P Try.f66) xk66_0) ⟨[t0,t1,t2,t3,v1,uu,v3,uu,(V.lit (Value.bool false)),v5,t1,v7,(V.lit (Value.bool true)),v9,v11,v13,uu,uu,uu,uu,uu,uu,uu,uu,uu,uu,uu,uu,uu,uu,uu,uu,uu],h14⟩) (
  opsP (xX s 66 wl k false) xg66_0 7 h4.length ([],[]) (runK (xX s 66 wl k false) (bodyK s.P Try.f66) xk66_0) ⟨[t0,t1,t2,t3,v1,uu,v3,uu,(V.lit (Value.bool false)),v5,t1,v7,(V.lit (Value.bool false)),uu,uu,uu,uu,uu,uu,uu,uu,uu,uu,uu,uu,uu,uu,uu,uu,uu,uu,uu,uu],h8⟩) (
  opsP (xX s 66 wl k false) xg66_0 5 h4.length ([],[]) (runK (xX s 66 wl k false) (bodyK s.P Try.f66) xk66_0) ⟨[t0,t1,t2,t3,v1,uu,v3,uu,(V.lit (Value.bool false)),v5,t1,v7,v7,uu,uu,uu,uu,uu,uu,uu,uu,uu,uu,uu,uu,uu,uu,uu,uu,uu,uu,uu,uu],h8⟩) :=
  bodyV_run rfl (go_seq (go_reg0
  (go_op0 rfl rfl (st_bp (by kernel_rfl) fun v1 h2 =>
  (go_op0 rfl rfl (st_bp (by kernel_rfl) fun v3 h4 =>
  (go_op0 rfl rfl (st_id (v := (V.lit (Value.bool false))) (H := h4) (by kernel_rfl)
  (go_end0 (by kernel_rfl)
  (go_seq (go_reg0
  (go_op0 rfl rfl (st_bm (by kernel_rfl) fun v5 h6 =>
  (go_op0 rfl rfl (st_id (v := t1) (H := h6) (by kernel_rfl)
  (go_op0 rfl rfl (st_bp (by kernel_rfl) fun v7 h8 =>
  (go_op0 rfl rfl (st_id (v := v7) (H := h8) (by kernel_rfl)
  (go_gdT0 rfl rfl rfl (by kernel_rfl)
  (st_bm (by kernel_rfl) fun v9 h10 =>
  (go_run0 rfl rfl rfl (by kernel_rfl) (st_bp (by kernel_rfl) fun v11 h12 =>
  (go_run0 rfl rfl rfl (by kernel_rfl) (st_bm (by kernel_rfl) fun v13 h14 =>
  (by kernel_rfl))))))
  (go_skip0 rfl rfl rfl (by kernel_rfl)
  (go_skip0 rfl rfl rfl (by kernel_rfl)
  (by kernel_rfl)))
  (by kernel_rfl)))))))))))))))))))))
theorem xe66 (k wl : Nat) (h : Hp) : evF Try.prog xM (k + 1) wl 66 [t0,t1,t2,t3] h = bodyV (xX (xS k) 66 wl k false) Try.f66 [t0,t1,t2,t3] h := by kernel_rfl
theorem xm66_0 (s : Sys) (k wl : Nat) (m0 : Nat) (ac : List Nat × List Nat) (h : Hp) : opsP (xX s 66 wl k false) xg66_0 7 m0 ac (runK (xX s 66 wl k false) (bodyK s.P Try.f66) xk66_0) ⟨[t0,t1,t2,t3,t4,t5,t6,t7,t8,t9,ta,tb,tc,td,te,tf,tg,th,ti,tj,tk,tl,tm,tn,tp,tq,tr,ts,tt,tu,tv,tw,tx],h⟩ =
  bm (vPick tc tf (V.lit (Value.bool false))) h fun v15 h16 =>
  gd v15 (
  bm (vFieldAddr s.P 30 t6 0) h16 fun v17 h18 =>
  bm (vLoad s.P 3 v17 h18) h18 fun v19 h20 =>
  bm (vBin s.P .eql 3 v19 t3) h20 fun v21 h22 =>
  opsP (xX s 66 wl k false) xg66_0 13 m0 ac (runK (xX s 66 wl k false) (bodyK s.P Try.f66) xk66_0) ⟨[t0,t1,t2,t3,t4,t5,t6,t7,t8,t9,ta,tb,tc,td,te,tf,v15,(V.lit (Value.bool true)),v17,v19,t3,v21,tm,tn,tp,tq,tr,ts,tt,tu,tv,tw,tx],h22⟩) (
  opsP (xX s 66 wl k false) xg66_0 13 m0 ac (runK (xX s 66 wl k false) (bodyK s.P Try.f66) xk66_0) ⟨[t0,t1,t2,t3,t4,t5,t6,t7,t8,t9,ta,tb,tc,td,te,tf,v15,(V.lit (Value.bool false)),uu,uu,uu,uu,tm,tn,tp,tq,tr,ts,tt,tu,tv,tw,tx],h16⟩) (
  opsP (xX s 66 wl k false) xg66_0 10 m0 ac (runK (xX s 66 wl k false) (bodyK s.P Try.f66) xk66_0) ⟨[t0,t1,t2,t3,t4,t5,t6,t7,t8,t9,ta,tb,tc,td,te,tf,v15,v15,uu,tj,tk,tl,tm,tn,tp,tq,tr,ts,tt,tu,tv,tw,tx],h16⟩) :=
  (go_op0 rfl rfl (st_bm (by kernel_rfl) fun v15 h16 =>
  (go_op0 rfl rfl (st_id (v := v15) (H := h16) (by kernel_rfl)
  (go_gdT0 rfl rfl rfl (by kernel_rfl)
  (st_bm (by kernel_rfl) fun v17 h18 =>
  (go_run0 rfl rfl rfl (by kernel_rfl) (st_bm (by kernel_rfl) fun v19 h20 =>
  (go_run0 rfl rfl rfl (by kernel_rfl) (st_id (v := t3) (H := h20) (by kernel_rfl)
  (go_run0 rfl rfl rfl (by kernel_rfl) (st_bm (by kernel_rfl) fun v21 h22 =>
  (by kernel_rfl))))))))
  (go_skip0 rfl rfl rfl (by kernel_rfl)
  (go_skip0 rfl rfl rfl (by kernel_rfl)
  (go_skip0 rfl rfl rfl (by kernel_rfl)
  (by kernel_rfl))))
  (by kernel_rfl))))))
theorem xm66_1 (s : Sys) (k wl : Nat) (m0 : Nat) (ac : List Nat × List Nat) (h : Hp) : opsP (xX s 66 wl k false) xg66_0 13 m0 ac (runK (xX s 66 wl k false) (bodyK s.P Try.f66) xk66_0) ⟨[t0,t1,t2,t3,t4,t5,t6,t7,t8,t9,ta,tb,tc,td,te,tf,tg,th,ti,tj,tk,tl,tm,tn,tp,tq,tr,ts,tt,tu,tv,tw,tx],h⟩ =
  bm (vPick th tl (V.lit (Value.bool false))) h fun v23 h24 =>
  gd v23 (
  bm (vFieldAddr s.P 30 t6 1) h24 fun v25 h26 =>
  bm (vLoad s.P 3 v25 h26) h26 fun v27 h28 =>
  bm (vBin s.P .geq 3 v27 (V.lit (Value.int .i64 0))) h28 fun v29 h30 =>
  opsP (xX s 66 wl k false) xg66_0 18 m0 ac (runK (xX s 66 wl k false) (bodyK s.P Try.f66) xk66_0) ⟨[t0,t1,t2,t3,t4,t5,t6,t7,t8,t9,ta,tb,tc,td,te,tf,tg,th,ti,tj,tk,tl,v23,(V.lit (Value.bool true)),v25,v27,v29,ts,tt,tu,tv,tw,tx],h30⟩) (
  opsP (xX s 66 wl k false) xg66_0 18 m0 ac (runK (xX s 66 wl k false) (bodyK s.P Try.f66) xk66_0) ⟨[t0,t1,t2,t3,t4,t5,t6,t7,t8,t9,ta,tb,tc,td,te,tf,tg,th,ti,tj,tk,tl,v23,(V.lit (Value.bool false)),uu,uu,uu,ts,tt,tu,tv,tw,tx],h24⟩) (
  opsP (xX s 66 wl k false) xg66_0 16 m0 ac (runK (xX s 66 wl k false) (bodyK s.P Try.f66) xk66_0) ⟨[t0,t1,t2,t3,t4,t5,t6,t7,t8,t9,ta,tb,tc,td,te,tf,tg,th,ti,tj,tk,tl,v23,v23,uu,tq,tr,ts,tt,tu,tv,tw,tx],h24⟩) :=
  (go_op0 rfl rfl (st_bm (by kernel_rfl) fun v23 h24 =>
  (go_op0 rfl rfl (st_id (v := v23) (H := h24) (by kernel_rfl)
  (go_gdT0 rfl rfl rfl (by kernel_rfl)
  (st_bm (by kernel_rfl) fun v25 h26 =>
  (go_run0 rfl rfl rfl (by kernel_rfl) (st_bm (by kernel_rfl) fun v27 h28 =>
  (go_run0 rfl rfl rfl (by kernel_rfl) (st_bm (by kernel_rfl) fun v29 h30 =>
  (by kernel_rfl))))))
  (go_skip0 rfl rfl rfl (by kernel_rfl)
  (go_skip0 rfl rfl rfl (by kernel_rfl)
  (by kernel_rfl)))
  (by kernel_rfl))))))
theorem xm66_2 (s : Sys) (k wl : Nat) (m0 : Nat) (ac : List Nat × List Nat) (h : Hp) : opsP (xX s 66 wl k false) xg66_0 18 m0 ac (runK (xX s 66 wl k false) (bodyK s.P Try.f66) xk66_0) ⟨[t0,t1,t2,t3,t4,t5,t6,t7,t8,t9,ta,tb,tc,td,te,tf,tg,th,ti,tj,tk,tl,tm,tn,tp,tq,tr,ts,tt,tu,tv,tw,tx],h⟩ =
  bm (vPick tn tr (V.lit (Value.bool false))) h fun v31 h32 =>
  gd v31 (
  bm (vFieldAddr s.P 30 t6 1) h32 fun v33 h34 =>
  bm (vLoad s.P 3 v33 h34) h34 fun v35 h36 =>
  bm (vBin s.P .lss 3 v35 (V.lit (Value.int .i64 5))) h36 fun v37 h38 =>
  opsP (xX s 66 wl k false) xg66_0 23 m0 ac (runK (xX s 66 wl k false) (bodyK s.P Try.f66) xk66_0) ⟨[t0,t1,t2,t3,t4,t5,t6,t7,t8,t9,ta,tb,tc,td,te,tf,tg,th,ti,tj,tk,tl,tm,tn,tp,tq,tr,v31,(V.lit (Value.bool true)),v33,v35,v37,tx],h38⟩) (
  opsP (xX s 66 wl k false) xg66_0 23 m0 ac (runK (xX s 66 wl k false) (bodyK s.P Try.f66) xk66_0) ⟨[t0,t1,t2,t3,t4,t5,t6,t7,t8,t9,ta,tb,tc,td,te,tf,tg,th,ti,tj,tk,tl,tm,tn,tp,tq,tr,v31,(V.lit (Value.bool false)),uu,uu,uu,tx],h32⟩) (
  opsP (xX s 66 wl k false) xg66_0 21 m0 ac (runK (xX s 66 wl k false) (bodyK s.P Try.f66) xk66_0) ⟨[t0,t1,t2,t3,t4,t5,t6,t7,t8,t9,ta,tb,tc,td,te,tf,tg,th,ti,tj,tk,tl,tm,tn,tp,tq,tr,v31,v31,uu,tv,tw,tx],h32⟩) :=
  (go_op0 rfl rfl (st_bm (by kernel_rfl) fun v31 h32 =>
  (go_op0 rfl rfl (st_id (v := v31) (H := h32) (by kernel_rfl)
  (go_gdT0 rfl rfl rfl (by kernel_rfl)
  (st_bm (by kernel_rfl) fun v33 h34 =>
  (go_run0 rfl rfl rfl (by kernel_rfl) (st_bm (by kernel_rfl) fun v35 h36 =>
  (go_run0 rfl rfl rfl (by kernel_rfl) (st_bm (by kernel_rfl) fun v37 h38 =>
  (by kernel_rfl))))))
  (go_skip0 rfl rfl rfl (by kernel_rfl)
  (go_skip0 rfl rfl rfl (by kernel_rfl)
  (by kernel_rfl)))
  (by kernel_rfl))))))
theorem xm66_3 (s : Sys) (k wl : Nat) (m0 : Nat) (ac : List Nat × List Nat) (h : Hp) : opsP (xX s 66 wl k false) xg66_0 23 m0 ac (runK (xX s 66 wl k false) (bodyK s.P Try.f66) xk66_0) ⟨[t0,t1,t2,t3,t4,t5,t6,t7,t8,t9,ta,tb,tc,td,te,tf,tg,th,ti,tj,tk,tl,tm,tn,tp,tq,tr,ts,tt,tu,tv,tw,tx],h⟩ =
  bm (vPick tt tw (V.lit (Value.bool false))) h fun v39 h40 =>
  some (v39,h40) :=
  (go_op0 rfl rfl (st_bm (by kernel_rfl) fun v39 h40 =>
  (go_op0 rfl rfl (st_id (v := v39) (H := h40) (by kernel_rfl)
  (go_end0 (by kernel_rfl)
  (go_ret (by kernel_rfl)))))))
theorem xk66_0_ret (cx : Cx) (K : Out → St → Option (V × Hp)) (s : St) : runK cx K xk66_0 .ret s = K .ret s := by kernel_rfl
-- names: xb66,xm66_0,xm66_1,xm66_2,xm66_3,xk66_0_ret

theorem xb67 (s : Sys) (k wl : Nat) (h : Hp) : bodyV (xX s 67 wl k false) Try.f67 [t0] h =
  bm (vNil t0 h) h fun v1 h2 =>
  bm (vFieldAddr s.P 96 v1 2) h2 fun v3 h4 =>
  bm (vLoad s.P 26 v3 h4) h4 fun v5 h6 =>
  bp (callV (xX s 67 wl k false) false true (.fn (.func 17) [] []) [v5,(V.lit (Value.int .i64 5))] h6) fun v7 h8 =>
  bm (vNil t0 h8) h8 fun v9 h10 =>
  bm (vFieldAddr s.P 96 v9 0) h10 fun v11 h12 =>
  bm (vFieldAddr s.P 30 v11 4) h12 fun v13 h14 =>
  bs (vStore s.P wl 28 v13 v7 h14) fun h15 =>
  some ((V.lit (Value.int .i64 1)),h15) :=
  bodyV_run rfl (go_seq (go_reg0
  (go_op0 rfl rfl (st_id (v := (V.lit (Value.int .i64 0))) (H := h) (by kernel_rfl)
  (go_end0 (by kernel_rfl)
  (go_seq (go_reg0
  (go_op0 rfl rfl (st_id (v := t0) (H := h) (by kernel_rfl)
  (go_op0 rfl rfl (st_id (v := t0) (H := h) (by kernel_rfl)
  (go_op0 rfl rfl (st_bm (by kernel_rfl) fun v1 h2 =>
  (go_op0 rfl rfl (st_bm (by kernel_rfl) fun v3 h4 =>
  (go_op0 rfl rfl (st_bm (by kernel_rfl) fun v5 h6 =>
  (go_op0 rfl rfl (st_bp (by kernel_rfl) fun v7 h8 =>
  (go_op0 rfl rfl (st_bm (by kernel_rfl) fun v9 h10 =>
  (go_op0 rfl rfl (st_bm (by kernel_rfl) fun v11 h12 =>
  (go_op0 rfl rfl (st_bm (by kernel_rfl) fun v13 h14 =>
  (go_op0 rfl rfl (st_bs (by kernel_rfl) fun h15 =>
  (go_end0 (by kernel_rfl)
  (go_seq (go_reg0
  (go_op0 rfl rfl (st_id (v := (V.lit (Value.int .i64 1))) (H := h15) (by kernel_rfl)
  (go_end0 (by kernel_rfl)
  (go_ret (by kernel_rfl)))))))))))))))))))))))))))))))))))
theorem xe67 (k wl : Nat) (h : Hp) : evF Try.prog xM (k + 1) wl 67 [t0] h = bodyV (xX (xS k) 67 wl k false) Try.f67 [t0] h := by kernel_rfl
-- names: xb67,
noncomputable def xg68_0 : Code := codeAt (bodyOf Try.f68) [1,0]
noncomputable def xg68_1 : Code := codeAt (bodyOf Try.f68) [1,1,0,0,0]
noncomputable def xg68_2 : Code := codeAt (bodyOf Try.f68) [1,1,0,0,1,1,0]
noncomputable def xg68_3 : Code := codeAt (bodyOf Try.f68) [1,1,0,0,1,1,1,0]
theorem xo68_1 : orderIx (opsOf xg68_0) = [0,1,2,3,4,5,6,7,8,9,10,11,12,13,14,15,16,17,18,19] := by kernel_rfl
theorem xo68_1a : (rgOf (opsOf xg68_0)).any = false := by kernel_rfl
theorem xo68_1r : regOk (opsOf xg68_0) = true := by kernel_rfl
theorem xo68_2 : orderIx (opsOf xg68_1) = [0,1,2,3,4,5,6,7,8] := by kernel_rfl
theorem xo68_2a : (rgOf (opsOf xg68_1)).any = false := by kernel_rfl
theorem xo68_2r : regOk (opsOf xg68_1) = true := by kernel_rfl
theorem xo68_4 : orderIx (opsOf xg68_2) = [0,1,2,3,4,5,6,7,8,9] := by kernel_rfl
theorem xo68_4a : (rgOf (opsOf xg68_2)).any = false := by kernel_rfl
theorem xo68_4r : regOk (opsOf xg68_2) = true := by kernel_rfl
theorem xo68_5 : orderIx (opsOf xg68_3) = [0,1,2,3,4,5,6,7,8,9,10,11,12,13] := by kernel_rfl
theorem xo68_5a : (rgOf (opsOf xg68_3)).any = false := by kernel_rfl
theorem xo68_5r : regOk (opsOf xg68_3) = true := by kernel_rfl
theorem xb68 (s : Sys) (k wl : Nat) (h : Hp) : bodyV (xX s 68 wl k false) Try.f68 [t0] h =
  stO h.length t0 (
  bm (vNil t0 h) h fun v1 h2 =>
  bm (vFieldAddr s.P 96 v1 2) h2 fun v3 h4 =>
  stO h.length v3 (
  bm (vLoad s.P 26 v3 h4) h4 fun v5 h6 =>
  bm (vNil t0 h6) h6 fun v7 h8 =>
  bm (vFieldAddr s.P 96 v7 1) h8 fun v9 h10 =>
  bm (vLoad s.P 23 v9 h10) h10 fun v11 h12 =>
  bm (vNil t0 h12) h12 fun v13 h14 =>
  bm (vFieldAddr s.P 96 v13 0) h14 fun v15 h16 =>
  bm (vFieldAddr s.P 30 v15 4) h16 fun v17 h18 =>
  bm (vLoad s.P 28 v17 h18) h18 fun v19 h20 =>
  bp (callV (xX s 68 wl k false) true true (.fn (.func 73) [] []) [v11,v19] h20) fun v21 h22 =>
  bp (callV (xX s 68 wl k false) false true (.fn (.func 17) [] []) [v5,v21] h22) fun v23 h24 =>
  bm (vNil t0 h24) h24 fun v25 h26 =>
  bm (vFieldAddr s.P 96 v25 0) h26 fun v27 h28 =>
  bm (vFieldAddr s.P 30 v27 5) h28 fun v29 h30 =>
  bs (vStore s.P wl 28 v29 v23 h30) fun h31 =>
  stO h31.length t0 (
  bm (vNil t0 h31) h31 fun v32 h33 =>
  bm (vFieldAddr s.P 96 v32 0) h33 fun v34 h35 =>
  bm (vFieldAddr s.P 30 v34 5) h35 fun v36 h37 =>
  stO h31.length v36 (
  bm (vLoad s.P 28 v36 h37) h37 fun v38 h39 =>
  bp (callV (xX s 68 wl k false) true true (.fn (.func 89) [] []) [t0] h39) fun v40 h41 =>
  bm (vBin s.P .eql 28 v38 v40) h41 fun v42 h43 =>
  cnd v42 (
  some ((V.lit (Value.int .i64 2)),h43)) (
  stO h43.length t0 (
  bm (vNil t0 h43) h43 fun v44 h45 =>
  bm (vFieldAddr s.P 96 v44 0) h45 fun v46 h47 =>
  bm (vFieldAddr s.P 30 v46 5) h47 fun v48 h49 =>
  stO h43.length v48 (
  bm (vLoad s.P 28 v48 h49) h49 fun v50 h51 =>
  bp (callV (xX s 68 wl k false) true true (.fn (.func 89) [] []) [t0] h51) fun v52 h53 =>
  bp (callV (xX s 68 wl k false) false true (.fn (.func 74) [] []) [v50,v52] h53) fun v54 h55 =>
  bm (vBin s.P .lss 3 v54 (V.lit (Value.int .i64 0))) h55 fun v56 h57 =>
  cnd v56 (
  bm (vNil t0 h57) h57 fun v58 h59 =>
  bm (vFieldAddr s.P 96 v58 0) h59 fun v60 h61 =>
  bm (vLoad s.P 30 v60 h61) h61 fun v62 h63 =>
  bm (vNil t0 h63) h63 fun v64 h65 =>
  bm (vFieldAddr s.P 96 v64 0) h65 fun v66 h67 =>
  bm (vFieldAddr s.P 30 v66 3) h67 fun v68 h69 =>
  bm (vLoad s.P 28 v68 h69) h69 fun v70 h71 =>
  bp (callV (xX s 68 wl k false) false true (.fn (.func 63) [] []) [v62,(V.lit (Value.int .i64 2)),v70] h71) fun v72 h73 =>
  bm (vNil t0 h73) h73 fun v74 h75 =>
  bm (vFieldAddr s.P 96 v74 0) h75 fun v76 h77 =>
  bs (vStore s.P wl 30 v76 v72 h77) fun h78 =>
  some ((V.lit (Value.int .i64 0)),h78)) (
  some ((V.lit (Value.int .i64 0)),h57))))))))) :=
  bodyV_run rfl (go_seq (go_reg0
  (go_op0 rfl rfl (st_id (v := (V.lit (Value.int .i64 0))) (H := h) (by kernel_rfl)
  (go_end0 (by kernel_rfl)
  (go_seq (go_reg1 xo68_1r
  (go_op1 xo68_1 xo68_1a rfl rfl rfl (st_no (by kernel_rfl) (st_id (v := t0) (H := h) (by kernel_rfl)
  (go_op1 xo68_1 xo68_1a rfl rfl rfl (st_no (by kernel_rfl) (st_id (v := t0) (H := h) (by kernel_rfl)
  (go_op1 xo68_1 xo68_1a rfl rfl rfl (st_yes (by kernel_rfl) (st_bm (by kernel_rfl) fun v1 h2 =>
  (go_op1 xo68_1 xo68_1a rfl rfl rfl (st_no (by kernel_rfl) (st_bm (by kernel_rfl) fun v3 h4 =>
  (go_op1 xo68_1 xo68_1a rfl rfl rfl (st_yes (by kernel_rfl) (st_bm (by kernel_rfl) fun v5 h6 =>
  (go_op1 xo68_1 xo68_1a rfl rfl rfl (st_no (by kernel_rfl) (st_id (v := t0) (H := h6) (by kernel_rfl)
  (go_op1 xo68_1 xo68_1a rfl rfl rfl (st_no (by kernel_rfl) (st_bm (by kernel_rfl) fun v7 h8 =>
  (go_op1 xo68_1 xo68_1a rfl rfl rfl (st_no (by kernel_rfl) (st_bm (by kernel_rfl) fun v9 h10 =>
  (go_op1 xo68_1 xo68_1a rfl rfl rfl (st_no (by kernel_rfl) (st_bm (by kernel_rfl) fun v11 h12 =>
  (go_op1 xo68_1 xo68_1a rfl rfl rfl (st_no (by kernel_rfl) (st_id (v := t0) (H := h12) (by kernel_rfl)
  (go_op1 xo68_1 xo68_1a rfl rfl rfl (st_no (by kernel_rfl) (st_bm (by kernel_rfl) fun v13 h14 =>
  (go_op1 xo68_1 xo68_1a rfl rfl rfl (st_no (by kernel_rfl) (st_bm (by kernel_rfl) fun v15 h16 =>
  (go_op1 xo68_1 xo68_1a rfl rfl rfl (st_no (by kernel_rfl) (st_bm (by kernel_rfl) fun v17 h18 =>
  (go_op1 xo68_1 xo68_1a rfl rfl rfl (st_no (by kernel_rfl) (st_bm (by kernel_rfl) fun v19 h20 =>
  (go_op1 xo68_1 xo68_1a rfl rfl rfl (st_no (by kernel_rfl) (st_bp (by kernel_rfl) fun v21 h22 =>
  (go_op1 xo68_1 xo68_1a rfl rfl rfl (st_no (by kernel_rfl) (st_bp (by kernel_rfl) fun v23 h24 =>
  (go_op1 xo68_1 xo68_1a rfl rfl rfl (st_no (by kernel_rfl) (st_bm (by kernel_rfl) fun v25 h26 =>
  (go_op1 xo68_1 xo68_1a rfl rfl rfl (st_no (by kernel_rfl) (st_bm (by kernel_rfl) fun v27 h28 =>
  (go_op1 xo68_1 xo68_1a rfl rfl rfl (st_no (by kernel_rfl) (st_bm (by kernel_rfl) fun v29 h30 =>
  (go_op1 xo68_1 xo68_1a rfl rfl rfl (st_no (by kernel_rfl) (st_bs (by kernel_rfl) fun h31 =>
  (go_end1 xo68_1 (by kernel_rfl) xo68_1a
  (go_seq (go_block (go_seq (go_reg1 xo68_2r
  (go_op1 xo68_2 xo68_2a rfl rfl rfl (st_no (by kernel_rfl) (st_id (v := t0) (H := h31) (by kernel_rfl)
  (go_op1 xo68_2 xo68_2a rfl rfl rfl (st_yes (by kernel_rfl) (st_bm (by kernel_rfl) fun v32 h33 =>
  (go_op1 xo68_2 xo68_2a rfl rfl rfl (st_no (by kernel_rfl) (st_bm (by kernel_rfl) fun v34 h35 =>
  (go_op1 xo68_2 xo68_2a rfl rfl rfl (st_no (by kernel_rfl) (st_bm (by kernel_rfl) fun v36 h37 =>
  (go_op1 xo68_2 xo68_2a rfl rfl rfl (st_yes (by kernel_rfl) (st_bm (by kernel_rfl) fun v38 h39 =>
  (go_op1 xo68_2 xo68_2a rfl rfl rfl (st_no (by kernel_rfl) (st_id (v := t0) (H := h39) (by kernel_rfl)
  (go_op1 xo68_2 xo68_2a rfl rfl rfl (st_no (by kernel_rfl) (st_bp (by kernel_rfl) fun v40 h41 =>
  (go_op1 xo68_2 xo68_2a rfl rfl rfl (st_no (by kernel_rfl) (st_bm (by kernel_rfl) fun v42 h43 =>
  (go_op1 xo68_2 xo68_2a rfl rfl rfl (st_no (by kernel_rfl) (st_id (v := v42) (H := h43) (by kernel_rfl)
  (go_end1 xo68_2 (by kernel_rfl) xo68_2a
  (go_cond (by kernel_rfl)
  (go_seq (go_reg0
  (go_op0 rfl rfl (st_id (v := (V.lit (Value.int .i64 2))) (H := h43) (by kernel_rfl)
  (go_end0 (by kernel_rfl)
  (go_ret (rt_block_ret (rt_seq_ret (by kernel_rfl)))))))))
  (go_seq (go_reg1 xo68_4r
  (go_op1 xo68_4 xo68_4a rfl rfl rfl (st_no (by kernel_rfl) (st_id (v := t0) (H := h43) (by kernel_rfl)
  (go_op1 xo68_4 xo68_4a rfl rfl rfl (st_yes (by kernel_rfl) (st_bm (by kernel_rfl) fun v44 h45 =>
  (go_op1 xo68_4 xo68_4a rfl rfl rfl (st_no (by kernel_rfl) (st_bm (by kernel_rfl) fun v46 h47 =>
  (go_op1 xo68_4 xo68_4a rfl rfl rfl (st_no (by kernel_rfl) (st_bm (by kernel_rfl) fun v48 h49 =>
  (go_op1 xo68_4 xo68_4a rfl rfl rfl (st_yes (by kernel_rfl) (st_bm (by kernel_rfl) fun v50 h51 =>
  (go_op1 xo68_4 xo68_4a rfl rfl rfl (st_no (by kernel_rfl) (st_id (v := t0) (H := h51) (by kernel_rfl)
  (go_op1 xo68_4 xo68_4a rfl rfl rfl (st_no (by kernel_rfl) (st_bp (by kernel_rfl) fun v52 h53 =>
  (go_op1 xo68_4 xo68_4a rfl rfl rfl (st_no (by kernel_rfl) (st_bp (by kernel_rfl) fun v54 h55 =>
  (go_op1 xo68_4 xo68_4a rfl rfl rfl (st_no (by kernel_rfl) (st_bm (by kernel_rfl) fun v56 h57 =>
  (go_op1 xo68_4 xo68_4a rfl rfl rfl (st_no (by kernel_rfl) (st_id (v := v56) (H := h57) (by kernel_rfl)
  (go_end1 xo68_4 (by kernel_rfl) xo68_4a
  (go_cond (by kernel_rfl)
  (go_reg1 xo68_5r
  (go_op1 xo68_5 xo68_5a rfl rfl rfl (st_no (by kernel_rfl) (st_id (v := t0) (H := h57) (by kernel_rfl)
  (go_op1 xo68_5 xo68_5a rfl rfl rfl (st_no (by kernel_rfl) (st_id (v := t0) (H := h57) (by kernel_rfl)
  (go_op1 xo68_5 xo68_5a rfl rfl rfl (st_no (by kernel_rfl) (st_bm (by kernel_rfl) fun v58 h59 =>
  (go_op1 xo68_5 xo68_5a rfl rfl rfl (st_no (by kernel_rfl) (st_bm (by kernel_rfl) fun v60 h61 =>
  (go_op1 xo68_5 xo68_5a rfl rfl rfl (st_no (by kernel_rfl) (st_bm (by kernel_rfl) fun v62 h63 =>
  (go_op1 xo68_5 xo68_5a rfl rfl rfl (st_no (by kernel_rfl) (st_id (v := t0) (H := h63) (by kernel_rfl)
  (go_op1 xo68_5 xo68_5a rfl rfl rfl (st_no (by kernel_rfl) (st_bm (by kernel_rfl) fun v64 h65 =>
  (go_op1 xo68_5 xo68_5a rfl rfl rfl (st_no (by kernel_rfl) (st_bm (by kernel_rfl) fun v66 h67 =>
  (go_op1 xo68_5 xo68_5a rfl rfl rfl (st_no (by kernel_rfl) (st_bm (by kernel_rfl) fun v68 h69 =>
  (go_op1 xo68_5 xo68_5a rfl rfl rfl (st_no (by kernel_rfl) (st_bm (by kernel_rfl) fun v70 h71 =>
  (go_op1 xo68_5 xo68_5a rfl rfl rfl (st_no (by kernel_rfl) (st_bp (by kernel_rfl) fun v72 h73 =>
  (go_op1 xo68_5 xo68_5a rfl rfl rfl (st_no (by kernel_rfl) (st_bm (by kernel_rfl) fun v74 h75 =>
  (go_op1 xo68_5 xo68_5a rfl rfl rfl (st_no (by kernel_rfl) (st_bm (by kernel_rfl) fun v76 h77 =>
  (go_op1 xo68_5 xo68_5a rfl rfl rfl (st_no (by kernel_rfl) (st_bs (by kernel_rfl) fun h78 =>
  (go_end1 xo68_5 (by kernel_rfl) xo68_5a
  (rt_block_norm (go_seq (go_reg0
  (go_op0 rfl rfl (st_id (v := (V.lit (Value.int .i64 0))) (H := h78) (by kernel_rfl)
  (go_end0 (by kernel_rfl)
  (go_ret (by kernel_rfl))))))))))))))))))))))))))))))))))))))))))))))))))))
  (go_skip (rt_block_norm (go_seq (go_reg0
  (go_op0 rfl rfl (st_id (v := (V.lit (Value.int .i64 0))) (H := h57) (by kernel_rfl)
  (go_end0 (by kernel_rfl)
  (go_ret (by kernel_rfl))))))))))))))))))))))))))))))))))))))))))))))))))))))))))))))))))))))))))))))))))))))))))))))))))))))))))))))))))))))))))))))))))))))))))))))))
theorem xe68 (k wl : Nat) (h : Hp) : evF Try.prog xM (k + 1) wl 68 [t0] h = bodyV (xX (xS k) 68 wl k false) Try.f68 [t0] h := by kernel_rfl
-- names: xb68,
noncomputable def xg69_0 : Code := codeAt (bodyOf Try.f69) [1,1,0,0]
theorem xo69_2 : orderIx (opsOf xg69_0) = [0,1,2,3,4,5,6,7,8,9,10,11,12,13,14,15,16,17,18,19,20,21,22,23] := by kernel_rfl
theorem xo69_2a : (rgOf (opsOf xg69_0)).any = false := by kernel_rfl
theorem xo69_2r : regOk (opsOf xg69_0) = true := by kernel_rfl
theorem xb69 (s : Sys) (k wl : Nat) (h : Hp) : bodyV (xX s 69 wl k false) Try.f69 [t0] h =
  bm (vNil t0 h) h fun v1 h2 =>
  bm (vFieldAddr s.P 96 v1 2) h2 fun v3 h4 =>
  bm (vLoad s.P 26 v3 h4) h4 fun v5 h6 =>
  bm (vNil t0 h6) h6 fun v7 h8 =>
  bm (vFieldAddr s.P 96 v7 0) h8 fun v9 h10 =>
  bm (vFieldAddr s.P 30 v9 4) h10 fun v11 h12 =>
  bm (vLoad s.P 28 v11 h12) h12 fun v13 h14 =>
  bm (vNil t0 h14) h14 fun v15 h16 =>
  bm (vFieldAddr s.P 96 v15 0) h16 fun v17 h18 =>
  bm (vFieldAddr s.P 30 v17 4) h18 fun v19 h20 =>
  bm (vLoad s.P 28 v19 h20) h20 fun v21 h22 =>
  bm (vBin s.P .add 28 v21 (V.lit (Value.int .u64 1))) h22 fun v23 h24 =>
  bp (callV (xX s 69 wl k false) false true (.fn (.func 61) [] []) [v5,(V.lit (Value.int .i64 5)),v13,v23] h24) fun v25 h26 =>
  bm (vExtract v25 0) h26 fun v27 h28 =>
  bm (vExtract v25 1) h28 fun v29 h30 =>
  bm (vNil t0 h30) h30 fun v31 h32 =>
  bm (vFieldAddr s.P 96 v31 2) h32 fun v33 h34 =>
  bs (vStore s.P wl 26 v33 v27 h34) fun h35 =>
  cnd v29 (
  some ((V.lit (Value.int .i64 3)),h35)) (
  some ((V.lit (Value.int .i64 0)),h35)) :=
  bodyV_run rfl (go_seq (go_reg0
  (go_op0 rfl rfl (st_id (v := (V.lit (Value.int .i64 0))) (H := h) (by kernel_rfl)
  (go_end0 (by kernel_rfl)
  (go_seq (go_reg0
  (go_op0 rfl rfl (st_id (v := (V.lit (Value.bool false))) (H := h) (by kernel_rfl)
  (go_end0 (by kernel_rfl)
  (go_seq (go_seq (go_reg1 xo69_2r
  (go_op1 xo69_2 xo69_2a rfl rfl rfl (st_no (by kernel_rfl) (st_id (v := t0) (H := h) (by kernel_rfl)
  (go_op1 xo69_2 xo69_2a rfl rfl rfl (st_no (by kernel_rfl) (st_id (v := t0) (H := h) (by kernel_rfl)
  (go_op1 xo69_2 xo69_2a rfl rfl rfl (st_no (by kernel_rfl) (st_bm (by kernel_rfl) fun v1 h2 =>
  (go_op1 xo69_2 xo69_2a rfl rfl rfl (st_no (by kernel_rfl) (st_bm (by kernel_rfl) fun v3 h4 =>
  (go_op1 xo69_2 xo69_2a rfl rfl rfl (st_no (by kernel_rfl) (st_bm (by kernel_rfl) fun v5 h6 =>
  (go_op1 xo69_2 xo69_2a rfl rfl rfl (st_no (by kernel_rfl) (st_id (v := t0) (H := h6) (by kernel_rfl)
  (go_op1 xo69_2 xo69_2a rfl rfl rfl (st_no (by kernel_rfl) (st_bm (by kernel_rfl) fun v7 h8 =>
  (go_op1 xo69_2 xo69_2a rfl rfl rfl (st_no (by kernel_rfl) (st_bm (by kernel_rfl) fun v9 h10 =>
  (go_op1 xo69_2 xo69_2a rfl rfl rfl (st_no (by kernel_rfl) (st_bm (by kernel_rfl) fun v11 h12 =>
  (go_op1 xo69_2 xo69_2a rfl rfl rfl (st_no (by kernel_rfl) (st_bm (by kernel_rfl) fun v13 h14 =>
  (go_op1 xo69_2 xo69_2a rfl rfl rfl (st_no (by kernel_rfl) (st_id (v := t0) (H := h14) (by kernel_rfl)
  (go_op1 xo69_2 xo69_2a rfl rfl rfl (st_no (by kernel_rfl) (st_bm (by kernel_rfl) fun v15 h16 =>
  (go_op1 xo69_2 xo69_2a rfl rfl rfl (st_no (by kernel_rfl) (st_bm (by kernel_rfl) fun v17 h18 =>
  (go_op1 xo69_2 xo69_2a rfl rfl rfl (st_no (by kernel_rfl) (st_bm (by kernel_rfl) fun v19 h20 =>
  (go_op1 xo69_2 xo69_2a rfl rfl rfl (st_no (by kernel_rfl) (st_bm (by kernel_rfl) fun v21 h22 =>
  (go_op1 xo69_2 xo69_2a rfl rfl rfl (st_no (by kernel_rfl) (st_bm (by kernel_rfl) fun v23 h24 =>
  (go_op1 xo69_2 xo69_2a rfl rfl rfl (st_no (by kernel_rfl) (st_bp (by kernel_rfl) fun v25 h26 =>
  (go_op1 xo69_2 xo69_2a rfl rfl rfl (st_no (by kernel_rfl) (st_id (v := v25) (H := h26) (by kernel_rfl)
  (go_op1 xo69_2 xo69_2a rfl rfl rfl (st_no (by kernel_rfl) (st_bm (by kernel_rfl) fun v27 h28 =>
  (go_op1 xo69_2 xo69_2a rfl rfl rfl (st_no (by kernel_rfl) (st_bm (by kernel_rfl) fun v29 h30 =>
  (go_op1 xo69_2 xo69_2a rfl rfl rfl (st_no (by kernel_rfl) (st_bm (by kernel_rfl) fun v31 h32 =>
  (go_op1 xo69_2 xo69_2a rfl rfl rfl (st_no (by kernel_rfl) (st_bm (by kernel_rfl) fun v33 h34 =>
  (go_op1 xo69_2 xo69_2a rfl rfl rfl (st_no (by kernel_rfl) (st_bs (by kernel_rfl) fun h35 =>
  (go_op1 xo69_2 xo69_2a rfl rfl rfl (st_no (by kernel_rfl) (st_id (v := v29) (H := h35) (by kernel_rfl)
  (go_end1 xo69_2 (by kernel_rfl) xo69_2a
  (go_seq (go_reg0
  (go_op0 rfl rfl (st_id (v := v29) (H := h35) (by kernel_rfl)
  (go_end0 (by kernel_rfl)
  (go_cond (by kernel_rfl)
  (go_seq (go_reg0
  (go_op0 rfl rfl (st_id (v := (V.lit (Value.int .i64 3))) (H := h35) (by kernel_rfl)
  (go_end0 (by kernel_rfl)
  (go_ret (rt_seq_ret (by kernel_rfl))))))))
  (go_skip (go_seq (go_reg0
  (go_op0 rfl rfl (st_id (v := (V.lit (Value.int .i64 0))) (H := h35) (by kernel_rfl)
  (go_end0 (by kernel_rfl)
  (go_ret (by kernel_rfl))))))))))))))))))))))))))))))))))))))))))))))))))))))))))))))))))))))))))))))))))))))))))))))))))))
theorem xe69 (k wl : Nat) (h : Hp) : evF Try.prog xM (k + 1) wl 69 [t0] h = bodyV (xX (xS k) 69 wl k false) Try.f69 [t0] h := by kernel_rfl
-- names: xb69,
noncomputable def xg70_0 : Code := codeAt (bodyOf Try.f70) [1,0]
theorem xo70_1 : orderIx (opsOf xg70_0) = [0,1,2,3,4,5,6,7,8,9,10,11,12,13,14,15,16,17,18,19,20,21,22,23] := by kernel_rfl
theorem xo70_1a : (rgOf (opsOf xg70_0)).any = false := by kernel_rfl
theorem xo70_1r : regOk (opsOf xg70_0) = true := by kernel_rfl
theorem xb70 (s : Sys) (k wl : Nat) (h : Hp) : bodyV (xX s 70 wl k false) Try.f70 [t0] h =
  stO h.length t0 (
  bm (vNil t0 h) h fun v1 h2 =>
  bm (vFieldAddr s.P 96 v1 2) h2 fun v3 h4 =>
  stO h.length v3 (
  bm (vLoad s.P 26 v3 h4) h4 fun v5 h6 =>
  bm (vNil t0 h6) h6 fun v7 h8 =>
  bm (vFieldAddr s.P 96 v7 1) h8 fun v9 h10 =>
  bm (vLoad s.P 23 v9 h10) h10 fun v11 h12 =>
  bm (vNil t0 h12) h12 fun v13 h14 =>
  bm (vFieldAddr s.P 96 v13 0) h14 fun v15 h16 =>
  bm (vFieldAddr s.P 30 v15 4) h16 fun v17 h18 =>
  bm (vLoad s.P 28 v17 h18) h18 fun v19 h20 =>
  bp (callV (xX s 70 wl k false) true true (.fn (.func 76) [] []) [v11,v19] h20) fun v21 h22 =>
  stO h.length t0 (
  bm (vNil t0 h22) h22 fun v23 h24 =>
  bm (vFieldAddr s.P 96 v23 0) h24 fun v25 h26 =>
  bm (vFieldAddr s.P 30 v25 3) h26 fun v27 h28 =>
  stO h.length v27 (
  bm (vLoad s.P 28 v27 h28) h28 fun v29 h30 =>
  bp (callV (xX s 70 wl k false) false true (.fn (.func 18) [] []) [v5,v21,v29] h30) fun v31 h32 =>
  bm (vNil t0 h32) h32 fun v33 h34 =>
  bm (vFieldAddr s.P 96 v33 2) h34 fun v35 h36 =>
  bs (vStore s.P wl 26 v35 v31 h36) fun h37 =>
  some ((V.lit (Value.int .i64 4)),h37))))) :=
  bodyV_run rfl (go_seq (go_reg0
  (go_op0 rfl rfl (st_id (v := (V.lit (Value.int .i64 0))) (H := h) (by kernel_rfl)
  (go_end0 (by kernel_rfl)
  (go_seq (go_reg1 xo70_1r
  (go_op1 xo70_1 xo70_1a rfl rfl rfl (st_no (by kernel_rfl) (st_id (v := t0) (H := h) (by kernel_rfl)
  (go_op1 xo70_1 xo70_1a rfl rfl rfl (st_no (by kernel_rfl) (st_id (v := t0) (H := h) (by kernel_rfl)
  (go_op1 xo70_1 xo70_1a rfl rfl rfl (st_yes (by kernel_rfl) (st_bm (by kernel_rfl) fun v1 h2 =>
  (go_op1 xo70_1 xo70_1a rfl rfl rfl (st_no (by kernel_rfl) (st_bm (by kernel_rfl) fun v3 h4 =>
  (go_op1 xo70_1 xo70_1a rfl rfl rfl (st_yes (by kernel_rfl) (st_bm (by kernel_rfl) fun v5 h6 =>
  (go_op1 xo70_1 xo70_1a rfl rfl rfl (st_no (by kernel_rfl) (st_id (v := t0) (H := h6) (by kernel_rfl)
  (go_op1 xo70_1 xo70_1a rfl rfl rfl (st_no (by kernel_rfl) (st_bm (by kernel_rfl) fun v7 h8 =>
  (go_op1 xo70_1 xo70_1a rfl rfl rfl (st_no (by kernel_rfl) (st_bm (by kernel_rfl) fun v9 h10 =>
  (go_op1 xo70_1 xo70_1a rfl rfl rfl (st_no (by kernel_rfl) (st_bm (by kernel_rfl) fun v11 h12 =>
  (go_op1 xo70_1 xo70_1a rfl rfl rfl (st_no (by kernel_rfl) (st_id (v := t0) (H := h12) (by kernel_rfl)
  (go_op1 xo70_1 xo70_1a rfl rfl rfl (st_no (by kernel_rfl) (st_bm (by kernel_rfl) fun v13 h14 =>
  (go_op1 xo70_1 xo70_1a rfl rfl rfl (st_no (by kernel_rfl) (st_bm (by kernel_rfl) fun v15 h16 =>
  (go_op1 xo70_1 xo70_1a rfl rfl rfl (st_no (by kernel_rfl) (st_bm (by kernel_rfl) fun v17 h18 =>
  (go_op1 xo70_1 xo70_1a rfl rfl rfl (st_no (by kernel_rfl) (st_bm (by kernel_rfl) fun v19 h20 =>
  (go_op1 xo70_1 xo70_1a rfl rfl rfl (st_no (by kernel_rfl) (st_bp (by kernel_rfl) fun v21 h22 =>
  (go_op1 xo70_1 xo70_1a rfl rfl rfl (st_no (by kernel_rfl) (st_id (v := t0) (H := h22) (by kernel_rfl)
  (go_op1 xo70_1 xo70_1a rfl rfl rfl (st_yes (by kernel_rfl) (st_bm (by kernel_rfl) fun v23 h24 =>
  (go_op1 xo70_1 xo70_1a rfl rfl rfl (st_no (by kernel_rfl) (st_bm (by kernel_rfl) fun v25 h26 =>
  (go_op1 xo70_1 xo70_1a rfl rfl rfl (st_no (by kernel_rfl) (st_bm (by kernel_rfl) fun v27 h28 =>
  (go_op1 xo70_1 xo70_1a rfl rfl rfl (st_yes (by kernel_rfl) (st_bm (by kernel_rfl) fun v29 h30 =>
  (go_op1 xo70_1 xo70_1a rfl rfl rfl (st_no (by kernel_rfl) (st_bp (by kernel_rfl) fun v31 h32 =>
  (go_op1 xo70_1 xo70_1a rfl rfl rfl (st_no (by kernel_rfl) (st_bm (by kernel_rfl) fun v33 h34 =>
  (go_op1 xo70_1 xo70_1a rfl rfl rfl (st_no (by kernel_rfl) (st_bm (by kernel_rfl) fun v35 h36 =>
  (go_op1 xo70_1 xo70_1a rfl rfl rfl (st_no (by kernel_rfl) (st_bs (by kernel_rfl) fun h37 =>
  (go_end1 xo70_1 (by kernel_rfl) xo70_1a
  (go_seq (go_reg0
  (go_op0 rfl rfl (st_id (v := (V.lit (Value.int .i64 4))) (H := h37) (by kernel_rfl)
  (go_end0 (by kernel_rfl)
  (go_ret (by kernel_rfl)))))))))))))))))))))))))))))))))))))))))))))))))))))))))))))))))))))))))))))))))))))))
theorem xe70 (k wl : Nat) (h : Hp) : evF Try.prog xM (k + 1) wl 70 [t0] h = bodyV (xX (xS k) 70 wl k false) Try.f70 [t0] h := by kernel_rfl
-- names: xb70,
noncomputable def xg71_0 : Code := codeAt (bodyOf Try.f71) [1,0]
noncomputable def xg71_1 : Code := codeAt (bodyOf Try.f71) [1,1,0]
theorem xo71_1 : orderIx (opsOf xg71_0) = [0,1,2,3,4,5,6,7,8,9,10,11,12,13,14,15,16,17,18,19,20,21] := by kernel_rfl
theorem xo71_1a : (rgOf (opsOf xg71_0)).any = false := by kernel_rfl
theorem xo71_1r : regOk (opsOf xg71_0) = true := by kernel_rfl
theorem xo71_2 : orderIx (opsOf xg71_1) = [0,1,2,3,4,5,6,7,8,9,10,11,12,13] := by kernel_rfl
theorem xo71_2a : (rgOf (opsOf xg71_1)).any = false := by kernel_rfl
theorem xo71_2r : regOk (opsOf xg71_1) = true := by kernel_rfl
theorem xb71 (s : Sys) (k wl : Nat) (h : Hp) : bodyV (xX s 71 wl k false) Try.f71 [t0] h =
  stO h.length t0 (
  bm (vNil t0 h) h fun v1 h2 =>
  bm (vFieldAddr s.P 96 v1 2) h2 fun v3 h4 =>
  stO h.length v3 (
  bm (vLoad s.P 26 v3 h4) h4 fun v5 h6 =>
  bm (vNil t0 h6) h6 fun v7 h8 =>
  bm (vFieldAddr s.P 96 v7 1) h8 fun v9 h10 =>
  bm (vLoad s.P 23 v9 h10) h10 fun v11 h12 =>
  bm (vNil t0 h12) h12 fun v13 h14 =>
  bm (vFieldAddr s.P 96 v13 0) h14 fun v15 h16 =>
  bm (vFieldAddr s.P 30 v15 4) h16 fun v17 h18 =>
  bm (vLoad s.P 28 v17 h18) h18 fun v19 h20 =>
  bp (callV (xX s 71 wl k false) true true (.fn (.func 73) [] []) [v11,v19] h20) fun v21 h22 =>
  bp (callV (xX s 71 wl k false) true true (.fn (.func 89) [] []) [t0] h22) fun v23 h24 =>
  bm (vBin s.P .add 28 v23 (V.lit (Value.int .u64 1))) h24 fun v25 h26 =>
  bp (callV (xX s 71 wl k false) false true (.fn (.func 18) [] []) [v5,v21,v25] h26) fun v27 h28 =>
  bm (vNil t0 h28) h28 fun v29 h30 =>
  bm (vFieldAddr s.P 96 v29 2) h30 fun v31 h32 =>
  bs (vStore s.P wl 26 v31 v27 h32) fun h33 =>
  bm (vNil t0 h33) h33 fun v34 h35 =>
  bm (vFieldAddr s.P 96 v34 0) h35 fun v36 h37 =>
  bm (vLoad s.P 30 v36 h37) h37 fun v38 h39 =>
  bm (vNil t0 h39) h39 fun v40 h41 =>
  bm (vFieldAddr s.P 96 v40 0) h41 fun v42 h43 =>
  bm (vFieldAddr s.P 30 v42 3) h43 fun v44 h45 =>
  bm (vLoad s.P 28 v44 h45) h45 fun v46 h47 =>
  bp (callV (xX s 71 wl k false) false true (.fn (.func 63) [] []) [v38,(V.lit (Value.int .i64 1)),v46] h47) fun v48 h49 =>
  bm (vNil t0 h49) h49 fun v50 h51 =>
  bm (vFieldAddr s.P 96 v50 0) h51 fun v52 h53 =>
  bs (vStore s.P wl 30 v52 v48 h53) fun h54 =>
  some ((V.lit (Value.int .i64 0)),h54))) :=
  bodyV_run rfl (go_seq (go_reg0
  (go_op0 rfl rfl (st_id (v := (V.lit (Value.int .i64 0))) (H := h) (by kernel_rfl)
  (go_end0 (by kernel_rfl)
  (go_seq (go_reg1 xo71_1r
  (go_op1 xo71_1 xo71_1a rfl rfl rfl (st_no (by kernel_rfl) (st_id (v := t0) (H := h) (by kernel_rfl)
  (go_op1 xo71_1 xo71_1a rfl rfl rfl (st_no (by kernel_rfl) (st_id (v := t0) (H := h) (by kernel_rfl)
  (go_op1 xo71_1 xo71_1a rfl rfl rfl (st_yes (by kernel_rfl) (st_bm (by kernel_rfl) fun v1 h2 =>
  (go_op1 xo71_1 xo71_1a rfl rfl rfl (st_no (by kernel_rfl) (st_bm (by kernel_rfl) fun v3 h4 =>
  (go_op1 xo71_1 xo71_1a rfl rfl rfl (st_yes (by kernel_rfl) (st_bm (by kernel_rfl) fun v5 h6 =>
  (go_op1 xo71_1 xo71_1a rfl rfl rfl (st_no (by kernel_rfl) (st_id (v := t0) (H := h6) (by kernel_rfl)
  (go_op1 xo71_1 xo71_1a rfl rfl rfl (st_no (by kernel_rfl) (st_bm (by kernel_rfl) fun v7 h8 =>
  (go_op1 xo71_1 xo71_1a rfl rfl rfl (st_no (by kernel_rfl) (st_bm (by kernel_rfl) fun v9 h10 =>
  (go_op1 xo71_1 xo71_1a rfl rfl rfl (st_no (by kernel_rfl) (st_bm (by kernel_rfl) fun v11 h12 =>
  (go_op1 xo71_1 xo71_1a rfl rfl rfl (st_no (by kernel_rfl) (st_id (v := t0) (H := h12) (by kernel_rfl)
  (go_op1 xo71_1 xo71_1a rfl rfl rfl (st_no (by kernel_rfl) (st_bm (by kernel_rfl) fun v13 h14 =>
  (go_op1 xo71_1 xo71_1a rfl rfl rfl (st_no (by kernel_rfl) (st_bm (by kernel_rfl) fun v15 h16 =>
  (go_op1 xo71_1 xo71_1a rfl rfl rfl (st_no (by kernel_rfl) (st_bm (by kernel_rfl) fun v17 h18 =>
  (go_op1 xo71_1 xo71_1a rfl rfl rfl (st_no (by kernel_rfl) (st_bm (by kernel_rfl) fun v19 h20 =>
  (go_op1 xo71_1 xo71_1a rfl rfl rfl (st_no (by kernel_rfl) (st_bp (by kernel_rfl) fun v21 h22 =>
  (go_op1 xo71_1 xo71_1a rfl rfl rfl (st_no (by kernel_rfl) (st_id (v := t0) (H := h22) (by kernel_rfl)
  (go_op1 xo71_1 xo71_1a rfl rfl rfl (st_no (by kernel_rfl) (st_bp (by kernel_rfl) fun v23 h24 =>
  (go_op1 xo71_1 xo71_1a rfl rfl rfl (st_no (by kernel_rfl) (st_bm (by kernel_rfl) fun v25 h26 =>
  (go_op1 xo71_1 xo71_1a rfl rfl rfl (st_no (by kernel_rfl) (st_bp (by kernel_rfl) fun v27 h28 =>
  (go_op1 xo71_1 xo71_1a rfl rfl rfl (st_no (by kernel_rfl) (st_bm (by kernel_rfl) fun v29 h30 =>
  (go_op1 xo71_1 xo71_1a rfl rfl rfl (st_no (by kernel_rfl) (st_bm (by kernel_rfl) fun v31 h32 =>
  (go_op1 xo71_1 xo71_1a rfl rfl rfl (st_no (by kernel_rfl) (st_bs (by kernel_rfl) fun h33 =>
  (go_end1 xo71_1 (by kernel_rfl) xo71_1a
  (go_seq (go_reg1 xo71_2r
  (go_op1 xo71_2 xo71_2a rfl rfl rfl (st_no (by kernel_rfl) (st_id (v := t0) (H := h33) (by kernel_rfl)
  (go_op1 xo71_2 xo71_2a rfl rfl rfl (st_no (by kernel_rfl) (st_id (v := t0) (H := h33) (by kernel_rfl)
  (go_op1 xo71_2 xo71_2a rfl rfl rfl (st_no (by kernel_rfl) (st_bm (by kernel_rfl) fun v34 h35 =>
  (go_op1 xo71_2 xo71_2a rfl rfl rfl (st_no (by kernel_rfl) (st_bm (by kernel_rfl) fun v36 h37 =>
  (go_op1 xo71_2 xo71_2a rfl rfl rfl (st_no (by kernel_rfl) (st_bm (by kernel_rfl) fun v38 h39 =>
  (go_op1 xo71_2 xo71_2a rfl rfl rfl (st_no (by kernel_rfl) (st_id (v := t0) (H := h39) (by kernel_rfl)
  (go_op1 xo71_2 xo71_2a rfl rfl rfl (st_no (by kernel_rfl) (st_bm (by kernel_rfl) fun v40 h41 =>
  (go_op1 xo71_2 xo71_2a rfl rfl rfl (st_no (by kernel_rfl) (st_bm (by kernel_rfl) fun v42 h43 =>
  (go_op1 xo71_2 xo71_2a rfl rfl rfl (st_no (by kernel_rfl) (st_bm (by kernel_rfl) fun v44 h45 =>
  (go_op1 xo71_2 xo71_2a rfl rfl rfl (st_no (by kernel_rfl) (st_bm (by kernel_rfl) fun v46 h47 =>
  (go_op1 xo71_2 xo71_2a rfl rfl rfl (st_no (by kernel_rfl) (st_bp (by kernel_rfl) fun v48 h49 =>
  (go_op1 xo71_2 xo71_2a rfl rfl rfl (st_no (by kernel_rfl) (st_bm (by kernel_rfl) fun v50 h51 =>
  (go_op1 xo71_2 xo71_2a rfl rfl rfl (st_no (by kernel_rfl) (st_bm (by kernel_rfl) fun v52 h53 =>
  (go_op1 xo71_2 xo71_2a rfl rfl rfl (st_no (by kernel_rfl) (st_bs (by kernel_rfl) fun h54 =>
  (go_end1 xo71_2 (by kernel_rfl) xo71_2a
  (go_seq (go_reg0
  (go_op0 rfl rfl (st_id (v := (V.lit (Value.int .i64 0))) (H := h54) (by kernel_rfl)
  (go_end0 (by kernel_rfl)
  (go_ret (by kernel_rfl))))))))))))))))))))))))))))))))))))))))))))))))))))))))))))))))))))))))))))))))))))))))))))))))))))))))))))))))))))))))))))))
theorem xe71 (k wl : Nat) (h : Hp) : evF Try.prog xM (k + 1) wl 71 [t0] h = bodyV (xX (xS k) 71 wl k false) Try.f71 [t0] h := by kernel_rfl
-- names: xb71,

theorem xb72 (s : Sys) (k wl : Nat) (h : Hp) : bodyV (xX s 72 wl k false) Try.f72 [t0,t1] h =
  bm (vLoad s.P 99 t0 h) h fun v1 h2 =>
  bm (vFieldAddr s.P 30 t1 1) h2 fun v3 h4 =>
  bm (vLoad s.P 3 v3 h4) h4 fun v5 h6 =>
  bm (vIndexAddr s.P 99 v1 v5 h6) h6 fun v7 h8 =>
  bm (vLoad s.P 98 v7 h8) h8 fun v9 h10 =>
  bp (callV (xX s 72 wl k false) false true v9 [] h10) fun v11 h12 =>
  some (v11,h12) :=
  bodyV_run rfl (go_seq (go_reg0
  (go_op0 rfl rfl (st_id (v := (V.lit (Value.int .i64 0))) (H := h) (by kernel_rfl)
  (go_end0 (by kernel_rfl)
  (go_seq (go_reg0
  (go_op0 rfl rfl (st_bm (by kernel_rfl) fun v1 h2 =>
  (go_op0 rfl rfl (st_bm (by kernel_rfl) fun v3 h4 =>
  (go_op0 rfl rfl (st_bm (by kernel_rfl) fun v5 h6 =>
  (go_op0 rfl rfl (st_bm (by kernel_rfl) fun v7 h8 =>
  (go_op0 rfl rfl (st_bm (by kernel_rfl) fun v9 h10 =>
  (go_op0 rfl rfl (st_bp (by kernel_rfl) fun v11 h12 =>
  (go_op0 rfl rfl (st_id (v := v11) (H := h12) (by kernel_rfl)
  (go_end0 (by kernel_rfl)
  (go_ret (by kernel_rfl))))))))))))))))))))))))
theorem xe72 (k wl : Nat) (h : Hp) : evF Try.prog xM (k + 1) wl 72 [t0,t1] h = bodyV (xX (xS k) 72 wl k false) Try.f72 [t0,t1] h := by kernel_rfl
-- names: xb72,

theorem xb73 (s : Sys) (k wl : Nat) (h : Hp) : bodyV (xX s 73 wl k false) Try.f73 [t0,t1] h =
  bp (opBox t0 h) fun v1 h2 =>
  bp (opBox t1 h2) fun v3 h4 =>
  bm (vLoad s.P 23 v1 h4) h4 fun v5 h6 =>
  bp (callV (xX s 73 wl k false) false true (.fn (.func 90) [] []) [v5,(V.lit (Value.int .i64 0)),(.fn (.func 91) [] [v3,v1])] h6) fun v7 h8 =>
  some (v7,h8) :=
  bodyV_run rfl (go_seq (go_reg0
  (go_op0 rfl rfl (st_bp (by kernel_rfl) fun v1 h2 =>
  (go_op0 rfl rfl (st_bp (by kernel_rfl) fun v3 h4 =>
  (go_op0 rfl rfl (st_id (v := (V.lit (Value.int .i64 0))) (H := h4) (by kernel_rfl)
  (go_end0 (by kernel_rfl)
  (go_seq (go_reg0
  (go_op0 rfl rfl (st_bm (by kernel_rfl) fun v5 h6 =>
  (go_op0 rfl rfl (st_id (v := (.fn (.func 91) [] [v3,v1])) (H := h6) (by kernel_rfl)
  (go_op0 rfl rfl (st_bp (by kernel_rfl) fun v7 h8 =>
  (go_op0 rfl rfl (st_id (v := v7) (H := h8) (by kernel_rfl)
  (go_end0 (by kernel_rfl)
  (go_ret (by kernel_rfl))))))))))))))))))))))
theorem xe73 (k wl : Nat) (h : Hp) : evF Try.prog xM (k + 1) wl 73 [t0,t1] h = bodyV (xX (xS k) 73 wl k false) Try.f73 [t0,t1] h := by kernel_rfl
-- names: xb73,

theorem xb74 (s : Sys) (k wl : Nat) (h : Hp) : bodyV (xX s 74 wl k false) Try.f74 [t0,t1] h =
  bm (vBin s.P .sub 28 t0 t1) h fun v1 h2 =>
  bm (vConv s.P 28 3 v1) h2 fun v3 h4 =>
  some (v3,h4) :=
  bodyV_run rfl (go_seq (go_reg0
  (go_op0 rfl rfl (st_id (v := (V.lit (Value.int .i64 0))) (H := h) (by kernel_rfl)
  (go_end0 (by kernel_rfl)
  (go_seq (go_reg0
  (go_op0 rfl rfl (st_id (v := t0) (H := h) (by kernel_rfl)
  (go_op0 rfl rfl (st_id (v := t1) (H := h) (by kernel_rfl)
  (go_op0 rfl rfl (st_bm (by kernel_rfl) fun v1 h2 =>
  (go_op0 rfl rfl (st_bm (by kernel_rfl) fun v3 h4 =>
  (go_op0 rfl rfl (st_id (v := v3) (H := h4) (by kernel_rfl)
  (go_end0 (by kernel_rfl)
  (go_ret (by kernel_rfl))))))))))))))))))))
theorem xe74 (k wl : Nat) (h : Hp) : evF Try.prog xM (k + 1) wl 74 [t0,t1] h = bodyV (xX (xS k) 74 wl k false) Try.f74 [t0,t1] h := by kernel_rfl
-- names: xb74,

theorem xb75 (s : Sys) (k wl : Nat) (h : Hp) : bodyV (xX s 75 wl k false) Try.f75 [t0,t1] h =
  bp (opBox t0 h) fun v1 h2 =>
  bm (vFieldAddr s.P 23 v1 2) h2 fun v3 h4 =>
  bm (vLoad s.P 3 v3 h4) h4 fun v5 h6 =>
  bm (vConv s.P 3 28 v5) h6 fun v7 h8 =>
  bm (vBin s.P .quo 28 t1 v7) h8 fun v9 h10 =>
  bm (vBin s.P .mul 28 v9 (V.lit (Value.int .u64 2))) h10 fun v11 h12 =>
  bm (vBin s.P .add 28 v11 (V.lit (Value.int .u64 1))) h12 fun v13 h14 =>
  some (v13,h14) :=
  bodyV_run rfl (go_seq (go_reg0
  (go_op0 rfl rfl (st_bp (by kernel_rfl) fun v1 h2 =>
  (go_op0 rfl rfl (st_id (v := (V.lit (Value.int .u64 0))) (H := h2) (by kernel_rfl)
  (go_end0 (by kernel_rfl)
  (go_seq (go_reg0
  (go_op0 rfl rfl (st_id (v := t1) (H := h2) (by kernel_rfl)
  (go_op0 rfl rfl (st_bm (by kernel_rfl) fun v3 h4 =>
  (go_op0 rfl rfl (st_bm (by kernel_rfl) fun v5 h6 =>
  (go_op0 rfl rfl (st_bm (by kernel_rfl) fun v7 h8 =>
  (go_op0 rfl rfl (st_bm (by kernel_rfl) fun v9 h10 =>
  (go_op0 rfl rfl (st_bm (by kernel_rfl) fun v11 h12 =>
  (go_op0 rfl rfl (st_bm (by kernel_rfl) fun v13 h14 =>
  (go_op0 rfl rfl (st_id (v := v13) (H := h14) (by kernel_rfl)
  (go_end0 (by kernel_rfl)
  (go_ret (by kernel_rfl))))))))))))))))))))))))))))
theorem xe75 (k wl : Nat) (h : Hp) : evF Try.prog xM (k + 1) wl 75 [t0,t1] h = bodyV (xX (xS k) 75 wl k false) Try.f75 [t0,t1] h := by kernel_rfl
-- names: xb75,

theorem xb76 (s : Sys) (k wl : Nat) (h : Hp) : bodyV (xX s 76 wl k false) Try.f76 [t0,t1] h =
  bp (opBox t0 h) fun v1 h2 =>
  bp (opBox t1 h2) fun v3 h4 =>
  bm (vLoad s.P 23 v1 h4) h4 fun v5 h6 =>
  bp (callV (xX s 76 wl k false) false true (.fn (.func 90) [] []) [v5,(V.lit (Value.int .i64 0)),(.fn (.func 92) [] [v1,v3])] h6) fun v7 h8 =>
  some (v7,h8) :=
  bodyV_run rfl (go_seq (go_reg0
  (go_op0 rfl rfl (st_bp (by kernel_rfl) fun v1 h2 =>
  (go_op0 rfl rfl (st_bp (by kernel_rfl) fun v3 h4 =>
  (go_op0 rfl rfl (st_id (v := (V.lit (Value.int .i64 0))) (H := h4) (by kernel_rfl)
  (go_end0 (by kernel_rfl)
  (go_seq (go_reg0
  (go_op0 rfl rfl (st_bm (by kernel_rfl) fun v5 h6 =>
  (go_op0 rfl rfl (st_id (v := (.fn (.func 92) [] [v1,v3])) (H := h6) (by kernel_rfl)
  (go_op0 rfl rfl (st_bp (by kernel_rfl) fun v7 h8 =>
  (go_op0 rfl rfl (st_id (v := v7) (H := h8) (by kernel_rfl)
  (go_end0 (by kernel_rfl)
  (go_ret (by kernel_rfl))))))))))))))))))))))
theorem xe76 (k wl : Nat) (h : Hp) : evF Try.prog xM (k + 1) wl 76 [t0,t1] h = bodyV (xX (xS k) 76 wl k false) Try.f76 [t0,t1] h := by kernel_rfl
-- names: xb76,
noncomputable def xg88_0 : Code := codeAt (bodyOf Try.f88) [1,0]
noncomputable def xk88_0 : List Fr := [.seq (codeAt (bodyOf Try.f88) [1,1])]
theorem xb88 (s : Sys) (k wl : Nat) (h : Hp) : bodyV (xX s 88 wl k false) Try.f88 [t0,t1] h =
  bp (opBox t0 h) fun v1 h2 =>
  bm (vLoad s.P 23 v1 h2) h2 fun v3 h4 =>
  bp (callV (xX s 88 wl k false) false true (.fn (.func 14) [] []) [v3] h4) fun v5 h6 =>
  gd v5 (
  bp (opLen s.P 26 t1 h6) fun v7 h8 =>
  bm (vLoad s.P 23 v1 h8) h8 fun v9 h10 =>
  bp (callV (xX s 88 wl k false) false true (.fn (.func 37) [] []) [v9] h10) fun v11 h12 =>
  bm (vBin s.P .eql 3 v7 v11) h12 fun v13 h14 =>
  opsP (xX s 88 wl k false) xg88_0 8 h2.length ([],[]) (runK (xX s 88 wl k false) (bodyK s.P Try.f88) xk88_0) ⟨[t0,t1,v1,uu,(V.lit (Value.bool false)),v3,v5,(V.lit (Value.bool true)),t1,v7,v9,v11,v13,uu],h14⟩) (
  opsP (xX s 88 wl k false) xg88_0 8 h2.length ([],[]) (runK (xX s 88 wl k false) (bodyK s.P Try.f88) xk88_0) ⟨[t0,t1,v1,uu,(V.lit (Value.bool false)),v3,v5,(V.lit (Value.bool false)),uu,uu,uu,uu,uu,uu],h6⟩) (
  opsP (xX s 88 wl k false) xg88_0 4 h2.length ([],[]) (runK (xX s 88 wl k false) (bodyK s.P Try.f88) xk88_0) ⟨[t0,t1,v1,uu,(V.lit (Value.bool false)),v3,v5,v5,uu,uu,uu,uu,uu,uu],h6⟩) :=
  bodyV_run rfl (go_seq (go_reg0
  (go_op0 rfl rfl (st_bp (by kernel_rfl) fun v1 h2 =>
  (go_op0 rfl rfl (st_id (v := (V.lit (Value.bool false))) (H := h2) (by kernel_rfl)
  (go_end0 (by kernel_rfl)
  (go_seq (go_reg0
  (go_op0 rfl rfl (st_bm (by kernel_rfl) fun v3 h4 =>
  (go_op0 rfl rfl (st_bp (by kernel_rfl) fun v5 h6 =>
  (go_op0 rfl rfl (st_id (v := v5) (H := h6) (by kernel_rfl)
  (go_gdT0 rfl rfl rfl (by kernel_rfl)
  (st_id (v := t1) (H := h6) (by kernel_rfl)
  (go_run0 rfl rfl rfl (by kernel_rfl) (st_bp (by kernel_rfl) fun v7 h8 =>
  (go_run0 rfl rfl rfl (by kernel_rfl) (st_bm (by kernel_rfl) fun v9 h10 =>
  (go_run0 rfl rfl rfl (by kernel_rfl) (st_bp (by kernel_rfl) fun v11 h12 =>
  (go_run0 rfl rfl rfl (by kernel_rfl) (st_bm (by kernel_rfl) fun v13 h14 =>
  (by kernel_rfl))))))))))
  (go_skip0 rfl rfl rfl (by kernel_rfl)
  (go_skip0 rfl rfl rfl (by kernel_rfl)
  (go_skip0 rfl rfl rfl (by kernel_rfl)
  (go_skip0 rfl rfl rfl (by kernel_rfl)
  (by kernel_rfl)))))
  (by kernel_rfl)))))))))))))))))
theorem xe88 (k wl : Nat) (h : Hp) : evF Try.prog xM (k + 1) wl 88 [t0,t1] h = bodyV (xX (xS k) 88 wl k false) Try.f88 [t0,t1] h := by kernel_rfl
theorem xm88_0 (s : Sys) (k wl : Nat) (m0 : Nat) (ac : List Nat × List Nat) (h : Hp) : opsP (xX s 88 wl k false) xg88_0 8 m0 ac (runK (xX s 88 wl k false) (bodyK s.P Try.f88) xk88_0) ⟨[t0,t1,t2,t3,t4,t5,t6,t7,t8,t9,ta,tb,tc,td],h⟩ =
  bm (vPick t7 tc (V.lit (Value.bool false))) h fun v15 h16 =>
  some (v15,h16) :=
  (go_op0 rfl rfl (st_bm (by kernel_rfl) fun v15 h16 =>
  (go_op0 rfl rfl (st_id (v := v15) (H := h16) (by kernel_rfl)
  (go_end0 (by kernel_rfl)
  (go_ret (by kernel_rfl)))))))
theorem xk88_0_ret (cx : Cx) (K : Out → St → Option (V × Hp)) (s : St) : runK cx K xk88_0 .ret s = K .ret s := by kernel_rfl
-- names: xb88,xm88_0,xk88_0_ret
noncomputable def xg89_0 : Code := codeAt (bodyOf Try.f89) [1,0]
theorem xo89_1 : orderIx (opsOf xg89_0) = [0,1,2,3,4,5,6,7,8,9,10,11,12,13] := by kernel_rfl
theorem xo89_1a : (rgOf (opsOf xg89_0)).any = false := by kernel_rfl
theorem xo89_1r : regOk (opsOf xg89_0) = true := by kernel_rfl
theorem xb89 (s : Sys) (k wl : Nat) (h : Hp) : bodyV (xX s 89 wl k false) Try.f89 [t0] h =
  bm (vNil t0 h) h fun v1 h2 =>
  bm (vFieldAddr s.P 96 v1 0) h2 fun v3 h4 =>
  bm (vFieldAddr s.P 30 v3 4) h4 fun v5 h6 =>
  bm (vLoad s.P 28 v5 h6) h6 fun v7 h8 =>
  bm (vNil t0 h8) h8 fun v9 h10 =>
  bm (vFieldAddr s.P 96 v9 1) h10 fun v11 h12 =>
  bm (vFieldAddr s.P 23 v11 2) h12 fun v13 h14 =>
  bm (vLoad s.P 3 v13 h14) h14 fun v15 h16 =>
  bm (vConv s.P 3 28 v15) h16 fun v17 h18 =>
  bm (vBin s.P .quo 28 v7 v17) h18 fun v19 h20 =>
  bm (vBin s.P .mul 28 v19 (V.lit (Value.int .u64 2))) h20 fun v21 h22 =>
  some (v21,h22) :=
  bodyV_run rfl (go_seq (go_reg0
  (go_op0 rfl rfl (st_id (v := (V.lit (Value.int .u64 0))) (H := h) (by kernel_rfl)
  (go_end0 (by kernel_rfl)
  (go_seq (go_reg1 xo89_1r
  (go_op1 xo89_1 xo89_1a rfl rfl rfl (st_no (by kernel_rfl) (st_id (v := t0) (H := h) (by kernel_rfl)
  (go_op1 xo89_1 xo89_1a rfl rfl rfl (st_no (by kernel_rfl) (st_bm (by kernel_rfl) fun v1 h2 =>
  (go_op1 xo89_1 xo89_1a rfl rfl rfl (st_no (by kernel_rfl) (st_bm (by kernel_rfl) fun v3 h4 =>
  (go_op1 xo89_1 xo89_1a rfl rfl rfl (st_no (by kernel_rfl) (st_bm (by kernel_rfl) fun v5 h6 =>
  (go_op1 xo89_1 xo89_1a rfl rfl rfl (st_no (by kernel_rfl) (st_bm (by kernel_rfl) fun v7 h8 =>
  (go_op1 xo89_1 xo89_1a rfl rfl rfl (st_no (by kernel_rfl) (st_id (v := t0) (H := h8) (by kernel_rfl)
  (go_op1 xo89_1 xo89_1a rfl rfl rfl (st_no (by kernel_rfl) (st_bm (by kernel_rfl) fun v9 h10 =>
  (go_op1 xo89_1 xo89_1a rfl rfl rfl (st_no (by kernel_rfl) (st_bm (by kernel_rfl) fun v11 h12 =>
  (go_op1 xo89_1 xo89_1a rfl rfl rfl (st_no (by kernel_rfl) (st_bm (by kernel_rfl) fun v13 h14 =>
  (go_op1 xo89_1 xo89_1a rfl rfl rfl (st_no (by kernel_rfl) (st_bm (by kernel_rfl) fun v15 h16 =>
  (go_op1 xo89_1 xo89_1a rfl rfl rfl (st_no (by kernel_rfl) (st_bm (by kernel_rfl) fun v17 h18 =>
  (go_op1 xo89_1 xo89_1a rfl rfl rfl (st_no (by kernel_rfl) (st_bm (by kernel_rfl) fun v19 h20 =>
  (go_op1 xo89_1 xo89_1a rfl rfl rfl (st_no (by kernel_rfl) (st_bm (by kernel_rfl) fun v21 h22 =>
  (go_op1 xo89_1 xo89_1a rfl rfl rfl (st_no (by kernel_rfl) (st_id (v := v21) (H := h22) (by kernel_rfl)
  (go_end1 xo89_1 (by kernel_rfl) xo89_1a
  (go_ret (by kernel_rfl))))))))))))))))))))))))))))))))))))))))))))))))))))
theorem xe89 (k wl : Nat) (h : Hp) : evF Try.prog xM (k + 1) wl 89 [t0] h = bodyV (xX (xS k) 89 wl k false) Try.f89 [t0] h := by kernel_rfl
-- names: xb89,

theorem xb91 (s : Sys) (k wl : Nat) (h : Hp) : bodyV (xX s 91 wl k false) Try.f91 [t0,t1] h =
  bm (vLoad s.P 28 t0 h) h fun v1 h2 =>
  bm (vFieldAddr s.P 23 t1 2) h2 fun v3 h4 =>
  bm (vLoad s.P 3 v3 h4) h4 fun v5 h6 =>
  bm (vConv s.P 3 28 v5) h6 fun v7 h8 =>
  bm (vBin s.P .rem 28 v1 v7) h8 fun v9 h10 =>
  bm (vConv s.P 28 3 v9) h10 fun v11 h12 =>
  bm (vBin s.P .add 3 (V.lit (Value.int .i64 6)) v11) h12 fun v13 h14 =>
  some (v13,h14) :=
  bodyV_run rfl (go_seq (go_reg0
  (go_op0 rfl rfl (st_id (v := (V.lit (Value.int .i64 0))) (H := h) (by kernel_rfl)
  (go_end0 (by kernel_rfl)
  (go_seq (go_reg0
  (go_op0 rfl rfl (st_bm (by kernel_rfl) fun v1 h2 =>
  (go_op0 rfl rfl (st_bm (by kernel_rfl) fun v3 h4 =>
  (go_op0 rfl rfl (st_bm (by kernel_rfl) fun v5 h6 =>
  (go_op0 rfl rfl (st_bm (by kernel_rfl) fun v7 h8 =>
  (go_op0 rfl rfl (st_bm (by kernel_rfl) fun v9 h10 =>
  (go_op0 rfl rfl (st_bm (by kernel_rfl) fun v11 h12 =>
  (go_op0 rfl rfl (st_bm (by kernel_rfl) fun v13 h14 =>
  (go_op0 rfl rfl (st_id (v := v13) (H := h14) (by kernel_rfl)
  (go_end0 (by kernel_rfl)
  (go_ret (by kernel_rfl))))))))))))))))))))))))))
theorem xe91 (k wl : Nat) (h : Hp) : evF Try.prog xM (k + 1) wl 91 [t0,t1] h = bodyV (xX (xS k) 91 wl k false) Try.f91 [t0,t1] h := by kernel_rfl
-- names: xb91,
noncomputable def xg92_0 : Code := codeAt (bodyOf Try.f92) [1,0]
theorem xo92_1 : orderIx (opsOf xg92_0) = [0,1,2,3,4,5,6,7,8,9,10] := by kernel_rfl
theorem xo92_1a : (rgOf (opsOf xg92_0)).any = false := by kernel_rfl
theorem xo92_1r : regOk (opsOf xg92_0) = true := by kernel_rfl
theorem xb92 (s : Sys) (k wl : Nat) (h : Hp) : bodyV (xX s 92 wl k false) Try.f92 [t0,t1] h =
  bm (vFieldAddr s.P 23 t0 2) h fun v1 h2 =>
  bm (vLoad s.P 3 v1 h2) h2 fun v3 h4 =>
  bm (vBin s.P .add 3 (V.lit (Value.int .i64 6)) v3) h4 fun v5 h6 =>
  bm (vLoad s.P 28 t1 h6) h6 fun v7 h8 =>
  bm (vFieldAddr s.P 23 t0 2) h8 fun v9 h10 =>
  bm (vLoad s.P 3 v9 h10) h10 fun v11 h12 =>
  bm (vConv s.P 3 28 v11) h12 fun v13 h14 =>
  bm (vBin s.P .rem 28 v7 v13) h14 fun v15 h16 =>
  bm (vConv s.P 28 3 v15) h16 fun v17 h18 =>
  bm (vBin s.P .add 3 v5 v17) h18 fun v19 h20 =>
  some (v19,h20) :=
  bodyV_run rfl (go_seq (go_reg0
  (go_op0 rfl rfl (st_id (v := (V.lit (Value.int .i64 0))) (H := h) (by kernel_rfl)
  (go_end0 (by kernel_rfl)
  (go_seq (go_reg1 xo92_1r
  (go_op1 xo92_1 xo92_1a rfl rfl rfl (st_no (by kernel_rfl) (st_bm (by kernel_rfl) fun v1 h2 =>
  (go_op1 xo92_1 xo92_1a rfl rfl rfl (st_no (by kernel_rfl) (st_bm (by kernel_rfl) fun v3 h4 =>
  (go_op1 xo92_1 xo92_1a rfl rfl rfl (st_no (by kernel_rfl) (st_bm (by kernel_rfl) fun v5 h6 =>
  (go_op1 xo92_1 xo92_1a rfl rfl rfl (st_no (by kernel_rfl) (st_bm (by kernel_rfl) fun v7 h8 =>
  (go_op1 xo92_1 xo92_1a rfl rfl rfl (st_no (by kernel_rfl) (st_bm (by kernel_rfl) fun v9 h10 =>
  (go_op1 xo92_1 xo92_1a rfl rfl rfl (st_no (by kernel_rfl) (st_bm (by kernel_rfl) fun v11 h12 =>
  (go_op1 xo92_1 xo92_1a rfl rfl rfl (st_no (by kernel_rfl) (st_bm (by kernel_rfl) fun v13 h14 =>
  (go_op1 xo92_1 xo92_1a rfl rfl rfl (st_no (by kernel_rfl) (st_bm (by kernel_rfl) fun v15 h16 =>
  (go_op1 xo92_1 xo92_1a rfl rfl rfl (st_no (by kernel_rfl) (st_bm (by kernel_rfl) fun v17 h18 =>
  (go_op1 xo92_1 xo92_1a rfl rfl rfl (st_no (by kernel_rfl) (st_bm (by kernel_rfl) fun v19 h20 =>
  (go_op1 xo92_1 xo92_1a rfl rfl rfl (st_no (by kernel_rfl) (st_id (v := v19) (H := h20) (by kernel_rfl)
  (go_end1 xo92_1 (by kernel_rfl) xo92_1a
  (go_ret (by kernel_rfl)))))))))))))))))))))))))))))))))))))))))))
theorem xe92 (k wl : Nat) (h : Hp) : evF Try.prog xM (k + 1) wl 92 [t0,t1] h = bodyV (xX (xS k) 92 wl k false) Try.f92 [t0,t1] h := by kernel_rfl
-- names: xb92,
noncomputable def xg27_0 : Code := codeAt (bodyOf Try.f27) [1,1,0]
theorem xo27_6 : orderIx (opsOf xg27_0) = [0,1,2,3,4] := by kernel_rfl
theorem xo27_6a : (rgOf (opsOf xg27_0)).any = false := by kernel_rfl
theorem xo27_6r : regOk (opsOf xg27_0) = true := by kernel_rfl
theorem xb27 (s : Sys) (k wl : Nat) (h : Hp) : bodyV (xX s 27 wl k false) Try.f27 [t0,t1,t2] h =
  bp (opBox t0 h) fun v1 h2 =>
  bp (opBox t2 h2) fun v3 h4 =>
  bp (some (.own h4.length 0 0,h4 ++ [.rows 0 [] 0 true])) fun v5 h6 =>
  bp (opAlloc s.P 30 h6) fun v7 h8 =>
  bm (vFieldAddr s.P 30 v3 0) h8 fun v9 h10 =>
  bm (vLoad s.P 3 v9 h10) h10 fun v11 h12 =>
  bm (vBin s.P .eql 3 v11 (V.lit (Value.int .i64 3))) h12 fun v13 h14 =>
  cnd v13 (
  bm (vLoad s.P 23 v1 h14) h14 fun v15 h16 =>
  bm (vLoad s.P 30 v3 h16) h16 fun v17 h18 =>
  bp (callV (xX s 27 wl k false) false true (.fn (.func 46) [] []) [v15,t1,v17] h18) fun v19 h20 =>
  bm (vExtract v19 0) h20 fun v21 h22 =>
  bm (vExtract v19 1) h22 fun v23 h24 =>
  bs (vStore s.P wl 30 v7 v23 h24) fun h25 =>
  resO [some v21,vLoad s.P 30 v7 h25] h25) (
  bm (vBin s.P .eql 3 v11 (V.lit (Value.int .i64 4))) h14 fun v26 h27 =>
  cnd v26 (
  bm (vLoad s.P 23 v1 h27) h27 fun v28 h29 =>
  bm (vLoad s.P 30 v3 h29) h29 fun v30 h31 =>
  bp (callV (xX s 27 wl k false) false true (.fn (.func 47) [] []) [v28,t1,v30] h31) fun v32 h33 =>
  bm (vExtract v32 0) h33 fun v34 h35 =>
  bm (vExtract v32 1) h35 fun v36 h37 =>
  bs (vStore s.P wl 30 v7 v36 h37) fun h38 =>
  resO [some v34,vLoad s.P 30 v7 h38] h38) (
  bp (callV (xX s 27 wl k false) true true (.fn (.func 21) [] []) [t1] h27) fun v39 h40 =>
  stO h27.length v3 (
  bm (vLoad s.P 30 v3 h40) h40 fun v41 h42 =>
  bs (vStore s.P wl 30 v7 v41 h42) fun h43 =>
  resO [some v39,vLoad s.P 30 v7 h43] h43))) :=
  bodyV_run rfl (go_seq (go_reg0
  (go_op0 rfl rfl (st_bp (by kernel_rfl) fun v1 h2 =>
  (go_op0 rfl rfl (st_bp (by kernel_rfl) fun v3 h4 =>
  (go_op0 rfl rfl (st_bp (by kernel_rfl) fun v5 h6 =>
  (go_op0 rfl rfl (st_bp (by kernel_rfl) fun v7 h8 =>
  (go_end0 (by kernel_rfl)
  (go_seq (go_seq (go_reg0
  (go_op0 rfl rfl (st_bm (by kernel_rfl) fun v9 h10 =>
  (go_op0 rfl rfl (st_bm (by kernel_rfl) fun v11 h12 =>
  (go_end0 (by kernel_rfl)
  (go_block (go_seq (go_reg0
  (go_op0 rfl rfl (st_bm (by kernel_rfl) fun v13 h14 =>
  (go_op0 rfl rfl (st_id (v := v13) (H := h14) (by kernel_rfl)
  (go_end0 (by kernel_rfl)
  (go_cond (by kernel_rfl)
  (go_seq (go_reg0
  (go_op0 rfl rfl (st_bm (by kernel_rfl) fun v15 h16 =>
  (go_op0 rfl rfl (st_id (v := t1) (H := h16) (by kernel_rfl)
  (go_op0 rfl rfl (st_bm (by kernel_rfl) fun v17 h18 =>
  (go_op0 rfl rfl (st_bp (by kernel_rfl) fun v19 h20 =>
  (go_op0 rfl rfl (st_bm (by kernel_rfl) fun v21 h22 =>
  (go_op0 rfl rfl (st_bm (by kernel_rfl) fun v23 h24 =>
  (go_op0 rfl rfl (st_id (v := v21) (H := h24) (by kernel_rfl)
  (go_op0 rfl rfl (st_bs (by kernel_rfl) fun h25 =>
  (go_end0 (by kernel_rfl)
  (go_ret (rt_block_ret (rt_seq_ret (by kernel_rfl)))))))))))))))))))))))
  (go_seq (go_reg0
  (go_op0 rfl rfl (st_bm (by kernel_rfl) fun v26 h27 =>
  (go_op0 rfl rfl (st_id (v := v26) (H := h27) (by kernel_rfl)
  (go_end0 (by kernel_rfl)
  (go_cond (by kernel_rfl)
  (go_seq (go_reg0
  (go_op0 rfl rfl (st_bm (by kernel_rfl) fun v28 h29 =>
  (go_op0 rfl rfl (st_id (v := t1) (H := h29) (by kernel_rfl)
  (go_op0 rfl rfl (st_bm (by kernel_rfl) fun v30 h31 =>
  (go_op0 rfl rfl (st_bp (by kernel_rfl) fun v32 h33 =>
  (go_op0 rfl rfl (st_bm (by kernel_rfl) fun v34 h35 =>
  (go_op0 rfl rfl (st_bm (by kernel_rfl) fun v36 h37 =>
  (go_op0 rfl rfl (st_id (v := v34) (H := h37) (by kernel_rfl)
  (go_op0 rfl rfl (st_bs (by kernel_rfl) fun h38 =>
  (go_end0 (by kernel_rfl)
  (go_ret (rt_block_ret (rt_seq_ret (by kernel_rfl)))))))))))))))))))))))
  (go_skip (rt_block_norm (go_seq (go_reg1 xo27_6r
  (go_op1 xo27_6 xo27_6a rfl rfl rfl (st_no (by kernel_rfl) (st_id (v := t1) (H := h27) (by kernel_rfl)
  (go_op1 xo27_6 xo27_6a rfl rfl rfl (st_no (by kernel_rfl) (st_bp (by kernel_rfl) fun v39 h40 =>
  (go_op1 xo27_6 xo27_6a rfl rfl rfl (st_yes (by kernel_rfl) (st_bm (by kernel_rfl) fun v41 h42 =>
  (go_op1 xo27_6 xo27_6a rfl rfl rfl (st_no (by kernel_rfl) (st_id (v := v39) (H := h42) (by kernel_rfl)
  (go_op1 xo27_6 xo27_6a rfl rfl rfl (st_no (by kernel_rfl) (st_bs (by kernel_rfl) fun h43 =>
  (go_end1 xo27_6 (by kernel_rfl) xo27_6a
  (go_ret (by kernel_rfl))))))))))))))))))))))))))))))))))))))))))))))))))))))))))
theorem xe27 (k wl : Nat) (h : Hp) : evF Try.prog xM (k + 1) wl 27 [t0,t1,t2] h = bodyV (xX (xS k) 27 wl k false) Try.f27 [t0,t1,t2] h := by kernel_rfl
-- names: xb27,
end Go.Ab
