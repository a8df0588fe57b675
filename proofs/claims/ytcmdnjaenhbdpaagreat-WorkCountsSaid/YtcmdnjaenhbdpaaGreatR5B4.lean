/- The program's code,point by point: printed by gen.py. -/
import Derived.Test.YtcmdnjaenhbdpaaGreatR5Seat
import Derived.Test.YtcmdnjaenhbdpaaGreatAbLibC
set_option linter.unusedVariables false
set_option linter.unusedSimpArgs false
set_option maxRecDepth 100000
set_option linter.unusedVariables false
namespace Go.Ab
open Go.Proofs
variable (s : Sys) (k wl : Nat) (m0 : Nat) (ac : List Nat × List Nat) (t0 t1 t2 t3 t4 t5 t6 t7 t8 t9 ta tb tc td te tf tg th ti tj tk tl tm tn tp tq tr ts tt tu tv tw tx ty tz tA tB tC tD tE tF tG tH tI tJ tK tL tM tN tO tP tQ tR tS tT tU tV tW tX tY tZ q0 q1 q2 q3 q4 q5 q6 q7 q8 q9 qa qb qc qd qe qf qg qh qi qj qk ql qm qn qo qp qq qr qs qt qu qv qw : V)
noncomputable def xg71_0 : Code := codeAt (bodyOf Tryz.f71) [1,1,0]
theorem xo71_6 : orderIx (opsOf xg71_0) = [0,1,2,3,4] := by kernel_rfl
theorem xo71_6a : (rgOf (opsOf xg71_0)).any = false := by kernel_rfl
theorem xo71_6r : regOk (opsOf xg71_0) = true := by kernel_rfl
theorem xb71 (h : Hp) : bodyV (xX s 71 wl k false) Tryz.f71 [t0,t1,t2] h =
  bp (opBox t0 h) fun v1 h2 =>
  bp (opBox t2 h2) fun v3 h4 =>
  bp (some (.own h4.length 0 0,h4 ++ [.rows 0 [] 0 true])) fun v5 h6 =>
  bp (opAlloc s.P 30 h6) fun v7 h8 =>
  bm (vFieldAddr s.P 30 v3 0) h8 fun v9 h10 =>
  bm (vLoad s.P 3 v9 h10) h10 fun v11 h12 =>
  bm (vBin s.P .eql 3 v11 (V.lit (Value.int .i64 3))) h12 fun v13 h14 =>
  cnd v13 (
  bm (vLoad s.P 23 v1 h14) h14 fun v15 h16 =>
  bm (vLoad s.P 30 v3 h16) h16 fun v17 h18 =>
  bp (callV (xX s 71 wl k false) false true (.fn (.func 87) [] []) [v15,t1,v17] h18) fun v19 h20 =>
  bm (vExtract v19 0) h20 fun v21 h22 =>
  bm (vExtract v19 1) h22 fun v23 h24 =>
  bs (vStore s.P wl 30 v7 v23 h24) fun h25 =>
  resO [some v21,vLoad s.P 30 v7 h25] h25) (
  bm (vBin s.P .eql 3 v11 (V.lit (Value.int .i64 4))) h14 fun v26 h27 =>
  cnd v26 (
  bm (vLoad s.P 23 v1 h27) h27 fun v28 h29 =>
  bm (vLoad s.P 30 v3 h29) h29 fun v30 h31 =>
  bp (callV (xX s 71 wl k false) false true (.fn (.func 88) [] []) [v28,t1,v30] h31) fun v32 h33 =>
  bm (vExtract v32 0) h33 fun v34 h35 =>
  bm (vExtract v32 1) h35 fun v36 h37 =>
  bs (vStore s.P wl 30 v7 v36 h37) fun h38 =>
  resO [some v34,vLoad s.P 30 v7 h38] h38) (
  bp (callV (xX s 71 wl k false) true true (.fn (.func 20) [] []) [t1] h27) fun v39 h40 =>
  stO h27.length v3 (
  bm (vLoad s.P 30 v3 h40) h40 fun v41 h42 =>
  bs (vStore s.P wl 30 v7 v41 h42) fun h43 =>
  resO [some v39,vLoad s.P 30 v7 h43] h43))) :=
  bodyV_run rfl (go_seq (go_reg0
  (pP fun v1 h2 =>
  (pP fun v3 h4 =>
  (pP fun v5 h6 =>
  (pP fun v7 h8 =>
  (eN
  (go_seq (go_seq (go_reg0
  (pM fun v9 h10 =>
  (pM fun v11 h12 =>
  (eN
  (go_block (go_seq (go_reg0
  (pM fun v13 h14 =>
  (pI v13 h14
  (eN
  (go_cond (by kernel_rfl)
  (go_seq (go_reg0
  (pM fun v15 h16 =>
  (pI t1 h16
  (pM fun v17 h18 =>
  (pP fun v19 h20 =>
  (pM fun v21 h22 =>
  (pM fun v23 h24 =>
  (pI v21 h24
  (pS fun h25 =>
  (eN
  (go_ret (rt_block_ret (rt_seq_ret (by kernel_rfl)))))))))))))))
  (go_seq (go_reg0
  (pM fun v26 h27 =>
  (pI v26 h27
  (eN
  (go_cond (by kernel_rfl)
  (go_seq (go_reg0
  (pM fun v28 h29 =>
  (pI t1 h29
  (pM fun v30 h31 =>
  (pP fun v32 h33 =>
  (pM fun v34 h35 =>
  (pM fun v36 h37 =>
  (pI v34 h37
  (pS fun h38 =>
  (eN
  (go_ret (rt_block_ret (rt_seq_ret (by kernel_rfl)))))))))))))))
  (go_skip (rt_block_norm (go_seq (go_reg1 xo71_6r
  (qI xo71_6 xo71_6a t1 h27
  (qP xo71_6 xo71_6a fun v39 h40 =>
  (go_op1 xo71_6 xo71_6a rfl rfl rfl (st_yes (by kernel_rfl) (st_bm (by kernel_rfl) fun v41 h42 =>
  (qI xo71_6 xo71_6a v39 h42
  (qS xo71_6 xo71_6a fun h43 =>
  (go_end1 xo71_6 (by kernel_rfl) xo71_6a
  (go_ret (by kernel_rfl))))))))))))))))))))))))))))))))))))))))
theorem xe71 (k wl : Nat) (h : Hp) : evF Tryz.prog xM (k + 1) wl 71 [t0,t1,t2] h = bodyV (xX (xS k) 71 wl k false) Tryz.f71 [t0,t1,t2] h := by kernel_rfl
-- names: xb71,
noncomputable def xg87_0 : Code := codeAt (bodyOf Tryz.f87) [1,0]
noncomputable def xg87_1 : Code := codeAt (bodyOf Tryz.f87) [1,1,0,1,0,0]
noncomputable def xg87_2 : Code := codeAt (bodyOf Tryz.f87) [1,1,1,1,1,1,0]
theorem xo87_1 : orderIx (opsOf xg87_0) = [0,1,2,3,4,5,6] := by kernel_rfl
theorem xo87_1a : (rgOf (opsOf xg87_0)).any = false := by kernel_rfl
theorem xo87_1r : regOk (opsOf xg87_0) = true := by kernel_rfl
theorem xo87_3 : orderIx (opsOf xg87_1) = [0,1,2,3,4,5,6] := by kernel_rfl
theorem xo87_3a : (rgOf (opsOf xg87_1)).any = false := by kernel_rfl
theorem xo87_3r : regOk (opsOf xg87_1) = true := by kernel_rfl
theorem xo87_7 : orderIx (opsOf xg87_2) = [0,1,2,3,4,5,6,7,8,9] := by kernel_rfl
theorem xo87_7a : (rgOf (opsOf xg87_2)).any = false := by kernel_rfl
theorem xo87_7r : regOk (opsOf xg87_2) = true := by kernel_rfl
theorem xb87 (h : Hp) : bodyV (xX s 87 wl k false) Tryz.f87 [t0,t1,t2] h =
  bp (opBox t0 h) fun v1 h2 =>
  bp (opBox t2 h2) fun v3 h4 =>
  bp (some (.own h4.length 0 0,h4 ++ [.rows 0 [] 0 true])) fun v5 h6 =>
  bp (opAlloc s.P 30 h6) fun v7 h8 =>
  stO h8.length v3 (
  bm (vLoad s.P 30 v3 h8) h8 fun v9 h10 =>
  stO h8.length v1 (
  bm (vLoad s.P 23 v1 h10) h10 fun v11 h12 =>
  bp (callV (xX s 87 wl k false) true true (.fn (.func 20) [] []) [t1] h12) fun v13 h14 =>
  bm (vBuild s.P 133 [(0,v9),(1,v11),(2,v13)]) h14 fun v15 h16 =>
  bp (opBox v15 h16) fun v17 h18 =>
  bm (vLoad s.P 23 v1 h18) h18 fun v19 h20 =>
  bm (vLoad s.P 30 v3 h20) h20 fun v21 h22 =>
  bp (callV (xX s 87 wl k false) false true (.fn (.func 118) [] []) [v19,t1,v21,(V.lit (Value.int .i64 3))] h22) fun v23 h24 =>
  bm (vUn .not v23) h24 fun v25 h26 =>
  cnd v25 (
  bm (vNil v17 h26) h26 fun v27 h28 =>
  bm (vFieldAddr s.P 133 v27 2) h28 fun v29 h30 =>
  bm (vLoad s.P 26 v29 h30) h30 fun v31 h32 =>
  bm (vLoad s.P 30 v3 h32) h32 fun v33 h34 =>
  bs (vStore s.P wl 30 v7 v33 h34) fun h35 =>
  resO [some v31,vLoad s.P 30 v7 h35] h35) (
  bp (vBuildSlice s.P wl 135 5 [(0,(.fn (.func 119) [v17] [])),(1,(.fn (.func 120) [v17] [])),(2,(.fn (.func 121) [v17] [])),(3,(.fn (.func 122) [v17] [])),(4,(.fn (.func 123) [v17] []))] h26) fun v36 h37 =>
  bp (opAlloc s.P 135 h37) fun v38 h39 =>
  bs (vStore s.P wl 135 v38 v36 h39) fun h40 =>
  bp (callV (xX s 87 wl k false) false true (.fn (.func 124) [] [v38,v3]) [] h40) fun v41 h42 =>
  bm (vNil v17 h42) h42 fun v43 h44 =>
  bm (vFieldAddr s.P 133 v43 0) h44 fun v45 h46 =>
  bm (vFieldAddr s.P 30 v45 1) h46 fun v47 h48 =>
  bs (vStore s.P wl 3 v47 v41 h48) fun h49 =>
  bm (vNil v17 h49) h49 fun v50 h51 =>
  bm (vFieldAddr s.P 133 v50 2) h51 fun v52 h53 =>
  bm (vLoad s.P 26 v52 h53) h53 fun v54 h55 =>
  bm (vNil v17 h55) h55 fun v56 h57 =>
  bm (vFieldAddr s.P 133 v56 0) h57 fun v58 h59 =>
  bm (vLoad s.P 30 v58 h59) h59 fun v60 h61 =>
  bs (vStore s.P wl 30 v7 v60 h61) fun h62 =>
  resO [some v54,vLoad s.P 30 v7 h62] h62))) :=
  bodyV_run rfl (go_seq (go_reg0
  (pP fun v1 h2 =>
  (pP fun v3 h4 =>
  (pP fun v5 h6 =>
  (pP fun v7 h8 =>
  (eN
  (go_seq (go_reg1 xo87_1r
  (go_op1 xo87_1 xo87_1a rfl rfl rfl (st_yes (by kernel_rfl) (st_bm (by kernel_rfl) fun v9 h10 =>
  (go_op1 xo87_1 xo87_1a rfl rfl rfl (st_yes (by kernel_rfl) (st_bm (by kernel_rfl) fun v11 h12 =>
  (qI xo87_1 xo87_1a t1 h12
  (qP xo87_1 xo87_1a fun v13 h14 =>
  (qM xo87_1 xo87_1a fun v15 h16 =>
  (qP xo87_1 xo87_1a fun v17 h18 =>
  (qI xo87_1 xo87_1a v17 h18
  (go_end1 xo87_1 (by kernel_rfl) xo87_1a
  (go_seq (go_seq (go_reg0
  (pM fun v19 h20 =>
  (pI t1 h20
  (pM fun v21 h22 =>
  (pP fun v23 h24 =>
  (pM fun v25 h26 =>
  (eN
  (go_cond (by kernel_rfl)
  (go_seq (go_reg1 xo87_3r
  (qI xo87_3 xo87_3a v17 h26
  (qM xo87_3 xo87_3a fun v27 h28 =>
  (qM xo87_3 xo87_3a fun v29 h30 =>
  (qM xo87_3 xo87_3a fun v31 h32 =>
  (qM xo87_3 xo87_3a fun v33 h34 =>
  (qI xo87_3 xo87_3a v31 h34
  (qS xo87_3 xo87_3a fun h35 =>
  (go_end1 xo87_3 (by kernel_rfl) xo87_3a
  (go_ret (rt_seq_ret (by kernel_rfl)))))))))))))
  (go_skip (go_seq (go_reg0
  (pI v17 h26
  (go_op0 rfl rfl (st_id (v := (.fn (.func 119) [v17] [])) (H := h26) (by kernel_rfl)
  (pI v17 h26
  (go_op0 rfl rfl (st_id (v := (.fn (.func 120) [v17] [])) (H := h26) (by kernel_rfl)
  (pI v17 h26
  (go_op0 rfl rfl (st_id (v := (.fn (.func 121) [v17] [])) (H := h26) (by kernel_rfl)
  (pI v17 h26
  (go_op0 rfl rfl (st_id (v := (.fn (.func 122) [v17] [])) (H := h26) (by kernel_rfl)
  (pI v17 h26
  (go_op0 rfl rfl (st_id (v := (.fn (.func 123) [v17] [])) (H := h26) (by kernel_rfl)
  (pP fun v36 h37 =>
  (pP fun v38 h39 =>
  (pS fun h40 =>
  (eN
  (go_seq (go_reg0
  (go_op0 rfl rfl (st_id (v := (.fn (.func 124) [] [v38,v3])) (H := h40) (by kernel_rfl)
  (go_op0 rfl rfl (st_id (v := (.fn (.func 124) [] [v38,v3])) (H := h40) (by kernel_rfl)
  (eN
  (go_seq (go_reg0
  (pI v17 h40
  (go_op0 rfl rfl (st_id (v := (.fn (.func 124) [] [v38,v3])) (H := h40) (by kernel_rfl)
  (pP fun v41 h42 =>
  (pM fun v43 h44 =>
  (pM fun v45 h46 =>
  (pM fun v47 h48 =>
  (pS fun h49 =>
  (eN
  (go_seq (go_reg1 xo87_7r
  (qI xo87_7 xo87_7a v17 h49
  (qM xo87_7 xo87_7a fun v50 h51 =>
  (qM xo87_7 xo87_7a fun v52 h53 =>
  (qM xo87_7 xo87_7a fun v54 h55 =>
  (qI xo87_7 xo87_7a v17 h55
  (qM xo87_7 xo87_7a fun v56 h57 =>
  (qM xo87_7 xo87_7a fun v58 h59 =>
  (qM xo87_7 xo87_7a fun v60 h61 =>
  (qI xo87_7 xo87_7a v54 h61
  (qS xo87_7 xo87_7a fun h62 =>
  (go_end1 xo87_7 (by kernel_rfl) xo87_7a
  (go_ret (by kernel_rfl))))))))))))))))))))))))))))))))))))))))))))))))))))))))))))))))))))))))))))))))))))))
theorem xe87 (k wl : Nat) (h : Hp) : evF Tryz.prog xM (k + 1) wl 87 [t0,t1,t2] h = bodyV (xX (xS k) 87 wl k false) Tryz.f87 [t0,t1,t2] h := by kernel_rfl
-- names: xb87,
noncomputable def xg88_0 : Code := codeAt (bodyOf Tryz.f88) [1,1,0,1,0,0]
noncomputable def xk88_0 : List Fr := [.block 0,.seq (codeAt (bodyOf Tryz.f88) [1,1,1,1])]
noncomputable def xg88_1 : Code := codeAt (bodyOf Tryz.f88) [1,1,1,0,1,0,1,1,1,0,1,0]
noncomputable def xg88_2 : Code := codeAt (bodyOf Tryz.f88) [1,1,1,0,1,0,1,1,1,1,1,1,1,1,0]
noncomputable def xg88_3 : Code := codeAt (bodyOf Tryz.f88) [1,1,1,1,0]
theorem xo88_3 : orderIx (opsOf xg88_0) = [0,1,2,3] := by kernel_rfl
theorem xo88_3a : (rgOf (opsOf xg88_0)).any = false := by kernel_rfl
theorem xo88_3r : regOk (opsOf xg88_0) = true := by kernel_rfl
theorem xo88_11 : orderIx (opsOf xg88_1) = [0,1,2,3,4,5,6,7] := by kernel_rfl
theorem xo88_11a : (rgOf (opsOf xg88_1)).any = false := by kernel_rfl
theorem xo88_11r : regOk (opsOf xg88_1) = true := by kernel_rfl
theorem xo88_5 : orderIx (opsOf xg88_2) = [0,1,2,3,4,5,6,7,8,9,10,11] := by kernel_rfl
theorem xo88_5a : (rgOf (opsOf xg88_2)).any = false := by kernel_rfl
theorem xo88_5r : regOk (opsOf xg88_2) = true := by kernel_rfl
theorem xo88_24 : orderIx (opsOf xg88_3) = [0,1,2,3] := by kernel_rfl
theorem xo88_24a : (rgOf (opsOf xg88_3)).any = false := by kernel_rfl
theorem xo88_24r : regOk (opsOf xg88_3) = true := by kernel_rfl
theorem xb88 (h : Hp) : bodyV (xX s 88 wl k false) Tryz.f88 [t0,t1,t2] h =
  bp (opBox t0 h) fun v1 h2 =>
  bp (opBox t2 h2) fun v3 h4 =>
  bp (some (.own h4.length 0 0,h4 ++ [.rows 0 [] 0 true])) fun v5 h6 =>
  bp (opAlloc s.P 30 h6) fun v7 h8 =>
  bp (callV (xX s 88 wl k false) false true (.fn (.func 20) [] []) [t1] h8) fun v9 h10 =>
  bm (vLoad s.P 23 v1 h10) h10 fun v11 h12 =>
  bm (vLoad s.P 30 v3 h12) h12 fun v13 h14 =>
  bp (callV (xX s 88 wl k false) false true (.fn (.func 118) [] []) [v11,t1,v13,(V.lit (Value.int .i64 4))] h14) fun v15 h16 =>
  bm (vUn .not v15) h16 fun v17 h18 =>
  cnd v17 (
  bm (vLoad s.P 30 v3 h18) h18 fun v19 h20 =>
  bs (vStore s.P wl 30 v7 v19 h20) fun h21 =>
  resO [some v9,vLoad s.P 30 v7 h21] h21) (
  bm (vFieldAddr s.P 30 v3 1) h18 fun v22 h23 =>
  bm (vLoad s.P 3 v22 h23) h23 fun v24 h25 =>
  bm (vBin s.P .eql 3 v24 (V.lit (Value.int .i64 0))) h25 fun v26 h27 =>
  cnd v26 (
  bp (callV (xX s 88 wl k false) false true (.fn (.func 13) [] []) [v9,(V.lit (Value.int .i64 4))] h27) fun v28 h29 =>
  bm (vFieldAddr s.P 30 v3 4) h29 fun v30 h31 =>
  bs (vStore s.P wl 28 v30 v28 h31) fun h32 =>
  bm (vFieldAddr s.P 30 v3 1) h32 fun v33 h34 =>
  bs (vStore s.P wl 3 v33 (V.lit (Value.int .i64 1)) h34) fun h35 =>
  runK (xX s 88 wl k false) (bodyK s.P Tryz.f88) xk88_0 .norm ⟨(t0::t1::t2::v1::uu::v3::v5::v7::v9::uu::uu::t1::v9::v11::t1::v13::v15::v17::uu::uu::v22::v24::uu::uu::uu::uu::uu::uu::uu::uu::uu::uu::uu::uu::uu::uu::uu::v26::v26::v9::v28::v30::v33::uu::uu::uu::uu::uu::uu::uu::uu::uu::uu::uu::uu::uu::uu::uu::uu::uu::uu::uu::uu::uu::uu::uu::uu::uu::uu::uu::uu::uu::uu::uu::uu::uu::uu::uu::uu::uu::uu::uu::uu::uu::uu::uu::uu::uu::uu::uu::uu::uu::uu::uu::[]),h35⟩) (
  bm (vBin s.P .eql 3 v24 (V.lit (Value.int .i64 1))) h27 fun v36 h37 =>
  cnd v36 (
  bm (vLoad s.P 23 v1 h37) h37 fun v38 h39 =>
  bm (vFieldAddr s.P 30 v3 4) h39 fun v40 h41 =>
  bm (vLoad s.P 28 v40 h41) h41 fun v42 h43 =>
  bp (callV (xX s 88 wl k false) false true (.fn (.func 125) [] []) [v38,v42] h43) fun v44 h45 =>
  bp (callV (xX s 88 wl k false) false true (.fn (.func 13) [] []) [v9,v44] h45) fun v46 h47 =>
  bm (vFieldAddr s.P 30 v3 5) h47 fun v48 h49 =>
  bs (vStore s.P wl 28 v48 v46 h49) fun h50 =>
  bm (vFieldAddr s.P 30 v3 1) h50 fun v51 h52 =>
  bs (vStore s.P wl 3 v51 (V.lit (Value.int .i64 0)) h52) fun h53 =>
  bm (vFieldAddr s.P 30 v3 5) h53 fun v54 h55 =>
  stO h53.length v54 (
  bm (vLoad s.P 28 v54 h55) h55 fun v56 h57 =>
  bm (vLoad s.P 23 v1 h57) h57 fun v58 h59 =>
  bm (vFieldAddr s.P 30 v3 4) h59 fun v60 h61 =>
  bm (vLoad s.P 28 v60 h61) h61 fun v62 h63 =>
  bp (callV (xX s 88 wl k false) true true (.fn (.func 126) [] []) [v58,v62] h63) fun v64 h65 =>
  bp (callV (xX s 88 wl k false) false true (.fn (.func 53) [] []) [v56,v64] h65) fun v66 h67 =>
  bm (vBin s.P .eql 3 v66 (V.lit (Value.int .i64 0))) h67 fun v68 h69 =>
  cnd v68 (
  bm (vFieldAddr s.P 30 v3 1) h69 fun v70 h71 =>
  bs (vStore s.P wl 3 v70 (V.lit (Value.int .i64 2)) h71) fun h72 =>
  runK (xX s 88 wl k false) (bodyK s.P Tryz.f88) xk88_0 .norm ⟨(t0::t1::t2::v1::uu::v3::v5::v7::v9::v66::uu::t1::v9::v11::t1::v13::v15::v17::uu::uu::v22::v24::uu::uu::uu::uu::uu::uu::uu::uu::uu::uu::uu::uu::uu::uu::uu::v26::v26::uu::uu::uu::uu::v36::v36::v9::v38::v40::v42::v44::v46::v48::v51::v54::v56::v58::v60::v62::v64::v66::v66::v68::v70::uu::uu::uu::uu::uu::uu::uu::uu::uu::uu::uu::uu::uu::uu::uu::uu::uu::uu::uu::uu::uu::uu::uu::uu::uu::uu::uu::uu::uu::uu::uu::[]),h72⟩) (
  bm (vBin s.P .lss 3 v66 (V.lit (Value.int .i64 0))) h69 fun v73 h74 =>
  cnd v73 (
  bm (vLoad s.P 30 v3 h74) h74 fun v75 h76 =>
  bp (callV (xX s 88 wl k false) false true (.fn (.func 104) [] []) [v75,(V.lit (Value.int .i64 3)),(V.lit (Value.int .u64 0))] h76) fun v77 h78 =>
  bs (vStore s.P wl 30 v3 v77 h78) fun h79 =>
  runK (xX s 88 wl k false) (bodyK s.P Tryz.f88) xk88_0 .norm ⟨(t0::t1::t2::v1::uu::v3::v5::v7::v9::v66::uu::t1::v9::v11::t1::v13::v15::v17::uu::uu::v22::v24::uu::uu::uu::uu::uu::uu::uu::uu::uu::uu::uu::uu::uu::uu::uu::v26::v26::uu::uu::uu::uu::v36::v36::v9::v38::v40::v42::v44::v46::v48::v51::v54::v56::v58::v60::v62::v64::v66::v66::v68::uu::v66::v73::v75::v77::uu::uu::uu::uu::uu::uu::uu::uu::uu::uu::uu::uu::uu::uu::uu::uu::uu::uu::uu::uu::uu::uu::uu::uu::uu::uu::uu::[]),h79⟩) (
  runK (xX s 88 wl k false) (bodyK s.P Tryz.f88) xk88_0 .norm ⟨(t0::t1::t2::v1::uu::v3::v5::v7::v9::v66::uu::t1::v9::v11::t1::v13::v15::v17::uu::uu::v22::v24::uu::uu::uu::uu::uu::uu::uu::uu::uu::uu::uu::uu::uu::uu::uu::v26::v26::uu::uu::uu::uu::v36::v36::v9::v38::v40::v42::v44::v46::v48::v51::v54::v56::v58::v60::v62::v64::v66::v66::v68::uu::v66::v73::uu::uu::uu::uu::uu::uu::uu::uu::uu::uu::uu::uu::uu::uu::uu::uu::uu::uu::uu::uu::uu::uu::uu::uu::uu::uu::uu::uu::uu::[]),h74⟩)))) (
  bm (vBin s.P .eql 3 v24 (V.lit (Value.int .i64 2))) h37 fun v80 h81 =>
  cnd v80 (
  bm (vFieldAddr s.P 30 v3 1) h81 fun v82 h83 =>
  bs (vStore s.P wl 3 v82 (V.lit (Value.int .i64 0)) h83) fun h84 =>
  bm (vFieldAddr s.P 30 v3 4) h84 fun v85 h86 =>
  bm (vLoad s.P 28 v85 h86) h86 fun v87 h88 =>
  bm (vFieldAddr s.P 30 v3 4) h88 fun v89 h90 =>
  bm (vLoad s.P 28 v89 h90) h90 fun v91 h92 =>
  bm (vBin s.P .add 28 v91 (V.lit (Value.int .u64 1))) h92 fun v93 h94 =>
  bp (callV (xX s 88 wl k false) false true (.fn (.func 102) [] []) [v9,(V.lit (Value.int .i64 4)),v87,v93] h94) fun v95 h96 =>
  bm (vExtract v95 0) h96 fun v97 h98 =>
  bm (vExtract v95 1) h98 fun v99 h100 =>
  cnd v99 (
  bm (vFieldAddr s.P 30 v3 1) h100 fun v101 h102 =>
  bs (vStore s.P wl 3 v101 (V.lit (Value.int .i64 3)) h102) fun h103 =>
  runK (xX s 88 wl k false) (bodyK s.P Tryz.f88) xk88_0 .norm ⟨(t0::t1::t2::v1::uu::v3::v5::v7::v97::uu::v99::t1::v9::v11::t1::v13::v15::v17::uu::uu::v22::v24::uu::uu::uu::uu::uu::uu::uu::uu::uu::uu::uu::uu::uu::uu::uu::v26::v26::uu::uu::uu::uu::v36::v36::uu::uu::uu::uu::uu::uu::uu::uu::uu::uu::uu::uu::uu::uu::uu::uu::uu::uu::uu::uu::uu::uu::v80::v80::v82::v95::v9::v85::v87::v89::v91::v93::v95::v97::v99::v99::v101::uu::uu::uu::uu::uu::uu::uu::uu::uu::uu::uu::uu::[]),h103⟩) (
  runK (xX s 88 wl k false) (bodyK s.P Tryz.f88) xk88_0 .norm ⟨(t0::t1::t2::v1::uu::v3::v5::v7::v97::uu::v99::t1::v9::v11::t1::v13::v15::v17::uu::uu::v22::v24::uu::uu::uu::uu::uu::uu::uu::uu::uu::uu::uu::uu::uu::uu::uu::v26::v26::uu::uu::uu::uu::v36::v36::uu::uu::uu::uu::uu::uu::uu::uu::uu::uu::uu::uu::uu::uu::uu::uu::uu::uu::uu::uu::uu::uu::v80::v80::v82::v95::v9::v85::v87::v89::v91::v93::v95::v97::v99::v99::uu::uu::uu::uu::uu::uu::uu::uu::uu::uu::uu::uu::uu::[]),h100⟩)) (
  bm (vBin s.P .eql 3 v24 (V.lit (Value.int .i64 3))) h81 fun v104 h105 =>
  cnd v104 (
  bm (vLoad s.P 23 v1 h105) h105 fun v106 h107 =>
  bm (vFieldAddr s.P 30 v3 4) h107 fun v108 h109 =>
  bm (vLoad s.P 28 v108 h109) h109 fun v110 h111 =>
  bp (callV (xX s 88 wl k false) false true (.fn (.func 127) [] []) [v106,v110] h111) fun v112 h113 =>
  bp (callV (xX s 88 wl k false) false true (.fn (.func 13) [] []) [v9,v112] h113) fun v114 h115 =>
  bm (vFieldAddr s.P 30 v3 3) h115 fun v116 h117 =>
  bs (vStore s.P wl 28 v116 v114 h117) fun h118 =>
  bm (vFieldAddr s.P 30 v3 1) h118 fun v119 h120 =>
  bs (vStore s.P wl 3 v119 (V.lit (Value.int .i64 4)) h120) fun h121 =>
  runK (xX s 88 wl k false) (bodyK s.P Tryz.f88) xk88_0 .norm ⟨(t0::t1::t2::v1::uu::v3::v5::v7::v9::uu::uu::t1::v9::v11::t1::v13::v15::v17::uu::uu::v22::v24::uu::uu::uu::uu::uu::uu::uu::uu::uu::uu::uu::uu::uu::uu::uu::v26::v26::uu::uu::uu::uu::v36::v36::uu::uu::uu::uu::uu::uu::uu::uu::uu::uu::uu::uu::uu::uu::uu::uu::uu::uu::uu::uu::uu::uu::v80::v80::uu::uu::uu::uu::uu::uu::uu::uu::uu::uu::uu::uu::uu::v104::v104::v9::v106::v108::v110::v112::v114::v116::v119::uu::uu::[]),h121⟩) (
  bm (vLoad s.P 23 v1 h105) h105 fun v122 h123 =>
  bm (vFieldAddr s.P 30 v3 4) h123 fun v124 h125 =>
  bm (vLoad s.P 28 v124 h125) h125 fun v126 h127 =>
  bp (callV (xX s 88 wl k false) true true (.fn (.func 125) [] []) [v122,v126] h127) fun v128 h129 =>
  stO h105.length v1 (
  bm (vLoad s.P 23 v1 h129) h129 fun v130 h131 =>
  bm (vFieldAddr s.P 30 v3 4) h131 fun v132 h133 =>
  stO h105.length v132 (
  bm (vLoad s.P 28 v132 h133) h133 fun v134 h135 =>
  bp (callV (xX s 88 wl k false) false true (.fn (.func 126) [] []) [v130,v134] h135) fun v136 h137 =>
  bm (vBin s.P .add 28 v136 (V.lit (Value.int .u64 1))) h137 fun v138 h139 =>
  bp (callV (xX s 88 wl k false) false true (.fn (.func 112) [] []) [v9,v128,v138] h139) fun v140 h141 =>
  bm (vLoad s.P 30 v3 h141) h141 fun v142 h143 =>
  bm (vFieldAddr s.P 30 v3 3) h143 fun v144 h145 =>
  bm (vLoad s.P 28 v144 h145) h145 fun v146 h147 =>
  bp (callV (xX s 88 wl k false) false true (.fn (.func 104) [] []) [v142,(V.lit (Value.int .i64 1)),v146] h147) fun v148 h149 =>
  bs (vStore s.P wl 30 v3 v148 h149) fun h150 =>
  runK (xX s 88 wl k false) (bodyK s.P Tryz.f88) xk88_0 .norm ⟨(t0::t1::t2::v1::uu::v3::v5::v7::v140::uu::uu::t1::v9::v11::t1::v13::v15::v17::uu::uu::v22::v24::v9::v122::v124::v126::v128::v130::v132::v134::v136::v138::v140::v142::v144::v146::v148::v26::v26::uu::uu::uu::uu::v36::v36::uu::uu::uu::uu::uu::uu::uu::uu::uu::uu::uu::uu::uu::uu::uu::uu::uu::uu::uu::uu::uu::uu::v80::v80::uu::uu::uu::uu::uu::uu::uu::uu::uu::uu::uu::uu::uu::v104::v104::uu::uu::uu::uu::uu::uu::uu::uu::uu::uu::[]),h150⟩))))))) :=
  bodyV_run rfl (go_seq (go_reg0
  (pP fun v1 h2 =>
  (pP fun v3 h4 =>
  (pP fun v5 h6 =>
  (pP fun v7 h8 =>
  (eN
  (go_seq (go_reg0
  (pI t1 h8
  (pP fun v9 h10 =>
  (pI v9 h10
  (eN
  (go_seq (go_seq (go_reg0
  (pM fun v11 h12 =>
  (pI t1 h12
  (pM fun v13 h14 =>
  (pP fun v15 h16 =>
  (pM fun v17 h18 =>
  (eN
  (go_cond (by kernel_rfl)
  (go_seq (go_reg1 xo88_3r
  (qI xo88_3 xo88_3a v9 h18
  (qM xo88_3 xo88_3a fun v19 h20 =>
  (qI xo88_3 xo88_3a v9 h20
  (qS xo88_3 xo88_3a fun h21 =>
  (go_end1 xo88_3 (by kernel_rfl) xo88_3a
  (go_ret (rt_seq_ret (by kernel_rfl))))))))))
  (go_skip (go_seq (go_seq (go_reg0
  (pM fun v22 h23 =>
  (pM fun v24 h25 =>
  (eN
  (go_block (go_seq (go_reg0
  (pM fun v26 h27 =>
  (pI v26 h27
  (eN
  (go_cond (by kernel_rfl)
  (go_reg0
  (pI v9 h27
  (pP fun v28 h29 =>
  (pM fun v30 h31 =>
  (pS fun h32 =>
  (pM fun v33 h34 =>
  (pS fun h35 =>
  (eN
  (by kernel_rfl)))))))))
  (go_seq (go_reg0
  (pM fun v36 h37 =>
  (pI v36 h37
  (eN
  (go_cond (by kernel_rfl)
  (go_seq (go_reg0
  (pI v9 h37
  (pM fun v38 h39 =>
  (pM fun v40 h41 =>
  (pM fun v42 h43 =>
  (pP fun v44 h45 =>
  (pP fun v46 h47 =>
  (pM fun v48 h49 =>
  (pS fun h50 =>
  (pM fun v51 h52 =>
  (pS fun h53 =>
  (eN
  (go_seq (go_reg1 xo88_11r
  (qM xo88_11 xo88_11a fun v54 h55 =>
  (go_op1 xo88_11 xo88_11a rfl rfl rfl (st_yes (by kernel_rfl) (st_bm (by kernel_rfl) fun v56 h57 =>
  (qM xo88_11 xo88_11a fun v58 h59 =>
  (qM xo88_11 xo88_11a fun v60 h61 =>
  (qM xo88_11 xo88_11a fun v62 h63 =>
  (qP xo88_11 xo88_11a fun v64 h65 =>
  (qP xo88_11 xo88_11a fun v66 h67 =>
  (qI xo88_11 xo88_11a v66 h67
  (go_end1 xo88_11 (by kernel_rfl) xo88_11a
  (go_seq (go_reg0
  (pI v66 h67
  (pM fun v68 h69 =>
  (eN
  (go_cond (by kernel_rfl)
  (go_reg0
  (pM fun v70 h71 =>
  (pS fun h72 =>
  (eN
  (by kernel_rfl)))))
  (go_seq (go_reg0
  (pI v66 h69
  (pM fun v73 h74 =>
  (eN
  (go_cond (by kernel_rfl)
  (go_reg0
  (pM fun v75 h76 =>
  (pP fun v77 h78 =>
  (pS fun h79 =>
  (eN
  (by kernel_rfl))))))
  (go_skip (by kernel_rfl))))))))))))))))))))))))))))))))))))))))
  (go_seq (go_reg0
  (pM fun v80 h81 =>
  (pI v80 h81
  (eN
  (go_cond (by kernel_rfl)
  (go_seq (go_reg0
  (go_op0 rfl rfl (st_id (v := (V.lit (Value.bool false))) (H := h81) (by kernel_rfl)
  (eN
  (go_seq (go_reg0
  (pM fun v82 h83 =>
  (pS fun h84 =>
  (eN
  (go_seq (go_reg0
  (pI v9 h84
  (pM fun v85 h86 =>
  (pM fun v87 h88 =>
  (pM fun v89 h90 =>
  (pM fun v91 h92 =>
  (pM fun v93 h94 =>
  (pP fun v95 h96 =>
  (pI v95 h96
  (pM fun v97 h98 =>
  (pM fun v99 h100 =>
  (pI v97 h100
  (pI v99 h100
  (eN
  (go_seq (go_reg0
  (pI v99 h100
  (eN
  (go_cond (by kernel_rfl)
  (go_reg0
  (pM fun v101 h102 =>
  (pS fun h103 =>
  (eN
  (by kernel_rfl)))))
  (go_skip (by kernel_rfl))))))))))))))))))))))))))))))))
  (go_seq (go_reg0
  (pM fun v104 h105 =>
  (pI v104 h105
  (eN
  (go_cond (by kernel_rfl)
  (go_reg0
  (pI v9 h105
  (pM fun v106 h107 =>
  (pM fun v108 h109 =>
  (pM fun v110 h111 =>
  (pP fun v112 h113 =>
  (pP fun v114 h115 =>
  (pM fun v116 h117 =>
  (pS fun h118 =>
  (pM fun v119 h120 =>
  (pS fun h121 =>
  (eN
  (by kernel_rfl)))))))))))))
  (go_seq (go_reg1 xo88_5r
  (qI xo88_5 xo88_5a v9 h105
  (qM xo88_5 xo88_5a fun v122 h123 =>
  (qM xo88_5 xo88_5a fun v124 h125 =>
  (qM xo88_5 xo88_5a fun v126 h127 =>
  (qP xo88_5 xo88_5a fun v128 h129 =>
  (go_op1 xo88_5 xo88_5a rfl rfl rfl (st_yes (by kernel_rfl) (st_bm (by kernel_rfl) fun v130 h131 =>
  (qM xo88_5 xo88_5a fun v132 h133 =>
  (go_op1 xo88_5 xo88_5a rfl rfl rfl (st_yes (by kernel_rfl) (st_bm (by kernel_rfl) fun v134 h135 =>
  (qP xo88_5 xo88_5a fun v136 h137 =>
  (qM xo88_5 xo88_5a fun v138 h139 =>
  (qP xo88_5 xo88_5a fun v140 h141 =>
  (qI xo88_5 xo88_5a v140 h141
  (go_end1 xo88_5 (by kernel_rfl) xo88_5a
  (go_reg0
  (pM fun v142 h143 =>
  (pM fun v144 h145 =>
  (pM fun v146 h147 =>
  (pP fun v148 h149 =>
  (pS fun h150 =>
  (eN
  (by kernel_rfl))))))))))))))))))))))))))))))))))))))))))))))))))))))))))))))))))))))))))))))))))
theorem xe88 (k wl : Nat) (h : Hp) : evF Tryz.prog xM (k + 1) wl 88 [t0,t1,t2] h = bodyV (xX (xS k) 88 wl k false) Tryz.f88 [t0,t1,t2] h := by kernel_rfl
theorem xj88_0 (h : Hp) : runK (xX s 88 wl k false) (bodyK s.P Tryz.f88) xk88_0 .norm ⟨(t0::t1::t2::t3::t4::t5::t6::t7::t8::t9::ta::tb::tc::td::te::tf::tg::th::ti::tj::tk::tl::tm::tn::tp::tq::tr::ts::tt::tu::tv::tw::tx::ty::tz::tA::tB::tC::tD::tE::tF::tG::tH::tI::tJ::tK::tL::tM::tN::tO::tP::tQ::tR::tS::tT::tU::tV::tW::tX::tY::tZ::q0::q1::q2::q3::q4::q5::q6::q7::q8::q9::qa::qb::qc::qd::qe::qf::qg::qh::qi::qj::qk::ql::qm::qn::qo::qp::qq::qr::qs::qt::qu::qv::qw::[]),h⟩ =
  bm (vLoad s.P 30 t5 h) h fun v151 h152 =>
  bs (vStore s.P wl 30 t7 v151 h152) fun h153 =>
  resO [some t8,vLoad s.P 30 t7 h153] h153 :=
  (rt_block_norm (go_seq (go_reg1 xo88_24r
  (qI xo88_24 xo88_24a t8 h
  (qM xo88_24 xo88_24a fun v151 h152 =>
  (qI xo88_24 xo88_24a t8 h152
  (qS xo88_24 xo88_24a fun h153 =>
  (go_end1 xo88_24 (by kernel_rfl) xo88_24a
  (go_ret (by kernel_rfl))))))))))
theorem xk88_0_ret (cx : Cx) (K : Out → St → Option (V × Hp)) (s : St) : runK cx K xk88_0 .ret s = K .ret s := by kernel_rfl
-- names: xb88,xj88_0,xk88_0_ret
noncomputable def xg118_0 : Code := codeAt (bodyOf Tryz.f118) [1,0]
noncomputable def xk118_0 : List Fr := [.seq (codeAt (bodyOf Tryz.f118) [1,1])]
theorem xb118 (h : Hp) : bodyV (xX s 118 wl k false) Tryz.f118 [t0,t1,t2,t3] h =
  bp (opBox t0 h) fun v1 h2 =>
  bp (opBox t2 h2) fun v3 h4 =>
  bm (vLoad s.P 23 v1 h4) h4 fun v5 h6 =>
  bp (callV (xX s 118 wl k false) false true (.fn (.func 139) [] []) [v5,t1] h6) fun v7 h8 =>
  gd v7 (
  bm (vLoad s.P 30 v3 h8) h8 fun v9 h10 =>
  bp (callV (xX s 118 wl k false) false true (.fn (.func 68) [] []) [v9] h10) fun v11 h12 =>
  bm (vUn .not v11) h12 fun v13 h14 =>
  opsP (xX s 118 wl k false) xg118_0 7 h4.length ([],[]) (runK (xX s 118 wl k false) (bodyK s.P Tryz.f118) xk118_0) ⟨[t0,t1,t2,t3,v1,uu,v3,uu,(V.lit (Value.bool false)),v5,t1,v7,(V.lit (Value.bool true)),v9,v11,v13,uu,uu,uu,uu,uu,uu,uu,uu,uu,uu,uu,uu,uu,uu,uu,uu,uu],h14⟩) (
  opsP (xX s 118 wl k false) xg118_0 7 h4.length ([],[]) (runK (xX s 118 wl k false) (bodyK s.P Tryz.f118) xk118_0) ⟨[t0,t1,t2,t3,v1,uu,v3,uu,(V.lit (Value.bool false)),v5,t1,v7,(V.lit (Value.bool false)),uu,uu,uu,uu,uu,uu,uu,uu,uu,uu,uu,uu,uu,uu,uu,uu,uu,uu,uu,uu],h8⟩) (
  opsP (xX s 118 wl k false) xg118_0 5 h4.length ([],[]) (runK (xX s 118 wl k false) (bodyK s.P Tryz.f118) xk118_0) ⟨[t0,t1,t2,t3,v1,uu,v3,uu,(V.lit (Value.bool false)),v5,t1,v7,v7,uu,uu,uu,uu,uu,uu,uu,uu,uu,uu,uu,uu,uu,uu,uu,uu,uu,uu,uu,uu],h8⟩) :=
  bodyV_run rfl (go_seq (go_reg0
  (pP fun v1 h2 =>
  (pP fun v3 h4 =>
  (go_op0 rfl rfl (st_id (v := (V.lit (Value.bool false))) (H := h4) (by kernel_rfl)
  (eN
  (go_seq (go_reg0
  (pM fun v5 h6 =>
  (pI t1 h6
  (pP fun v7 h8 =>
  (pI v7 h8
  (go_gdT0 rfl rfl rfl (by kernel_rfl)
  (st_bm (by kernel_rfl) fun v9 h10 =>
  (rN (st_bp (by kernel_rfl) fun v11 h12 =>
  (rN (st_bm (by kernel_rfl) fun v13 h14 =>
  (by kernel_rfl))))))
  (sK
  (sK
  (by kernel_rfl)))
  (by kernel_rfl)))))))))))))))
theorem xe118 (k wl : Nat) (h : Hp) : evF Tryz.prog xM (k + 1) wl 118 [t0,t1,t2,t3] h = bodyV (xX (xS k) 118 wl k false) Tryz.f118 [t0,t1,t2,t3] h := by kernel_rfl
theorem xm118_0 (zz : List V) (h : Hp) : opsP (xX s 118 wl k false) xg118_0 7 m0 ac (runK (xX s 118 wl k false) (bodyK s.P Tryz.f118) xk118_0) ⟨(t0::t1::t2::t3::t4::t5::t6::t7::t8::t9::ta::tb::tc::td::te::tf::tg::th::ti::tj::tk::tl::zz),h⟩ =
  bm (vPick tc tf (V.lit (Value.bool false))) h fun v15 h16 =>
  gd v15 (
  bm (vFieldAddr s.P 30 t6 0) h16 fun v17 h18 =>
  bm (vLoad s.P 3 v17 h18) h18 fun v19 h20 =>
  bm (vBin s.P .eql 3 v19 t3) h20 fun v21 h22 =>
  opsP (xX s 118 wl k false) xg118_0 13 m0 ac (runK (xX s 118 wl k false) (bodyK s.P Tryz.f118) xk118_0) ⟨(t0::t1::t2::t3::t4::t5::t6::t7::t8::t9::ta::tb::tc::td::te::tf::v15::(V.lit (Value.bool true))::v17::v19::t3::v21::zz),h22⟩) (
  opsP (xX s 118 wl k false) xg118_0 13 m0 ac (runK (xX s 118 wl k false) (bodyK s.P Tryz.f118) xk118_0) ⟨(t0::t1::t2::t3::t4::t5::t6::t7::t8::t9::ta::tb::tc::td::te::tf::v15::(V.lit (Value.bool false))::uu::uu::uu::uu::zz),h16⟩) (
  opsP (xX s 118 wl k false) xg118_0 10 m0 ac (runK (xX s 118 wl k false) (bodyK s.P Tryz.f118) xk118_0) ⟨(t0::t1::t2::t3::t4::t5::t6::t7::t8::t9::ta::tb::tc::td::te::tf::v15::v15::uu::tj::tk::tl::zz),h16⟩) :=
  (pM fun v15 h16 =>
  (pI v15 h16
  (go_gdT0 rfl rfl rfl (by kernel_rfl)
  (st_bm (by kernel_rfl) fun v17 h18 =>
  (rN (st_bm (by kernel_rfl) fun v19 h20 =>
  (rN (st_id (v := t3) (H := h20) (by kernel_rfl)
  (rN (st_bm (by kernel_rfl) fun v21 h22 =>
  (by kernel_rfl))))))))
  (sK
  (sK
  (sK
  (by kernel_rfl))))
  (by kernel_rfl))))
theorem xm118_1 (h : Hp) : opsP (xX s 118 wl k false) xg118_0 13 m0 ac (runK (xX s 118 wl k false) (bodyK s.P Tryz.f118) xk118_0) ⟨[t0,t1,t2,t3,t4,t5,t6,t7,t8,t9,ta,tb,tc,td,te,tf,tg,th,ti,tj,tk,tl,tm,tn,tp,tq,tr,ts,tt,tu,tv,tw,tx],h⟩ =
  bm (vPick th tl (V.lit (Value.bool false))) h fun v23 h24 =>
  gd v23 (
  bm (vFieldAddr s.P 30 t6 1) h24 fun v25 h26 =>
  bm (vLoad s.P 3 v25 h26) h26 fun v27 h28 =>
  bm (vBin s.P .geq 3 v27 (V.lit (Value.int .i64 0))) h28 fun v29 h30 =>
  opsP (xX s 118 wl k false) xg118_0 18 m0 ac (runK (xX s 118 wl k false) (bodyK s.P Tryz.f118) xk118_0) ⟨[t0,t1,t2,t3,t4,t5,t6,t7,t8,t9,ta,tb,tc,td,te,tf,tg,th,ti,tj,tk,tl,v23,(V.lit (Value.bool true)),v25,v27,v29,ts,tt,tu,tv,tw,tx],h30⟩) (
  opsP (xX s 118 wl k false) xg118_0 18 m0 ac (runK (xX s 118 wl k false) (bodyK s.P Tryz.f118) xk118_0) ⟨[t0,t1,t2,t3,t4,t5,t6,t7,t8,t9,ta,tb,tc,td,te,tf,tg,th,ti,tj,tk,tl,v23,(V.lit (Value.bool false)),uu,uu,uu,ts,tt,tu,tv,tw,tx],h24⟩) (
  opsP (xX s 118 wl k false) xg118_0 16 m0 ac (runK (xX s 118 wl k false) (bodyK s.P Tryz.f118) xk118_0) ⟨[t0,t1,t2,t3,t4,t5,t6,t7,t8,t9,ta,tb,tc,td,te,tf,tg,th,ti,tj,tk,tl,v23,v23,uu,tq,tr,ts,tt,tu,tv,tw,tx],h24⟩) :=
  (pM fun v23 h24 =>
  (pI v23 h24
  (go_gdT0 rfl rfl rfl (by kernel_rfl)
  (st_bm (by kernel_rfl) fun v25 h26 =>
  (rN (st_bm (by kernel_rfl) fun v27 h28 =>
  (rN (st_bm (by kernel_rfl) fun v29 h30 =>
  (by kernel_rfl))))))
  (sK
  (sK
  (by kernel_rfl)))
  (by kernel_rfl))))
theorem xm118_2 (h : Hp) : opsP (xX s 118 wl k false) xg118_0 18 m0 ac (runK (xX s 118 wl k false) (bodyK s.P Tryz.f118) xk118_0) ⟨[t0,t1,t2,t3,t4,t5,t6,t7,t8,t9,ta,tb,tc,td,te,tf,tg,th,ti,tj,tk,tl,tm,tn,tp,tq,tr,ts,tt,tu,tv,tw,tx],h⟩ =
  bm (vPick tn tr (V.lit (Value.bool false))) h fun v31 h32 =>
  gd v31 (
  bm (vFieldAddr s.P 30 t6 1) h32 fun v33 h34 =>
  bm (vLoad s.P 3 v33 h34) h34 fun v35 h36 =>
  bm (vBin s.P .lss 3 v35 (V.lit (Value.int .i64 5))) h36 fun v37 h38 =>
  opsP (xX s 118 wl k false) xg118_0 23 m0 ac (runK (xX s 118 wl k false) (bodyK s.P Tryz.f118) xk118_0) ⟨[t0,t1,t2,t3,t4,t5,t6,t7,t8,t9,ta,tb,tc,td,te,tf,tg,th,ti,tj,tk,tl,tm,tn,tp,tq,tr,v31,(V.lit (Value.bool true)),v33,v35,v37,tx],h38⟩) (
  opsP (xX s 118 wl k false) xg118_0 23 m0 ac (runK (xX s 118 wl k false) (bodyK s.P Tryz.f118) xk118_0) ⟨[t0,t1,t2,t3,t4,t5,t6,t7,t8,t9,ta,tb,tc,td,te,tf,tg,th,ti,tj,tk,tl,tm,tn,tp,tq,tr,v31,(V.lit (Value.bool false)),uu,uu,uu,tx],h32⟩) (
  opsP (xX s 118 wl k false) xg118_0 21 m0 ac (runK (xX s 118 wl k false) (bodyK s.P Tryz.f118) xk118_0) ⟨[t0,t1,t2,t3,t4,t5,t6,t7,t8,t9,ta,tb,tc,td,te,tf,tg,th,ti,tj,tk,tl,tm,tn,tp,tq,tr,v31,v31,uu,tv,tw,tx],h32⟩) :=
  (pM fun v31 h32 =>
  (pI v31 h32
  (go_gdT0 rfl rfl rfl (by kernel_rfl)
  (st_bm (by kernel_rfl) fun v33 h34 =>
  (rN (st_bm (by kernel_rfl) fun v35 h36 =>
  (rN (st_bm (by kernel_rfl) fun v37 h38 =>
  (by kernel_rfl))))))
  (sK
  (sK
  (by kernel_rfl)))
  (by kernel_rfl))))
theorem xm118_3 (h : Hp) : opsP (xX s 118 wl k false) xg118_0 23 m0 ac (runK (xX s 118 wl k false) (bodyK s.P Tryz.f118) xk118_0) ⟨[t0,t1,t2,t3,t4,t5,t6,t7,t8,t9,ta,tb,tc,td,te,tf,tg,th,ti,tj,tk,tl,tm,tn,tp,tq,tr,ts,tt,tu,tv,tw,tx],h⟩ =
  bm (vPick tt tw (V.lit (Value.bool false))) h fun v39 h40 =>
  some (v39,h40) :=
  (pM fun v39 h40 =>
  (pI v39 h40
  (eN
  (go_ret (by kernel_rfl)))))
theorem xk118_0_ret (cx : Cx) (K : Out → St → Option (V × Hp)) (s : St) : runK cx K xk118_0 .ret s = K .ret s := by kernel_rfl
-- names: xb118,xm118_0,xm118_1,xm118_2,xm118_3,xk118_0_ret

theorem xb119 (h : Hp) : bodyV (xX s 119 wl k false) Tryz.f119 [t0] h =
  bm (vNil t0 h) h fun v1 h2 =>
  bm (vFieldAddr s.P 133 v1 2) h2 fun v3 h4 =>
  bm (vLoad s.P 26 v3 h4) h4 fun v5 h6 =>
  bp (callV (xX s 119 wl k false) false true (.fn (.func 13) [] []) [v5,(V.lit (Value.int .i64 5))] h6) fun v7 h8 =>
  bm (vNil t0 h8) h8 fun v9 h10 =>
  bm (vFieldAddr s.P 133 v9 0) h10 fun v11 h12 =>
  bm (vFieldAddr s.P 30 v11 4) h12 fun v13 h14 =>
  bs (vStore s.P wl 28 v13 v7 h14) fun h15 =>
  some ((V.lit (Value.int .i64 1)),h15) :=
  bodyV_run rfl (go_seq (go_reg0
  (go_op0 rfl rfl (st_id (v := (V.lit (Value.int .i64 0))) (H := h) (by kernel_rfl)
  (eN
  (go_seq (go_reg0
  (pI t0 h
  (pI t0 h
  (pM fun v1 h2 =>
  (pM fun v3 h4 =>
  (pM fun v5 h6 =>
  (pP fun v7 h8 =>
  (pM fun v9 h10 =>
  (pM fun v11 h12 =>
  (pM fun v13 h14 =>
  (pS fun h15 =>
  (eN
  (go_seq (go_reg0
  (go_op0 rfl rfl (st_id (v := (V.lit (Value.int .i64 1))) (H := h15) (by kernel_rfl)
  (eN
  (go_ret (by kernel_rfl)))))))))))))))))))))))))
theorem xe119 (k wl : Nat) (h : Hp) : evF Tryz.prog xM (k + 1) wl 119 [t0] h = bodyV (xX (xS k) 119 wl k false) Tryz.f119 [t0] h := by kernel_rfl
-- names: xb119,
noncomputable def xg120_0 : Code := codeAt (bodyOf Tryz.f120) [1,0]
noncomputable def xg120_1 : Code := codeAt (bodyOf Tryz.f120) [1,1,0,0,0]
noncomputable def xg120_2 : Code := codeAt (bodyOf Tryz.f120) [1,1,0,0,1,1,0]
noncomputable def xg120_3 : Code := codeAt (bodyOf Tryz.f120) [1,1,0,0,1,1,1,0]
theorem xo120_1 : orderIx (opsOf xg120_0) = [0,1,2,3,4,5,6,7,8,9,10,11,12,13,14,15,16,17,18,19] := by kernel_rfl
theorem xo120_1a : (rgOf (opsOf xg120_0)).any = false := by kernel_rfl
theorem xo120_1r : regOk (opsOf xg120_0) = true := by kernel_rfl
theorem xo120_2 : orderIx (opsOf xg120_1) = [0,1,2,3,4,5,6,7,8] := by kernel_rfl
theorem xo120_2a : (rgOf (opsOf xg120_1)).any = false := by kernel_rfl
theorem xo120_2r : regOk (opsOf xg120_1) = true := by kernel_rfl
theorem xo120_4 : orderIx (opsOf xg120_2) = [0,1,2,3,4,5,6,7,8,9] := by kernel_rfl
theorem xo120_4a : (rgOf (opsOf xg120_2)).any = false := by kernel_rfl
theorem xo120_4r : regOk (opsOf xg120_2) = true := by kernel_rfl
theorem xo120_5 : orderIx (opsOf xg120_3) = [0,1,2,3,4,5,6,7,8,9,10,11,12,13] := by kernel_rfl
theorem xo120_5a : (rgOf (opsOf xg120_3)).any = false := by kernel_rfl
theorem xo120_5r : regOk (opsOf xg120_3) = true := by kernel_rfl
theorem xb120 (h : Hp) : bodyV (xX s 120 wl k false) Tryz.f120 [t0] h =
  stO h.length t0 (
  bm (vNil t0 h) h fun v1 h2 =>
  bm (vFieldAddr s.P 133 v1 2) h2 fun v3 h4 =>
  stO h.length v3 (
  bm (vLoad s.P 26 v3 h4) h4 fun v5 h6 =>
  bm (vNil t0 h6) h6 fun v7 h8 =>
  bm (vFieldAddr s.P 133 v7 1) h8 fun v9 h10 =>
  bm (vLoad s.P 23 v9 h10) h10 fun v11 h12 =>
  bm (vNil t0 h12) h12 fun v13 h14 =>
  bm (vFieldAddr s.P 133 v13 0) h14 fun v15 h16 =>
  bm (vFieldAddr s.P 30 v15 4) h16 fun v17 h18 =>
  bm (vLoad s.P 28 v17 h18) h18 fun v19 h20 =>
  bp (callV (xX s 120 wl k false) true true (.fn (.func 125) [] []) [v11,v19] h20) fun v21 h22 =>
  bp (callV (xX s 120 wl k false) false true (.fn (.func 13) [] []) [v5,v21] h22) fun v23 h24 =>
  bm (vNil t0 h24) h24 fun v25 h26 =>
  bm (vFieldAddr s.P 133 v25 0) h26 fun v27 h28 =>
  bm (vFieldAddr s.P 30 v27 5) h28 fun v29 h30 =>
  bs (vStore s.P wl 28 v29 v23 h30) fun h31 =>
  stO h31.length t0 (
  bm (vNil t0 h31) h31 fun v32 h33 =>
  bm (vFieldAddr s.P 133 v32 0) h33 fun v34 h35 =>
  bm (vFieldAddr s.P 30 v34 5) h35 fun v36 h37 =>
  stO h31.length v36 (
  bm (vLoad s.P 28 v36 h37) h37 fun v38 h39 =>
  bp (callV (xX s 120 wl k false) true true (.fn (.func 140) [] []) [t0] h39) fun v40 h41 =>
  bm (vBin s.P .eql 28 v38 v40) h41 fun v42 h43 =>
  cnd v42 (
  some ((V.lit (Value.int .i64 2)),h43)) (
  stO h43.length t0 (
  bm (vNil t0 h43) h43 fun v44 h45 =>
  bm (vFieldAddr s.P 133 v44 0) h45 fun v46 h47 =>
  bm (vFieldAddr s.P 30 v46 5) h47 fun v48 h49 =>
  stO h43.length v48 (
  bm (vLoad s.P 28 v48 h49) h49 fun v50 h51 =>
  bp (callV (xX s 120 wl k false) true true (.fn (.func 140) [] []) [t0] h51) fun v52 h53 =>
  bp (callV (xX s 120 wl k false) false true (.fn (.func 53) [] []) [v50,v52] h53) fun v54 h55 =>
  bm (vBin s.P .lss 3 v54 (V.lit (Value.int .i64 0))) h55 fun v56 h57 =>
  cnd v56 (
  bm (vNil t0 h57) h57 fun v58 h59 =>
  bm (vFieldAddr s.P 133 v58 0) h59 fun v60 h61 =>
  bm (vLoad s.P 30 v60 h61) h61 fun v62 h63 =>
  bm (vNil t0 h63) h63 fun v64 h65 =>
  bm (vFieldAddr s.P 133 v64 0) h65 fun v66 h67 =>
  bm (vFieldAddr s.P 30 v66 3) h67 fun v68 h69 =>
  bm (vLoad s.P 28 v68 h69) h69 fun v70 h71 =>
  bp (callV (xX s 120 wl k false) false true (.fn (.func 104) [] []) [v62,(V.lit (Value.int .i64 2)),v70] h71) fun v72 h73 =>
  bm (vNil t0 h73) h73 fun v74 h75 =>
  bm (vFieldAddr s.P 133 v74 0) h75 fun v76 h77 =>
  bs (vStore s.P wl 30 v76 v72 h77) fun h78 =>
  some ((V.lit (Value.int .i64 0)),h78)) (
  some ((V.lit (Value.int .i64 0)),h57))))))))) :=
  bodyV_run rfl (go_seq (go_reg0
  (go_op0 rfl rfl (st_id (v := (V.lit (Value.int .i64 0))) (H := h) (by kernel_rfl)
  (eN
  (go_seq (go_reg1 xo120_1r
  (qI xo120_1 xo120_1a t0 h
  (qI xo120_1 xo120_1a t0 h
  (go_op1 xo120_1 xo120_1a rfl rfl rfl (st_yes (by kernel_rfl) (st_bm (by kernel_rfl) fun v1 h2 =>
  (qM xo120_1 xo120_1a fun v3 h4 =>
  (go_op1 xo120_1 xo120_1a rfl rfl rfl (st_yes (by kernel_rfl) (st_bm (by kernel_rfl) fun v5 h6 =>
  (qI xo120_1 xo120_1a t0 h6
  (qM xo120_1 xo120_1a fun v7 h8 =>
  (qM xo120_1 xo120_1a fun v9 h10 =>
  (qM xo120_1 xo120_1a fun v11 h12 =>
  (qI xo120_1 xo120_1a t0 h12
  (qM xo120_1 xo120_1a fun v13 h14 =>
  (qM xo120_1 xo120_1a fun v15 h16 =>
  (qM xo120_1 xo120_1a fun v17 h18 =>
  (qM xo120_1 xo120_1a fun v19 h20 =>
  (qP xo120_1 xo120_1a fun v21 h22 =>
  (qP xo120_1 xo120_1a fun v23 h24 =>
  (qM xo120_1 xo120_1a fun v25 h26 =>
  (qM xo120_1 xo120_1a fun v27 h28 =>
  (qM xo120_1 xo120_1a fun v29 h30 =>
  (qS xo120_1 xo120_1a fun h31 =>
  (go_end1 xo120_1 (by kernel_rfl) xo120_1a
  (go_seq (go_block (go_seq (go_reg1 xo120_2r
  (qI xo120_2 xo120_2a t0 h31
  (go_op1 xo120_2 xo120_2a rfl rfl rfl (st_yes (by kernel_rfl) (st_bm (by kernel_rfl) fun v32 h33 =>
  (qM xo120_2 xo120_2a fun v34 h35 =>
  (qM xo120_2 xo120_2a fun v36 h37 =>
  (go_op1 xo120_2 xo120_2a rfl rfl rfl (st_yes (by kernel_rfl) (st_bm (by kernel_rfl) fun v38 h39 =>
  (qI xo120_2 xo120_2a t0 h39
  (qP xo120_2 xo120_2a fun v40 h41 =>
  (qM xo120_2 xo120_2a fun v42 h43 =>
  (qI xo120_2 xo120_2a v42 h43
  (go_end1 xo120_2 (by kernel_rfl) xo120_2a
  (go_cond (by kernel_rfl)
  (go_seq (go_reg0
  (go_op0 rfl rfl (st_id (v := (V.lit (Value.int .i64 2))) (H := h43) (by kernel_rfl)
  (eN
  (go_ret (rt_block_ret (rt_seq_ret (by kernel_rfl)))))))))
  (go_seq (go_reg1 xo120_4r
  (qI xo120_4 xo120_4a t0 h43
  (go_op1 xo120_4 xo120_4a rfl rfl rfl (st_yes (by kernel_rfl) (st_bm (by kernel_rfl) fun v44 h45 =>
  (qM xo120_4 xo120_4a fun v46 h47 =>
  (qM xo120_4 xo120_4a fun v48 h49 =>
  (go_op1 xo120_4 xo120_4a rfl rfl rfl (st_yes (by kernel_rfl) (st_bm (by kernel_rfl) fun v50 h51 =>
  (qI xo120_4 xo120_4a t0 h51
  (qP xo120_4 xo120_4a fun v52 h53 =>
  (qP xo120_4 xo120_4a fun v54 h55 =>
  (qM xo120_4 xo120_4a fun v56 h57 =>
  (qI xo120_4 xo120_4a v56 h57
  (go_end1 xo120_4 (by kernel_rfl) xo120_4a
  (go_cond (by kernel_rfl)
  (go_reg1 xo120_5r
  (qI xo120_5 xo120_5a t0 h57
  (qI xo120_5 xo120_5a t0 h57
  (qM xo120_5 xo120_5a fun v58 h59 =>
  (qM xo120_5 xo120_5a fun v60 h61 =>
  (qM xo120_5 xo120_5a fun v62 h63 =>
  (qI xo120_5 xo120_5a t0 h63
  (qM xo120_5 xo120_5a fun v64 h65 =>
  (qM xo120_5 xo120_5a fun v66 h67 =>
  (qM xo120_5 xo120_5a fun v68 h69 =>
  (qM xo120_5 xo120_5a fun v70 h71 =>
  (qP xo120_5 xo120_5a fun v72 h73 =>
  (qM xo120_5 xo120_5a fun v74 h75 =>
  (qM xo120_5 xo120_5a fun v76 h77 =>
  (qS xo120_5 xo120_5a fun h78 =>
  (go_end1 xo120_5 (by kernel_rfl) xo120_5a
  (rt_block_norm (go_seq (go_reg0
  (go_op0 rfl rfl (st_id (v := (V.lit (Value.int .i64 0))) (H := h78) (by kernel_rfl)
  (eN
  (go_ret (by kernel_rfl))))))))))))))))))))))))
  (go_skip (rt_block_norm (go_seq (go_reg0
  (go_op0 rfl rfl (st_id (v := (V.lit (Value.int .i64 0))) (H := h57) (by kernel_rfl)
  (eN
  (go_ret (by kernel_rfl))))))))))))))))))))))))))))))))))))))))))))))))))))))))))))))))))))))))))))))
theorem xe120 (k wl : Nat) (h : Hp) : evF Tryz.prog xM (k + 1) wl 120 [t0] h = bodyV (xX (xS k) 120 wl k false) Tryz.f120 [t0] h := by kernel_rfl
-- names: xb120,
noncomputable def xg121_0 : Code := codeAt (bodyOf Tryz.f121) [1,1,0,0]
theorem xo121_2 : orderIx (opsOf xg121_0) = [0,1,2,3,4,5,6,7,8,9,10,11,12,13,14,15,16,17,18,19,20,21,22,23] := by kernel_rfl
theorem xo121_2a : (rgOf (opsOf xg121_0)).any = false := by kernel_rfl
theorem xo121_2r : regOk (opsOf xg121_0) = true := by kernel_rfl
theorem xb121 (h : Hp) : bodyV (xX s 121 wl k false) Tryz.f121 [t0] h =
  bm (vNil t0 h) h fun v1 h2 =>
  bm (vFieldAddr s.P 133 v1 2) h2 fun v3 h4 =>
  bm (vLoad s.P 26 v3 h4) h4 fun v5 h6 =>
  bm (vNil t0 h6) h6 fun v7 h8 =>
  bm (vFieldAddr s.P 133 v7 0) h8 fun v9 h10 =>
  bm (vFieldAddr s.P 30 v9 4) h10 fun v11 h12 =>
  bm (vLoad s.P 28 v11 h12) h12 fun v13 h14 =>
  bm (vNil t0 h14) h14 fun v15 h16 =>
  bm (vFieldAddr s.P 133 v15 0) h16 fun v17 h18 =>
  bm (vFieldAddr s.P 30 v17 4) h18 fun v19 h20 =>
  bm (vLoad s.P 28 v19 h20) h20 fun v21 h22 =>
  bm (vBin s.P .add 28 v21 (V.lit (Value.int .u64 1))) h22 fun v23 h24 =>
  bp (callV (xX s 121 wl k false) false true (.fn (.func 102) [] []) [v5,(V.lit (Value.int .i64 5)),v13,v23] h24) fun v25 h26 =>
  bm (vExtract v25 0) h26 fun v27 h28 =>
  bm (vExtract v25 1) h28 fun v29 h30 =>
  bm (vNil t0 h30) h30 fun v31 h32 =>
  bm (vFieldAddr s.P 133 v31 2) h32 fun v33 h34 =>
  bs (vStore s.P wl 26 v33 v27 h34) fun h35 =>
  cnd v29 (
  some ((V.lit (Value.int .i64 3)),h35)) (
  some ((V.lit (Value.int .i64 0)),h35)) :=
  bodyV_run rfl (go_seq (go_reg0
  (go_op0 rfl rfl (st_id (v := (V.lit (Value.int .i64 0))) (H := h) (by kernel_rfl)
  (eN
  (go_seq (go_reg0
  (go_op0 rfl rfl (st_id (v := (V.lit (Value.bool false))) (H := h) (by kernel_rfl)
  (eN
  (go_seq (go_seq (go_reg1 xo121_2r
  (qI xo121_2 xo121_2a t0 h
  (qI xo121_2 xo121_2a t0 h
  (qM xo121_2 xo121_2a fun v1 h2 =>
  (qM xo121_2 xo121_2a fun v3 h4 =>
  (qM xo121_2 xo121_2a fun v5 h6 =>
  (qI xo121_2 xo121_2a t0 h6
  (qM xo121_2 xo121_2a fun v7 h8 =>
  (qM xo121_2 xo121_2a fun v9 h10 =>
  (qM xo121_2 xo121_2a fun v11 h12 =>
  (qM xo121_2 xo121_2a fun v13 h14 =>
  (qI xo121_2 xo121_2a t0 h14
  (qM xo121_2 xo121_2a fun v15 h16 =>
  (qM xo121_2 xo121_2a fun v17 h18 =>
  (qM xo121_2 xo121_2a fun v19 h20 =>
  (qM xo121_2 xo121_2a fun v21 h22 =>
  (qM xo121_2 xo121_2a fun v23 h24 =>
  (qP xo121_2 xo121_2a fun v25 h26 =>
  (qI xo121_2 xo121_2a v25 h26
  (qM xo121_2 xo121_2a fun v27 h28 =>
  (qM xo121_2 xo121_2a fun v29 h30 =>
  (qM xo121_2 xo121_2a fun v31 h32 =>
  (qM xo121_2 xo121_2a fun v33 h34 =>
  (qS xo121_2 xo121_2a fun h35 =>
  (qI xo121_2 xo121_2a v29 h35
  (go_end1 xo121_2 (by kernel_rfl) xo121_2a
  (go_seq (go_reg0
  (pI v29 h35
  (eN
  (go_cond (by kernel_rfl)
  (go_seq (go_reg0
  (go_op0 rfl rfl (st_id (v := (V.lit (Value.int .i64 3))) (H := h35) (by kernel_rfl)
  (eN
  (go_ret (rt_seq_ret (by kernel_rfl))))))))
  (go_skip (go_seq (go_reg0
  (go_op0 rfl rfl (st_id (v := (V.lit (Value.int .i64 0))) (H := h35) (by kernel_rfl)
  (eN
  (go_ret (by kernel_rfl)))))))))))))))))))))))))))))))))))))))))))))))))))
theorem xe121 (k wl : Nat) (h : Hp) : evF Tryz.prog xM (k + 1) wl 121 [t0] h = bodyV (xX (xS k) 121 wl k false) Tryz.f121 [t0] h := by kernel_rfl
-- names: xb121,
noncomputable def xg122_0 : Code := codeAt (bodyOf Tryz.f122) [1,0]
theorem xo122_1 : orderIx (opsOf xg122_0) = [0,1,2,3,4,5,6,7,8,9,10,11,12,13,14,15,16,17,18,19,20,21,22,23] := by kernel_rfl
theorem xo122_1a : (rgOf (opsOf xg122_0)).any = false := by kernel_rfl
theorem xo122_1r : regOk (opsOf xg122_0) = true := by kernel_rfl
theorem xb122 (h : Hp) : bodyV (xX s 122 wl k false) Tryz.f122 [t0] h =
  stO h.length t0 (
  bm (vNil t0 h) h fun v1 h2 =>
  bm (vFieldAddr s.P 133 v1 2) h2 fun v3 h4 =>
  stO h.length v3 (
  bm (vLoad s.P 26 v3 h4) h4 fun v5 h6 =>
  bm (vNil t0 h6) h6 fun v7 h8 =>
  bm (vFieldAddr s.P 133 v7 1) h8 fun v9 h10 =>
  bm (vLoad s.P 23 v9 h10) h10 fun v11 h12 =>
  bm (vNil t0 h12) h12 fun v13 h14 =>
  bm (vFieldAddr s.P 133 v13 0) h14 fun v15 h16 =>
  bm (vFieldAddr s.P 30 v15 4) h16 fun v17 h18 =>
  bm (vLoad s.P 28 v17 h18) h18 fun v19 h20 =>
  bp (callV (xX s 122 wl k false) true true (.fn (.func 127) [] []) [v11,v19] h20) fun v21 h22 =>
  stO h.length t0 (
  bm (vNil t0 h22) h22 fun v23 h24 =>
  bm (vFieldAddr s.P 133 v23 0) h24 fun v25 h26 =>
  bm (vFieldAddr s.P 30 v25 3) h26 fun v27 h28 =>
  stO h.length v27 (
  bm (vLoad s.P 28 v27 h28) h28 fun v29 h30 =>
  bp (callV (xX s 122 wl k false) false true (.fn (.func 112) [] []) [v5,v21,v29] h30) fun v31 h32 =>
  bm (vNil t0 h32) h32 fun v33 h34 =>
  bm (vFieldAddr s.P 133 v33 2) h34 fun v35 h36 =>
  bs (vStore s.P wl 26 v35 v31 h36) fun h37 =>
  some ((V.lit (Value.int .i64 4)),h37))))) :=
  bodyV_run rfl (go_seq (go_reg0
  (go_op0 rfl rfl (st_id (v := (V.lit (Value.int .i64 0))) (H := h) (by kernel_rfl)
  (eN
  (go_seq (go_reg1 xo122_1r
  (qI xo122_1 xo122_1a t0 h
  (qI xo122_1 xo122_1a t0 h
  (go_op1 xo122_1 xo122_1a rfl rfl rfl (st_yes (by kernel_rfl) (st_bm (by kernel_rfl) fun v1 h2 =>
  (qM xo122_1 xo122_1a fun v3 h4 =>
  (go_op1 xo122_1 xo122_1a rfl rfl rfl (st_yes (by kernel_rfl) (st_bm (by kernel_rfl) fun v5 h6 =>
  (qI xo122_1 xo122_1a t0 h6
  (qM xo122_1 xo122_1a fun v7 h8 =>
  (qM xo122_1 xo122_1a fun v9 h10 =>
  (qM xo122_1 xo122_1a fun v11 h12 =>
  (qI xo122_1 xo122_1a t0 h12
  (qM xo122_1 xo122_1a fun v13 h14 =>
  (qM xo122_1 xo122_1a fun v15 h16 =>
  (qM xo122_1 xo122_1a fun v17 h18 =>
  (qM xo122_1 xo122_1a fun v19 h20 =>
  (qP xo122_1 xo122_1a fun v21 h22 =>
  (qI xo122_1 xo122_1a t0 h22
  (go_op1 xo122_1 xo122_1a rfl rfl rfl (st_yes (by kernel_rfl) (st_bm (by kernel_rfl) fun v23 h24 =>
  (qM xo122_1 xo122_1a fun v25 h26 =>
  (qM xo122_1 xo122_1a fun v27 h28 =>
  (go_op1 xo122_1 xo122_1a rfl rfl rfl (st_yes (by kernel_rfl) (st_bm (by kernel_rfl) fun v29 h30 =>
  (qP xo122_1 xo122_1a fun v31 h32 =>
  (qM xo122_1 xo122_1a fun v33 h34 =>
  (qM xo122_1 xo122_1a fun v35 h36 =>
  (qS xo122_1 xo122_1a fun h37 =>
  (go_end1 xo122_1 (by kernel_rfl) xo122_1a
  (go_seq (go_reg0
  (go_op0 rfl rfl (st_id (v := (V.lit (Value.int .i64 4))) (H := h37) (by kernel_rfl)
  (eN
  (go_ret (by kernel_rfl)))))))))))))))))))))))))))))))))))))))))))))))
theorem xe122 (k wl : Nat) (h : Hp) : evF Tryz.prog xM (k + 1) wl 122 [t0] h = bodyV (xX (xS k) 122 wl k false) Tryz.f122 [t0] h := by kernel_rfl
-- names: xb122,
noncomputable def xg123_0 : Code := codeAt (bodyOf Tryz.f123) [1,0]
noncomputable def xg123_1 : Code := codeAt (bodyOf Tryz.f123) [1,1,0]
theorem xo123_1 : orderIx (opsOf xg123_0) = [0,1,2,3,4,5,6,7,8,9,10,11,12,13,14,15,16,17,18,19,20,21] := by kernel_rfl
theorem xo123_1a : (rgOf (opsOf xg123_0)).any = false := by kernel_rfl
theorem xo123_1r : regOk (opsOf xg123_0) = true := by kernel_rfl
theorem xo123_2 : orderIx (opsOf xg123_1) = [0,1,2,3,4,5,6,7,8,9,10,11,12,13] := by kernel_rfl
theorem xo123_2a : (rgOf (opsOf xg123_1)).any = false := by kernel_rfl
theorem xo123_2r : regOk (opsOf xg123_1) = true := by kernel_rfl
theorem xb123 (h : Hp) : bodyV (xX s 123 wl k false) Tryz.f123 [t0] h =
  stO h.length t0 (
  bm (vNil t0 h) h fun v1 h2 =>
  bm (vFieldAddr s.P 133 v1 2) h2 fun v3 h4 =>
  stO h.length v3 (
  bm (vLoad s.P 26 v3 h4) h4 fun v5 h6 =>
  bm (vNil t0 h6) h6 fun v7 h8 =>
  bm (vFieldAddr s.P 133 v7 1) h8 fun v9 h10 =>
  bm (vLoad s.P 23 v9 h10) h10 fun v11 h12 =>
  bm (vNil t0 h12) h12 fun v13 h14 =>
  bm (vFieldAddr s.P 133 v13 0) h14 fun v15 h16 =>
  bm (vFieldAddr s.P 30 v15 4) h16 fun v17 h18 =>
  bm (vLoad s.P 28 v17 h18) h18 fun v19 h20 =>
  bp (callV (xX s 123 wl k false) true true (.fn (.func 125) [] []) [v11,v19] h20) fun v21 h22 =>
  bp (callV (xX s 123 wl k false) true true (.fn (.func 140) [] []) [t0] h22) fun v23 h24 =>
  bm (vBin s.P .add 28 v23 (V.lit (Value.int .u64 1))) h24 fun v25 h26 =>
  bp (callV (xX s 123 wl k false) false true (.fn (.func 112) [] []) [v5,v21,v25] h26) fun v27 h28 =>
  bm (vNil t0 h28) h28 fun v29 h30 =>
  bm (vFieldAddr s.P 133 v29 2) h30 fun v31 h32 =>
  bs (vStore s.P wl 26 v31 v27 h32) fun h33 =>
  bm (vNil t0 h33) h33 fun v34 h35 =>
  bm (vFieldAddr s.P 133 v34 0) h35 fun v36 h37 =>
  bm (vLoad s.P 30 v36 h37) h37 fun v38 h39 =>
  bm (vNil t0 h39) h39 fun v40 h41 =>
  bm (vFieldAddr s.P 133 v40 0) h41 fun v42 h43 =>
  bm (vFieldAddr s.P 30 v42 3) h43 fun v44 h45 =>
  bm (vLoad s.P 28 v44 h45) h45 fun v46 h47 =>
  bp (callV (xX s 123 wl k false) false true (.fn (.func 104) [] []) [v38,(V.lit (Value.int .i64 1)),v46] h47) fun v48 h49 =>
  bm (vNil t0 h49) h49 fun v50 h51 =>
  bm (vFieldAddr s.P 133 v50 0) h51 fun v52 h53 =>
  bs (vStore s.P wl 30 v52 v48 h53) fun h54 =>
  some ((V.lit (Value.int .i64 0)),h54))) :=
  bodyV_run rfl (go_seq (go_reg0
  (go_op0 rfl rfl (st_id (v := (V.lit (Value.int .i64 0))) (H := h) (by kernel_rfl)
  (eN
  (go_seq (go_reg1 xo123_1r
  (qI xo123_1 xo123_1a t0 h
  (qI xo123_1 xo123_1a t0 h
  (go_op1 xo123_1 xo123_1a rfl rfl rfl (st_yes (by kernel_rfl) (st_bm (by kernel_rfl) fun v1 h2 =>
  (qM xo123_1 xo123_1a fun v3 h4 =>
  (go_op1 xo123_1 xo123_1a rfl rfl rfl (st_yes (by kernel_rfl) (st_bm (by kernel_rfl) fun v5 h6 =>
  (qI xo123_1 xo123_1a t0 h6
  (qM xo123_1 xo123_1a fun v7 h8 =>
  (qM xo123_1 xo123_1a fun v9 h10 =>
  (qM xo123_1 xo123_1a fun v11 h12 =>
  (qI xo123_1 xo123_1a t0 h12
  (qM xo123_1 xo123_1a fun v13 h14 =>
  (qM xo123_1 xo123_1a fun v15 h16 =>
  (qM xo123_1 xo123_1a fun v17 h18 =>
  (qM xo123_1 xo123_1a fun v19 h20 =>
  (qP xo123_1 xo123_1a fun v21 h22 =>
  (qI xo123_1 xo123_1a t0 h22
  (qP xo123_1 xo123_1a fun v23 h24 =>
  (qM xo123_1 xo123_1a fun v25 h26 =>
  (qP xo123_1 xo123_1a fun v27 h28 =>
  (qM xo123_1 xo123_1a fun v29 h30 =>
  (qM xo123_1 xo123_1a fun v31 h32 =>
  (qS xo123_1 xo123_1a fun h33 =>
  (go_end1 xo123_1 (by kernel_rfl) xo123_1a
  (go_seq (go_reg1 xo123_2r
  (qI xo123_2 xo123_2a t0 h33
  (qI xo123_2 xo123_2a t0 h33
  (qM xo123_2 xo123_2a fun v34 h35 =>
  (qM xo123_2 xo123_2a fun v36 h37 =>
  (qM xo123_2 xo123_2a fun v38 h39 =>
  (qI xo123_2 xo123_2a t0 h39
  (qM xo123_2 xo123_2a fun v40 h41 =>
  (qM xo123_2 xo123_2a fun v42 h43 =>
  (qM xo123_2 xo123_2a fun v44 h45 =>
  (qM xo123_2 xo123_2a fun v46 h47 =>
  (qP xo123_2 xo123_2a fun v48 h49 =>
  (qM xo123_2 xo123_2a fun v50 h51 =>
  (qM xo123_2 xo123_2a fun v52 h53 =>
  (qS xo123_2 xo123_2a fun h54 =>
  (go_end1 xo123_2 (by kernel_rfl) xo123_2a
  (go_seq (go_reg0
  (go_op0 rfl rfl (st_id (v := (V.lit (Value.int .i64 0))) (H := h54) (by kernel_rfl)
  (eN
  (go_ret (by kernel_rfl))))))))))))))))))))))))))))))))))))))))))))))))))))))))))
theorem xe123 (k wl : Nat) (h : Hp) : evF Tryz.prog xM (k + 1) wl 123 [t0] h = bodyV (xX (xS k) 123 wl k false) Tryz.f123 [t0] h := by kernel_rfl
-- names: xb123,

theorem xb124 (h : Hp) : bodyV (xX s 124 wl k false) Tryz.f124 [t0,t1] h =
  bm (vLoad s.P 135 t0 h) h fun v1 h2 =>
  bm (vFieldAddr s.P 30 t1 1) h2 fun v3 h4 =>
  bm (vLoad s.P 3 v3 h4) h4 fun v5 h6 =>
  bm (vIndexAddr s.P 135 v1 v5 h6) h6 fun v7 h8 =>
  bm (vLoad s.P 99 v7 h8) h8 fun v9 h10 =>
  bp (callV (xX s 124 wl k false) false true v9 [] h10) fun v11 h12 =>
  some (v11,h12) :=
  bodyV_run rfl (go_seq (go_reg0
  (go_op0 rfl rfl (st_id (v := (V.lit (Value.int .i64 0))) (H := h) (by kernel_rfl)
  (eN
  (go_seq (go_reg0
  (pM fun v1 h2 =>
  (pM fun v3 h4 =>
  (pM fun v5 h6 =>
  (pM fun v7 h8 =>
  (pM fun v9 h10 =>
  (pP fun v11 h12 =>
  (pI v11 h12
  (eN
  (go_ret (by kernel_rfl)))))))))))))))))
theorem xe124 (k wl : Nat) (h : Hp) : evF Tryz.prog xM (k + 1) wl 124 [t0,t1] h = bodyV (xX (xS k) 124 wl k false) Tryz.f124 [t0,t1] h := by kernel_rfl
-- names: xb124,

theorem xb126 (h : Hp) : bodyV (xX s 126 wl k false) Tryz.f126 [t0,t1] h =
  bp (opBox t0 h) fun v1 h2 =>
  bm (vFieldAddr s.P 23 v1 2) h2 fun v3 h4 =>
  bm (vLoad s.P 3 v3 h4) h4 fun v5 h6 =>
  bm (vConv s.P 3 28 v5) h6 fun v7 h8 =>
  bm (vBin s.P .quo 28 t1 v7) h8 fun v9 h10 =>
  bm (vBin s.P .mul 28 v9 (V.lit (Value.int .u64 2))) h10 fun v11 h12 =>
  bm (vBin s.P .add 28 v11 (V.lit (Value.int .u64 1))) h12 fun v13 h14 =>
  some (v13,h14) :=
  bodyV_run rfl (go_seq (go_reg0
  (pP fun v1 h2 =>
  (go_op0 rfl rfl (st_id (v := (V.lit (Value.int .u64 0))) (H := h2) (by kernel_rfl)
  (eN
  (go_seq (go_reg0
  (pI t1 h2
  (pM fun v3 h4 =>
  (pM fun v5 h6 =>
  (pM fun v7 h8 =>
  (pM fun v9 h10 =>
  (pM fun v11 h12 =>
  (pM fun v13 h14 =>
  (pI v13 h14
  (eN
  (go_ret (by kernel_rfl)))))))))))))))))))
theorem xe126 (k wl : Nat) (h : Hp) : evF Tryz.prog xM (k + 1) wl 126 [t0,t1] h = bodyV (xX (xS k) 126 wl k false) Tryz.f126 [t0,t1] h := by kernel_rfl
-- names: xb126,
noncomputable def xg139_0 : Code := codeAt (bodyOf Tryz.f139) [1,0]
noncomputable def xk139_0 : List Fr := [.seq (codeAt (bodyOf Tryz.f139) [1,1])]
theorem xb139 (h : Hp) : bodyV (xX s 139 wl k false) Tryz.f139 [t0,t1] h =
  bp (opBox t0 h) fun v1 h2 =>
  bm (vLoad s.P 23 v1 h2) h2 fun v3 h4 =>
  bp (callV (xX s 139 wl k false) false true (.fn (.func 37) [] []) [v3] h4) fun v5 h6 =>
  gd v5 (
  bp (opLen s.P 26 t1 h6) fun v7 h8 =>
  bm (vLoad s.P 23 v1 h8) h8 fun v9 h10 =>
  bp (callV (xX s 139 wl k false) false true (.fn (.func 38) [] []) [v9] h10) fun v11 h12 =>
  bm (vBin s.P .eql 3 v7 v11) h12 fun v13 h14 =>
  opsP (xX s 139 wl k false) xg139_0 8 h2.length ([],[]) (runK (xX s 139 wl k false) (bodyK s.P Tryz.f139) xk139_0) ⟨[t0,t1,v1,uu,(V.lit (Value.bool false)),v3,v5,(V.lit (Value.bool true)),t1,v7,v9,v11,v13,uu],h14⟩) (
  opsP (xX s 139 wl k false) xg139_0 8 h2.length ([],[]) (runK (xX s 139 wl k false) (bodyK s.P Tryz.f139) xk139_0) ⟨[t0,t1,v1,uu,(V.lit (Value.bool false)),v3,v5,(V.lit (Value.bool false)),uu,uu,uu,uu,uu,uu],h6⟩) (
  opsP (xX s 139 wl k false) xg139_0 4 h2.length ([],[]) (runK (xX s 139 wl k false) (bodyK s.P Tryz.f139) xk139_0) ⟨[t0,t1,v1,uu,(V.lit (Value.bool false)),v3,v5,v5,uu,uu,uu,uu,uu,uu],h6⟩) :=
  bodyV_run rfl (go_seq (go_reg0
  (pP fun v1 h2 =>
  (go_op0 rfl rfl (st_id (v := (V.lit (Value.bool false))) (H := h2) (by kernel_rfl)
  (eN
  (go_seq (go_reg0
  (pM fun v3 h4 =>
  (pP fun v5 h6 =>
  (pI v5 h6
  (go_gdT0 rfl rfl rfl (by kernel_rfl)
  (st_id (v := t1) (H := h6) (by kernel_rfl)
  (rN (st_bp (by kernel_rfl) fun v7 h8 =>
  (rN (st_bm (by kernel_rfl) fun v9 h10 =>
  (rN (st_bp (by kernel_rfl) fun v11 h12 =>
  (rN (st_bm (by kernel_rfl) fun v13 h14 =>
  (by kernel_rfl))))))))))
  (sK
  (sK
  (sK
  (sK
  (by kernel_rfl)))))
  (by kernel_rfl)))))))))))))
theorem xe139 (k wl : Nat) (h : Hp) : evF Tryz.prog xM (k + 1) wl 139 [t0,t1] h = bodyV (xX (xS k) 139 wl k false) Tryz.f139 [t0,t1] h := by kernel_rfl
theorem xm139_0 (h : Hp) : opsP (xX s 139 wl k false) xg139_0 8 m0 ac (runK (xX s 139 wl k false) (bodyK s.P Tryz.f139) xk139_0) ⟨[t0,t1,t2,t3,t4,t5,t6,t7,t8,t9,ta,tb,tc,td],h⟩ =
  bm (vPick t7 tc (V.lit (Value.bool false))) h fun v15 h16 =>
  some (v15,h16) :=
  (pM fun v15 h16 =>
  (pI v15 h16
  (eN
  (go_ret (by kernel_rfl)))))
theorem xk139_0_ret (cx : Cx) (K : Out → St → Option (V × Hp)) (s : St) : runK cx K xk139_0 .ret s = K .ret s := by kernel_rfl
-- names: xb139,xm139_0,xk139_0_ret
noncomputable def xg140_0 : Code := codeAt (bodyOf Tryz.f140) [1,0]
theorem xo140_1 : orderIx (opsOf xg140_0) = [0,1,2,3,4,5,6,7,8,9,10,11,12,13] := by kernel_rfl
theorem xo140_1a : (rgOf (opsOf xg140_0)).any = false := by kernel_rfl
theorem xo140_1r : regOk (opsOf xg140_0) = true := by kernel_rfl
theorem xb140 (h : Hp) : bodyV (xX s 140 wl k false) Tryz.f140 [t0] h =
  bm (vNil t0 h) h fun v1 h2 =>
  bm (vFieldAddr s.P 133 v1 0) h2 fun v3 h4 =>
  bm (vFieldAddr s.P 30 v3 4) h4 fun v5 h6 =>
  bm (vLoad s.P 28 v5 h6) h6 fun v7 h8 =>
  bm (vNil t0 h8) h8 fun v9 h10 =>
  bm (vFieldAddr s.P 133 v9 1) h10 fun v11 h12 =>
  bm (vFieldAddr s.P 23 v11 2) h12 fun v13 h14 =>
  bm (vLoad s.P 3 v13 h14) h14 fun v15 h16 =>
  bm (vConv s.P 3 28 v15) h16 fun v17 h18 =>
  bm (vBin s.P .quo 28 v7 v17) h18 fun v19 h20 =>
  bm (vBin s.P .mul 28 v19 (V.lit (Value.int .u64 2))) h20 fun v21 h22 =>
  some (v21,h22) :=
  bodyV_run rfl (go_seq (go_reg0
  (go_op0 rfl rfl (st_id (v := (V.lit (Value.int .u64 0))) (H := h) (by kernel_rfl)
  (eN
  (go_seq (go_reg1 xo140_1r
  (qI xo140_1 xo140_1a t0 h
  (qM xo140_1 xo140_1a fun v1 h2 =>
  (qM xo140_1 xo140_1a fun v3 h4 =>
  (qM xo140_1 xo140_1a fun v5 h6 =>
  (qM xo140_1 xo140_1a fun v7 h8 =>
  (qI xo140_1 xo140_1a t0 h8
  (qM xo140_1 xo140_1a fun v9 h10 =>
  (qM xo140_1 xo140_1a fun v11 h12 =>
  (qM xo140_1 xo140_1a fun v13 h14 =>
  (qM xo140_1 xo140_1a fun v15 h16 =>
  (qM xo140_1 xo140_1a fun v17 h18 =>
  (qM xo140_1 xo140_1a fun v19 h20 =>
  (qM xo140_1 xo140_1a fun v21 h22 =>
  (qI xo140_1 xo140_1a v21 h22
  (go_end1 xo140_1 (by kernel_rfl) xo140_1a
  (go_ret (by kernel_rfl))))))))))))))))))))))))
theorem xe140 (k wl : Nat) (h : Hp) : evF Tryz.prog xM (k + 1) wl 140 [t0] h = bodyV (xX (xS k) 140 wl k false) Tryz.f140 [t0] h := by kernel_rfl
-- names: xb140,
end Go.Ab
