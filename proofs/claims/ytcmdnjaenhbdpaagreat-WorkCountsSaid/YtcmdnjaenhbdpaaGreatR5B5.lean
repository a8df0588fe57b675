/- The program's code,point by point: printed by gen.py. -/
import Derived.Test.YtcmdnjaenhbdpaaGreatR5Seat
import Derived.Test.YtcmdnjaenhbdpaaGreatAbLibC
set_option linter.unusedVariables false
set_option linter.unusedSimpArgs false
set_option maxRecDepth 100000
set_option linter.unusedVariables false
namespace Go.Ab
open Go.Proofs
variable (s : Sys) (k wl : Nat) (m0 : Nat) (ac : List Nat × List Nat) (t0 t1 t2 t3 t4 t5 t6 t7 t8 t9 ta tb tc td te tf tg th ti tj tk tl tm tn tp tq tr ts tt tu tv tw tx ty tz tA tB tC tD tE tF tG tH tI tJ tK tL tM tN tO tP tQ tR tS tT tU tV tW tX tY tZ q0 q1 q2 q3 q4 q5 q6 q7 q8 q9 qa qb qc qd qe qf qg qh qi qj qk ql qm qn qo qp qq qr qs qt qu qv qw qx qy qz qA qB qC qD qE qF qG qH qJ qK qL qN qO qQ qR qT qU qV qW qX qY qZ z0 z1 z2 z3 z4 z5 z6 : V)
noncomputable def xk69_0 : List Fr := [.seq (codeAt (bodyOf Tryz.f69) [1,0,1,0,1,1,1]),.block 0,.seq (codeAt (bodyOf Tryz.f69) [1,1])]
noncomputable def xg69_0 : Code := codeAt (bodyOf Tryz.f69) [1,1,0]
theorem xo69_7 : orderIx (opsOf xg69_0) = [0,1,2,3,4] := by kernel_rfl
theorem xo69_7a : (rgOf (opsOf xg69_0)).any = false := by kernel_rfl
theorem xo69_7r : regOk (opsOf xg69_0) = true := by kernel_rfl
theorem xb69 (h : Hp) : bodyV (xX s 69 wl k false) Tryz.f69 [t0,t1,t2] h =
  bp (opBox t0 h) fun v1 h2 =>
  bp (opBox t2 h2) fun v3 h4 =>
  bp (some (.own h4.length 0 0,h4 ++ [.rows 0 [] 0 true])) fun v5 h6 =>
  bp (opAlloc s.P 30 h6) fun v7 h8 =>
  bm (vFieldAddr s.P 30 v3 0) h8 fun v9 h10 =>
  bm (vLoad s.P 3 v9 h10) h10 fun v11 h12 =>
  bm (vBin s.P .eql 3 v11 (V.lit (Value.int .i64 5))) h12 fun v13 h14 =>
  cnd v13 (
  bm (vLoad s.P 23 v1 h14) h14 fun v15 h16 =>
  bm (vLoad s.P 30 v3 h16) h16 fun v17 h18 =>
  bp (callV (xX s 69 wl k false) false true (.fn (.func 82) [] []) [v15,t1,v17] h18) fun v19 h20 =>
  bm (vExtract v19 0) h20 fun v21 h22 =>
  bm (vExtract v19 1) h22 fun v23 h24 =>
  bs (vStore s.P wl 30 v7 v23 h24) fun h25 =>
  resO [some v21,vLoad s.P 30 v7 h25] h25) (
  bm (vBin s.P .eql 3 v11 (V.lit (Value.int .i64 6))) h14 fun v26 h27 =>
  cnd v26 (
  runK (xX s 69 wl k false) (bodyK s.P Tryz.f69) xk69_0 .norm ⟨[t0,t1,t2,v1,uu,v3,v5,v7,v9,v11,v13,v13,uu,uu,uu,uu,uu,uu,v26,v26,uu,uu,uu,uu,uu,uu,uu,uu,uu,uu],h27⟩) (
  bm (vBin s.P .eql 3 v11 (V.lit (Value.int .i64 7))) h27 fun v28 h29 =>
  runK (xX s 69 wl k false) (bodyK s.P Tryz.f69) xk69_0 .norm ⟨[t0,t1,t2,v1,uu,v3,v5,v7,v9,v11,v13,v13,uu,uu,uu,uu,uu,uu,v28,v26,v28,uu,uu,uu,uu,uu,uu,uu,uu,uu],h29⟩)) :=
  bodyV_run rfl (go_seq (go_reg0
  (pP fun v1 h2 =>
  (pP fun v3 h4 =>
  (pP fun v5 h6 =>
  (pP fun v7 h8 =>
  (eN
  (go_seq (go_seq (go_reg0
  (pM fun v9 h10 =>
  (pM fun v11 h12 =>
  (eN
  (go_block (go_seq (go_reg0
  (pM fun v13 h14 =>
  (pI v13 h14
  (eN
  (go_cond (by kernel_rfl)
  (go_seq (go_reg0
  (pM fun v15 h16 =>
  (pI t1 h16
  (pM fun v17 h18 =>
  (pP fun v19 h20 =>
  (pM fun v21 h22 =>
  (pM fun v23 h24 =>
  (pI v21 h24
  (pS fun h25 =>
  (eN
  (go_ret (rt_block_ret (rt_seq_ret (by kernel_rfl)))))))))))))))
  (go_seq (go_seq (go_reg0
  (pM fun v26 h27 =>
  (pI v26 h27
  (eN
  (go_cond (by kernel_rfl)
  (go_skip (by kernel_rfl))
  (go_reg0
  (pM fun v28 h29 =>
  (pI v28 h29
  (eN
  (by kernel_rfl))))))))))))))))))))))))))))))))
theorem xe69 (k wl : Nat) (h : Hp) : evF Tryz.prog xM (k + 1) wl 69 [t0,t1,t2] h = bodyV (xX (xS k) 69 wl k false) Tryz.f69 [t0,t1,t2] h := by kernel_rfl
theorem xj69_0 (h : Hp) : runK (xX s 69 wl k false) (bodyK s.P Tryz.f69) xk69_0 .norm ⟨[t0,t1,t2,t3,t4,t5,t6,t7,t8,t9,ta,tb,tc,td,te,tf,tg,th,ti,tj,tk,tl,tm,tn,tp,tq,tr,ts,tt,tu],h⟩ =
  cnd ti (
  bm (vLoad s.P 23 t3 h) h fun v30 h31 =>
  bm (vLoad s.P 30 t5 h31) h31 fun v32 h33 =>
  bp (callV (xX s 69 wl k false) false true (.fn (.func 83) [] []) [v30,t1,v32] h33) fun v34 h35 =>
  bm (vExtract v34 0) h35 fun v36 h37 =>
  bm (vExtract v34 1) h37 fun v38 h39 =>
  bs (vStore s.P wl 30 t7 v38 h39) fun h40 =>
  resO [some v36,vLoad s.P 30 t7 h40] h40) (
  bp (callV (xX s 69 wl k false) true true (.fn (.func 20) [] []) [t1] h) fun v41 h42 =>
  stO h.length t5 (
  bm (vLoad s.P 30 t5 h42) h42 fun v43 h44 =>
  bs (vStore s.P wl 30 t7 v43 h44) fun h45 =>
  resO [some v41,vLoad s.P 30 t7 h45] h45)) :=
  (go_cond (by kernel_rfl)
  (go_seq (go_reg0
  (pM fun v30 h31 =>
  (pI t1 h31
  (pM fun v32 h33 =>
  (pP fun v34 h35 =>
  (pM fun v36 h37 =>
  (pM fun v38 h39 =>
  (pI v36 h39
  (pS fun h40 =>
  (eN
  (go_ret (rt_block_ret (rt_seq_ret (by kernel_rfl)))))))))))))))
  (go_skip (rt_block_norm (go_seq (go_reg1 xo69_7r
  (qI xo69_7 xo69_7a t1 h
  (qP xo69_7 xo69_7a fun v41 h42 =>
  (go_op1 xo69_7 xo69_7a rfl rfl rfl (st_yes (by kernel_rfl) (st_bm (by kernel_rfl) fun v43 h44 =>
  (qI xo69_7 xo69_7a v41 h44
  (qS xo69_7 xo69_7a fun h45 =>
  (go_end1 xo69_7 (by kernel_rfl) xo69_7a
  (go_ret (by kernel_rfl)))))))))))))))
theorem xk69_0_ret (cx : Cx) (K : Out → St → Option (V × Hp)) (s : St) : runK cx K xk69_0 .ret s = K .ret s := by kernel_rfl
-- names: xb69,xj69_0,xk69_0_ret
noncomputable def xg82_0 : Code := codeAt (bodyOf Tryz.f82) [1,0]
noncomputable def xk82_0 : List Fr := [.seq (codeAt (bodyOf Tryz.f82) [1,1,1,1])]
noncomputable def xg82_1 : Code := codeAt (bodyOf Tryz.f82) [1,1,1,1,0]
theorem xo82_1 : orderIx (opsOf xg82_0) = [0,1,2,3,4,5,6] := by kernel_rfl
theorem xo82_1a : (rgOf (opsOf xg82_0)).any = false := by kernel_rfl
theorem xo82_1r : regOk (opsOf xg82_0) = true := by kernel_rfl
theorem xo82_5 : orderIx (opsOf xg82_1) = [0,1,2,3,4,5,6,7,8,9] := by kernel_rfl
theorem xo82_5a : (rgOf (opsOf xg82_1)).any = false := by kernel_rfl
theorem xo82_5r : regOk (opsOf xg82_1) = true := by kernel_rfl
theorem xb82 (h : Hp) : bodyV (xX s 82 wl k false) Tryz.f82 [t0,t1,t2] h =
  bp (opBox t0 h) fun v1 h2 =>
  bp (opBox t2 h2) fun v3 h4 =>
  bp (some (.own h4.length 0 0,h4 ++ [.rows 0 [] 0 true])) fun v5 h6 =>
  bp (opAlloc s.P 30 h6) fun v7 h8 =>
  stO h8.length v3 (
  bm (vLoad s.P 30 v3 h8) h8 fun v9 h10 =>
  stO h8.length v1 (
  bm (vLoad s.P 23 v1 h10) h10 fun v11 h12 =>
  bp (callV (xX s 82 wl k false) true true (.fn (.func 20) [] []) [t1] h12) fun v13 h14 =>
  bm (vBuild s.P 109 [(0,v9),(1,v11),(2,v13)]) h14 fun v15 h16 =>
  bp (opBox v15 h16) fun v17 h18 =>
  bp (vBuildSlice s.P wl 111 5 [(0,(.fn (.func 94) [] [])),(1,(.fn (.func 95) [] [])),(2,(.fn (.func 96) [] [])),(3,(.fn (.func 97) [] [])),(4,(.fn (.func 98) [] []))] h18) fun v19 h20 =>
  bm (vLoad s.P 23 v1 h20) h20 fun v21 h22 =>
  bm (vLoad s.P 30 v3 h22) h22 fun v23 h24 =>
  bp (opLen s.P 111 v19 h24) fun v25 h26 =>
  bp (callV (xX s 82 wl k false) false true (.fn (.func 99) [] []) [v21,t1,v23,(V.lit (Value.int .i64 5)),v25] h26) fun v27 h28 =>
  cnd v27 (
  bm (vFieldAddr s.P 30 v3 1) h28 fun v29 h30 =>
  bm (vLoad s.P 3 v29 h30) h30 fun v31 h32 =>
  bm (vIndexAddr s.P 111 v19 v31 h32) h32 fun v33 h34 =>
  bm (vLoad s.P 110 v33 h34) h34 fun v35 h36 =>
  bp (callV (xX s 82 wl k false) false true v35 [v17] h36) fun v37 h38 =>
  runK (xX s 82 wl k false) (bodyK s.P Tryz.f82) xk82_0 .norm ⟨[t0,t1,t2,v1,uu,v3,v5,v7,v17,v19,v9,v11,t1,v13,v15,v17,v19,v21,t1,v23,v19,v25,v27,v19,v29,v31,v33,v35,v17,v37,uu,uu,uu,uu,uu,uu,uu,uu],h38⟩) (
  runK (xX s 82 wl k false) (bodyK s.P Tryz.f82) xk82_0 .norm ⟨[t0,t1,t2,v1,uu,v3,v5,v7,v17,v19,v9,v11,t1,v13,v15,v17,v19,v21,t1,v23,v19,v25,v27,uu,uu,uu,uu,uu,uu,uu,uu,uu,uu,uu,uu,uu,uu,uu],h28⟩))) :=
  bodyV_run rfl (go_seq (go_reg0
  (pP fun v1 h2 =>
  (pP fun v3 h4 =>
  (pP fun v5 h6 =>
  (pP fun v7 h8 =>
  (eN
  (go_seq (go_reg1 xo82_1r
  (go_op1 xo82_1 xo82_1a rfl rfl rfl (st_yes (by kernel_rfl) (st_bm (by kernel_rfl) fun v9 h10 =>
  (go_op1 xo82_1 xo82_1a rfl rfl rfl (st_yes (by kernel_rfl) (st_bm (by kernel_rfl) fun v11 h12 =>
  (qI xo82_1 xo82_1a t1 h12
  (qP xo82_1 xo82_1a fun v13 h14 =>
  (qM xo82_1 xo82_1a fun v15 h16 =>
  (qP xo82_1 xo82_1a fun v17 h18 =>
  (qI xo82_1 xo82_1a v17 h18
  (go_end1 xo82_1 (by kernel_rfl) xo82_1a
  (go_seq (go_reg0
  (pP fun v19 h20 =>
  (pI v19 h20
  (eN
  (go_seq (go_seq (go_reg0
  (pM fun v21 h22 =>
  (pI t1 h22
  (pM fun v23 h24 =>
  (pI v19 h24
  (pP fun v25 h26 =>
  (pP fun v27 h28 =>
  (eN
  (go_cond (by kernel_rfl)
  (go_reg0
  (pI v19 h28
  (pM fun v29 h30 =>
  (pM fun v31 h32 =>
  (pM fun v33 h34 =>
  (pM fun v35 h36 =>
  (pI v17 h36
  (pP fun v37 h38 =>
  (eN
  (by kernel_rfl))))))))))
  (go_skip (by kernel_rfl)))))))))))))))))))))))))))))))))))))))
theorem xe82 (k wl : Nat) (h : Hp) : evF Tryz.prog xM (k + 1) wl 82 [t0,t1,t2] h = bodyV (xX (xS k) 82 wl k false) Tryz.f82 [t0,t1,t2] h := by kernel_rfl
theorem xj82_0 (h : Hp) : runK (xX s 82 wl k false) (bodyK s.P Tryz.f82) xk82_0 .norm ⟨[t0,t1,t2,t3,t4,t5,t6,t7,t8,t9,ta,tb,tc,td,te,tf,tg,th,ti,tj,tk,tl,tm,tn,tp,tq,tr,ts,tt,tu,tv,tw,tx,ty,tz,tA,tB,tC],h⟩ =
  bm (vNil t8 h) h fun v39 h40 =>
  bm (vFieldAddr s.P 109 v39 2) h40 fun v41 h42 =>
  bm (vLoad s.P 26 v41 h42) h42 fun v43 h44 =>
  bm (vNil t8 h44) h44 fun v45 h46 =>
  bm (vFieldAddr s.P 109 v45 0) h46 fun v47 h48 =>
  bm (vLoad s.P 30 v47 h48) h48 fun v49 h50 =>
  bs (vStore s.P wl 30 t7 v49 h50) fun h51 =>
  resO [some v43,vLoad s.P 30 t7 h51] h51 :=
  (go_seq (go_reg1 xo82_5r
  (qI xo82_5 xo82_5a t8 h
  (qM xo82_5 xo82_5a fun v39 h40 =>
  (qM xo82_5 xo82_5a fun v41 h42 =>
  (qM xo82_5 xo82_5a fun v43 h44 =>
  (qI xo82_5 xo82_5a t8 h44
  (qM xo82_5 xo82_5a fun v45 h46 =>
  (qM xo82_5 xo82_5a fun v47 h48 =>
  (qM xo82_5 xo82_5a fun v49 h50 =>
  (qI xo82_5 xo82_5a v43 h50
  (qS xo82_5 xo82_5a fun h51 =>
  (go_end1 xo82_5 (by kernel_rfl) xo82_5a
  (go_ret (by kernel_rfl)))))))))))))))
theorem xk82_0_ret (cx : Cx) (K : Out → St → Option (V × Hp)) (s : St) : runK cx K xk82_0 .ret s = K .ret s := by kernel_rfl
-- names: xb82,xj82_0,xk82_0_ret
noncomputable def xg83_0 : Code := codeAt (bodyOf Tryz.f83) [1,1,0,1,0,0]
noncomputable def xk83_0 : List Fr := [.block 0,.seq (codeAt (bodyOf Tryz.f83) [1,1,1,1])]
noncomputable def xg83_1 : Code := codeAt (bodyOf Tryz.f83) [1,1,1,0,0,1,1,1,0,0]
noncomputable def xg83_2 : Code := codeAt (bodyOf Tryz.f83) [1,1,1,0,0,1,1,1,0,1,1,0,1,1,0,0]
noncomputable def xk83_1 : List Fr := [.seq (codeAt (bodyOf Tryz.f83) [1,1,1,0,0,1,1,1,1,1,0,1,1]),.block 0,.seq (codeAt (bodyOf Tryz.f83) [1,1,1,1])]
noncomputable def xg83_3 : Code := codeAt (bodyOf Tryz.f83) [1,1,1,0,0,1,1,1,1,1,1,0]
noncomputable def xg83_4 : Code := codeAt (bodyOf Tryz.f83) [1,1,1,0,0,1,1,1,1,1,1,1,0,1,0]
noncomputable def xk83_2 : List Fr := [.seq (codeAt (bodyOf Tryz.f83) [1,1,1,0,0,1,1,1,1,1,1,1,0,1,1]),.seq (codeAt (bodyOf Tryz.f83) [1,1,1,0,0,1,1,1,1,1,1,1,1]),.block 0,.seq (codeAt (bodyOf Tryz.f83) [1,1,1,1])]
noncomputable def xg83_5 : Code := codeAt (bodyOf Tryz.f83) [1,1,1,1,0]
noncomputable def xg83_6 : Code := codeAt (bodyOf Tryz.f83) [1,1,1,0,0,1,1,1,1,1,0,1,1,0]
noncomputable def xg83_7 : Code := codeAt (bodyOf Tryz.f83) [1,1,1,0,0,1,1,1,1,1,1,1,0,1,1,0,0]
theorem xo83_3 : orderIx (opsOf xg83_0) = [0,1,2,3] := by kernel_rfl
theorem xo83_3a : (rgOf (opsOf xg83_0)).any = false := by kernel_rfl
theorem xo83_3r : regOk (opsOf xg83_0) = true := by kernel_rfl
theorem xo83_12 : orderIx (opsOf xg83_1) = [0,1,2,3,4,5,6,7,8,9,10,11] := by kernel_rfl
theorem xo83_12a : (rgOf (opsOf xg83_1)).any = false := by kernel_rfl
theorem xo83_12r : regOk (opsOf xg83_1) = true := by kernel_rfl
theorem xo83_16 : orderIx (opsOf xg83_2) = [0,1,2,3] := by kernel_rfl
theorem xo83_16a : (rgOf (opsOf xg83_2)).any = false := by kernel_rfl
theorem xo83_16r : regOk (opsOf xg83_2) = true := by kernel_rfl
theorem xo83_4 : orderIx (opsOf xg83_3) = [0,1,2,3,4,5,6,7] := by kernel_rfl
theorem xo83_4a : (rgOf (opsOf xg83_3)).any = false := by kernel_rfl
theorem xo83_4r : regOk (opsOf xg83_3) = true := by kernel_rfl
theorem xo83_25 : orderIx (opsOf xg83_5) = [0,1,2,3] := by kernel_rfl
theorem xo83_25a : (rgOf (opsOf xg83_5)).any = false := by kernel_rfl
theorem xo83_25r : regOk (opsOf xg83_5) = true := by kernel_rfl
theorem xo83_24 : orderIx (opsOf xg83_6) = [0,1,2,3,4,5,6,7,8,9,10] := by kernel_rfl
theorem xo83_24a : (rgOf (opsOf xg83_6)).any = false := by kernel_rfl
theorem xo83_24r : regOk (opsOf xg83_6) = true := by kernel_rfl
theorem xo83_7 : orderIx (opsOf xg83_7) = [0,1,2,3,4,5,6,7] := by kernel_rfl
theorem xo83_7a : (rgOf (opsOf xg83_7)).any = false := by kernel_rfl
theorem xo83_7r : regOk (opsOf xg83_7) = true := by kernel_rfl
theorem xb83 (h : Hp) : bodyV (xX s 83 wl k false) Tryz.f83 [t0,t1,t2] h =
  bp (opBox t0 h) fun v1 h2 =>
  bp (opBox t2 h2) fun v3 h4 =>
  bp (some (.own h4.length 0 0,h4 ++ [.rows 0 [] 0 true])) fun v5 h6 =>
  bp (opAlloc s.P 30 h6) fun v7 h8 =>
  bp (callV (xX s 83 wl k false) false true (.fn (.func 20) [] []) [t1] h8) fun v9 h10 =>
  bm (vLoad s.P 23 v1 h10) h10 fun v11 h12 =>
  bm (vLoad s.P 30 v3 h12) h12 fun v13 h14 =>
  bp (callV (xX s 83 wl k false) false true (.fn (.func 100) [] []) [v11,t1,v13] h14) fun v15 h16 =>
  bm (vUn .not v15) h16 fun v17 h18 =>
  cnd v17 (
  bm (vLoad s.P 30 v3 h18) h18 fun v19 h20 =>
  bs (vStore s.P wl 30 v7 v19 h20) fun h21 =>
  resO [some v9,vLoad s.P 30 v7 h21] h21) (
  bm (vFieldAddr s.P 30 v3 1) h18 fun v22 h23 =>
  bm (vLoad s.P 3 v22 h23) h23 fun v24 h25 =>
  bm (vBin s.P .eql 3 v24 (V.lit (Value.int .i64 0))) h25 fun v26 h27 =>
  cnd v26 (
  bp (callV (xX s 83 wl k false) false true (.fn (.func 13) [] []) [v9,(V.lit (Value.int .i64 2))] h27) fun v28 h29 =>
  bm (vFieldAddr s.P 30 v3 4) h29 fun v30 h31 =>
  bs (vStore s.P wl 28 v30 v28 h31) fun h32 =>
  bm (vFieldAddr s.P 30 v3 1) h32 fun v33 h34 =>
  bs (vStore s.P wl 3 v33 (V.lit (Value.int .i64 1)) h34) fun h35 =>
  runK (xX s 83 wl k false) (bodyK s.P Tryz.f83) xk83_0 .norm ⟨(t0::t1::t2::v1::uu::v3::v5::v7::v9::uu::uu::uu::uu::uu::t1::v9::v11::t1::v13::v15::v17::uu::uu::uu::uu::uu::uu::uu::uu::uu::uu::uu::uu::uu::uu::uu::uu::uu::uu::uu::uu::uu::uu::uu::uu::uu::uu::uu::uu::uu::uu::uu::uu::uu::uu::uu::uu::uu::uu::v26::v22::v24::v26::v9::v28::v30::v33::uu::uu::uu::uu::uu::uu::uu::uu::uu::uu::uu::uu::uu::uu::uu::uu::uu::uu::uu::uu::uu::uu::uu::uu::uu::uu::uu::uu::uu::uu::uu::uu::uu::uu::uu::uu::uu::uu::uu::uu::uu::uu::uu::uu::uu::uu::uu::uu::uu::uu::uu::uu::uu::uu::uu::uu::uu::uu::uu::[]),h35⟩) (
  bm (vFieldAddr s.P 30 v3 1) h27 fun v36 h37 =>
  bm (vLoad s.P 3 v36 h37) h37 fun v38 h39 =>
  bm (vBin s.P .eql 3 v38 (V.lit (Value.int .i64 1))) h39 fun v40 h41 =>
  cnd v40 (
  bp (callV (xX s 83 wl k false) true true (.fn (.func 101) [] []) [] h41) fun v42 h43 =>
  bm (vFieldAddr s.P 30 v3 0) h43 fun v44 h45 =>
  stO h41.length v44 (
  bm (vLoad s.P 3 v44 h45) h45 fun v46 h47 =>
  bm (vLookup s.P 116 v42 v46 false h47) h47 fun v48 h49 =>
  bm (vFieldAddr s.P 30 v3 4) h49 fun v50 h51 =>
  stO h41.length v50 (
  bm (vLoad s.P 28 v50 h51) h51 fun v52 h53 =>
  bp (callV (xX s 83 wl k false) false true v48 [v52] h53) fun v54 h55 =>
  bm (vExtract v54 0) h55 fun v56 h57 =>
  bm (vExtract v54 1) h57 fun v58 h59 =>
  bm (vFieldAddr s.P 30 v3 4) h59 fun v60 h61 =>
  bm (vLoad s.P 28 v60 h61) h61 fun v62 h63 =>
  bp (callV (xX s 83 wl k false) false true (.fn (.func 102) [] []) [v9,(V.lit (Value.int .i64 2)),v62,v56] h63) fun v64 h65 =>
  bm (vExtract v64 0) h65 fun v66 h67 =>
  bm (vExtract v64 1) h67 fun v68 h69 =>
  bm (vFieldAddr s.P 30 v3 1) h69 fun v70 h71 =>
  bs (vStore s.P wl 3 v70 (V.lit (Value.int .i64 0)) h71) fun h72 =>
  bm (vUn .not v68) h72 fun v73 h74 =>
  cnd v73 (
  bm (vLoad s.P 30 v3 h74) h74 fun v75 h76 =>
  bs (vStore s.P wl 30 v7 v75 h76) fun h77 =>
  resO [some v66,vLoad s.P 30 v7 h77] h77) (
  bm (vFieldAddr s.P 30 v3 4) h74 fun v78 h79 =>
  bm (vLoad s.P 28 v78 h79) h79 fun v80 h81 =>
  bp (callV (xX s 83 wl k false) false true (.fn (.func 103) [] []) [v80] h81) fun v82 h83 =>
  bm (vBin s.P .eql 28 v82 (V.lit (Value.int .u64 0))) h83 fun v84 h85 =>
  cnd v84 (
  bm (vLoad s.P 30 v3 h85) h85 fun v86 h87 =>
  bp (callV (xX s 83 wl k false) false true (.fn (.func 104) [] []) [v86,(V.lit (Value.int .i64 3)),(V.lit (Value.int .u64 0))] h87) fun v88 h89 =>
  bs (vStore s.P wl 30 v7 v88 h89) fun h90 =>
  resO [some v66,vLoad s.P 30 v7 h90] h90) (
  bm (vFieldAddr s.P 30 v3 5) h85 fun v91 h92 =>
  bs (vStore s.P wl 28 v91 v58 h92) fun h93 =>
  bm (vFieldAddr s.P 30 v3 1) h93 fun v94 h95 =>
  bs (vStore s.P wl 3 v94 (V.lit (Value.int .i64 2)) h95) fun h96 =>
  runK (xX s 83 wl k false) (bodyK s.P Tryz.f83) xk83_0 .norm ⟨(t0::t1::t2::v1::uu::v3::v5::v7::v66::v56::v58::v66::v68::uu::t1::v9::v11::t1::v13::v15::v17::uu::uu::uu::uu::uu::uu::uu::uu::uu::uu::uu::uu::uu::uu::uu::uu::uu::uu::uu::uu::uu::uu::uu::uu::uu::uu::uu::uu::uu::uu::uu::uu::uu::uu::uu::uu::uu::uu::v26::v22::v24::v26::uu::uu::uu::uu::v40::v36::v38::v40::v54::v42::v44::v46::v48::v50::v52::v54::v56::v58::v64::v9::v60::v62::v56::v64::v66::v68::v66::v70::v68::v73::uu::uu::v78::v80::v82::v84::uu::uu::uu::v58::v91::v94::uu::uu::uu::uu::uu::uu::uu::uu::uu::uu::uu::uu::uu::uu::uu::uu::uu::uu::uu::uu::uu::[]),h96⟩))))) (
  bm (vFieldAddr s.P 30 v3 0) h41 fun v97 h98 =>
  bm (vLoad s.P 3 v97 h98) h98 fun v99 h100 =>
  bm (vBin s.P .eql 3 v99 (V.lit (Value.int .i64 6))) h100 fun v101 h102 =>
  cnd v101 (
  bm (vFieldAddr s.P 30 v3 5) h102 fun v103 h104 =>
  bm (vLoad s.P 28 v103 h104) h104 fun v105 h106 =>
  bm (vBin s.P .lss 28 v105 (V.lit (Value.int .u64 8))) h106 fun v107 h108 =>
  cnd v107 (
  bm (vFieldAddr s.P 30 v3 5) h108 fun v109 h110 =>
  bm (vLoad s.P 28 v109 h110) h110 fun v111 h112 =>
  bm (vConv s.P 28 3 v111) h112 fun v113 h114 =>
  runK (xX s 83 wl k false) (bodyK s.P Tryz.f83) xk83_1 .norm ⟨(t0::t1::t2::v1::uu::v3::v5::v7::v9::uu::uu::uu::uu::v113::t1::v9::v11::t1::v13::v15::v17::uu::uu::uu::uu::uu::uu::uu::uu::uu::uu::uu::uu::uu::uu::uu::uu::uu::uu::uu::uu::uu::uu::uu::uu::uu::uu::uu::uu::uu::uu::uu::uu::uu::uu::uu::uu::uu::uu::v26::v22::v24::v26::uu::uu::uu::uu::v40::v36::v38::v40::uu::uu::uu::uu::uu::uu::uu::uu::uu::uu::uu::uu::uu::uu::uu::uu::uu::uu::uu::uu::uu::uu::uu::uu::uu::uu::uu::uu::uu::uu::uu::uu::uu::uu::v101::v97::v99::v101::v103::v105::v107::v109::v111::v113::uu::uu::uu::uu::uu::uu::uu::uu::uu::uu::uu::[]),h114⟩) (
  runK (xX s 83 wl k false) (bodyK s.P Tryz.f83) xk83_1 .norm ⟨(t0::t1::t2::v1::uu::v3::v5::v7::v9::uu::uu::uu::uu::(V.lit (Value.int .i64 (-1)))::t1::v9::v11::t1::v13::v15::v17::uu::uu::uu::uu::uu::uu::uu::uu::uu::uu::uu::uu::uu::uu::uu::uu::uu::uu::uu::uu::uu::uu::uu::uu::uu::uu::uu::uu::uu::uu::uu::uu::uu::uu::uu::uu::uu::uu::v26::v22::v24::v26::uu::uu::uu::uu::v40::v36::v38::v40::uu::uu::uu::uu::uu::uu::uu::uu::uu::uu::uu::uu::uu::uu::uu::uu::uu::uu::uu::uu::uu::uu::uu::uu::uu::uu::uu::uu::uu::uu::uu::uu::uu::uu::v101::v97::v99::v101::v103::v105::v107::uu::uu::uu::uu::uu::uu::uu::uu::uu::uu::uu::uu::uu::uu::[]),h108⟩)) (
  stO h102.length v1 (
  bm (vLoad s.P 23 v1 h102) h102 fun v115 h116 =>
  bm (vFieldAddr s.P 30 v3 5) h116 fun v117 h118 =>
  bm (vLoad s.P 28 v117 h118) h118 fun v119 h120 =>
  bp (callV (xX s 83 wl k false) true true (.fn (.func 106) [] []) [v119] h120) fun v121 h122 =>
  bp (opBuildSliceC s.P wl 65 1 [(0,v121)] h122) fun v123 h124 =>
  bp (callV (xX s 83 wl k false) false true (.fn (.func 105) [] []) [v115,v9,v123] h124) fun v125 h126 =>
  bm (vFieldAddr s.P 30 v3 5) h126 fun v127 h128 =>
  bm (vLoad s.P 28 v127 h128) h128 fun v129 h130 =>
  bp (callV (xX s 83 wl k false) false true (.fn (.func 103) [] []) [v129] h130) fun v131 h132 =>
  bm (vFieldAddr s.P 30 v3 5) h132 fun v133 h134 =>
  bs (vStore s.P wl 28 v133 v131 h134) fun h135 =>
  bm (vFieldAddr s.P 30 v3 5) h135 fun v136 h137 =>
  bm (vLoad s.P 28 v136 h137) h137 fun v138 h139 =>
  bm (vFieldAddr s.P 30 v3 5) h139 fun v140 h141 =>
  bm (vLoad s.P 28 v140 h141) h141 fun v142 h143 =>
  bm (vBin s.P .sub 28 v142 (V.lit (Value.int .u64 1))) h143 fun v144 h145 =>
  bm (vBin s.P .and 28 v138 v144) h145 fun v146 h147 =>
  bm (vBin s.P .eql 28 v146 (V.lit (Value.int .u64 0))) h147 fun v148 h149 =>
  gd v148 (
  opsP (xX s 83 wl k false) xg83_4 11 h135.length ([],[]) (runK (xX s 83 wl k false) (bodyK s.P Tryz.f83) xk83_2) ⟨(t0::t1::t2::v1::uu::v3::v5::v7::v125::uu::uu::uu::uu::uu::t1::v9::v11::t1::v13::v15::v17::uu::uu::v115::v9::v117::v119::v121::v123::v125::v127::v129::v131::v133::v136::v138::v140::v142::v144::v146::v148::(V.lit (Value.bool true))::uu::uu::uu::uu::uu::uu::uu::uu::uu::uu::uu::uu::uu::uu::uu::uu::uu::v26::v22::v24::v26::uu::uu::uu::uu::v40::v36::v38::v40::uu::uu::uu::uu::uu::uu::uu::uu::uu::uu::uu::uu::uu::uu::uu::uu::uu::uu::uu::uu::uu::uu::uu::uu::uu::uu::uu::uu::uu::uu::uu::uu::uu::uu::v101::v97::v99::v101::uu::uu::uu::uu::uu::uu::uu::uu::uu::uu::uu::uu::uu::uu::uu::uu::uu::[]),h149⟩) (
  bm (vFieldAddr s.P 30 v3 5) h149 fun v150 h151 =>
  bm (vLoad s.P 28 v150 h151) h151 fun v152 h153 =>
  bm (vBin s.P .eql 28 v152 (V.lit (Value.int .u64 0))) h153 fun v154 h155 =>
  opsP (xX s 83 wl k false) xg83_4 11 h135.length ([],[]) (runK (xX s 83 wl k false) (bodyK s.P Tryz.f83) xk83_2) ⟨(t0::t1::t2::v1::uu::v3::v5::v7::v125::uu::uu::uu::uu::uu::t1::v9::v11::t1::v13::v15::v17::uu::uu::v115::v9::v117::v119::v121::v123::v125::v127::v129::v131::v133::v136::v138::v140::v142::v144::v146::v148::(V.lit (Value.bool false))::v150::v152::v154::uu::uu::uu::uu::uu::uu::uu::uu::uu::uu::uu::uu::uu::uu::v26::v22::v24::v26::uu::uu::uu::uu::v40::v36::v38::v40::uu::uu::uu::uu::uu::uu::uu::uu::uu::uu::uu::uu::uu::uu::uu::uu::uu::uu::uu::uu::uu::uu::uu::uu::uu::uu::uu::uu::uu::uu::uu::uu::uu::uu::v101::v97::v99::v101::uu::uu::uu::uu::uu::uu::uu::uu::uu::uu::uu::uu::uu::uu::uu::uu::uu::[]),h155⟩) (
  opsP (xX s 83 wl k false) xg83_4 9 h135.length ([],[]) (runK (xX s 83 wl k false) (bodyK s.P Tryz.f83) xk83_2) ⟨(t0::t1::t2::v1::uu::v3::v5::v7::v125::uu::uu::uu::uu::uu::t1::v9::v11::t1::v13::v15::v17::uu::uu::v115::v9::v117::v119::v121::v123::v125::v127::v129::v131::v133::v136::v138::v140::v142::v144::v146::v148::v148::uu::uu::uu::uu::uu::uu::uu::uu::uu::uu::uu::uu::uu::uu::uu::uu::uu::v26::v22::v24::v26::uu::uu::uu::uu::v40::v36::v38::v40::uu::uu::uu::uu::uu::uu::uu::uu::uu::uu::uu::uu::uu::uu::uu::uu::uu::uu::uu::uu::uu::uu::uu::uu::uu::uu::uu::uu::uu::uu::uu::uu::uu::uu::v101::v97::v99::v101::uu::uu::uu::uu::uu::uu::uu::uu::uu::uu::uu::uu::uu::uu::uu::uu::uu::[]),h149⟩)))))) :=
  bodyV_run rfl (go_seq (go_reg0
  (pP fun v1 h2 =>
  (pP fun v3 h4 =>
  (pP fun v5 h6 =>
  (pP fun v7 h8 =>
  (eN
  (go_seq (go_reg0
  (pI t1 h8
  (pP fun v9 h10 =>
  (pI v9 h10
  (eN
  (go_seq (go_seq (go_reg0
  (pM fun v11 h12 =>
  (pI t1 h12
  (pM fun v13 h14 =>
  (pP fun v15 h16 =>
  (pM fun v17 h18 =>
  (eN
  (go_cond (by kernel_rfl)
  (go_seq (go_reg1 xo83_3r
  (qI xo83_3 xo83_3a v9 h18
  (qM xo83_3 xo83_3a fun v19 h20 =>
  (qI xo83_3 xo83_3a v9 h20
  (qS xo83_3 xo83_3a fun h21 =>
  (go_end1 xo83_3 (by kernel_rfl) xo83_3a
  (go_ret (rt_seq_ret (by kernel_rfl))))))))))
  (go_skip (go_seq (go_block (go_seq (go_reg0
  (pM fun v22 h23 =>
  (pM fun v24 h25 =>
  (pM fun v26 h27 =>
  (pI v26 h27
  (eN
  (go_cond (by kernel_rfl)
  (go_reg0
  (pI v9 h27
  (pP fun v28 h29 =>
  (pM fun v30 h31 =>
  (pS fun h32 =>
  (pM fun v33 h34 =>
  (pS fun h35 =>
  (eN
  (by kernel_rfl)))))))))
  (go_seq (go_reg0
  (pM fun v36 h37 =>
  (pM fun v38 h39 =>
  (pM fun v40 h41 =>
  (pI v40 h41
  (eN
  (go_cond (by kernel_rfl)
  (go_seq (go_reg1 xo83_12r
  (qP xo83_12 xo83_12a fun v42 h43 =>
  (qM xo83_12 xo83_12a fun v44 h45 =>
  (go_op1 xo83_12 xo83_12a rfl rfl rfl (st_yes (by kernel_rfl) (st_bm (by kernel_rfl) fun v46 h47 =>
  (qM xo83_12 xo83_12a fun v48 h49 =>
  (qM xo83_12 xo83_12a fun v50 h51 =>
  (go_op1 xo83_12 xo83_12a rfl rfl rfl (st_yes (by kernel_rfl) (st_bm (by kernel_rfl) fun v52 h53 =>
  (qP xo83_12 xo83_12a fun v54 h55 =>
  (qI xo83_12 xo83_12a v54 h55
  (qM xo83_12 xo83_12a fun v56 h57 =>
  (qM xo83_12 xo83_12a fun v58 h59 =>
  (qI xo83_12 xo83_12a v56 h59
  (qI xo83_12 xo83_12a v58 h59
  (go_end1 xo83_12 (by kernel_rfl) xo83_12a
  (go_seq (go_reg0
  (pI v9 h59
  (pM fun v60 h61 =>
  (pM fun v62 h63 =>
  (pI v56 h63
  (pP fun v64 h65 =>
  (pI v64 h65
  (pM fun v66 h67 =>
  (pM fun v68 h69 =>
  (pI v66 h69
  (pI v68 h69
  (eN
  (go_seq (go_seq (go_reg0
  (pI v66 h69
  (pI v66 h69
  (pM fun v70 h71 =>
  (pS fun h72 =>
  (eN
  (go_seq (go_reg0
  (pI v68 h72
  (pM fun v73 h74 =>
  (eN
  (go_cond (by kernel_rfl)
  (go_seq (go_reg1 xo83_16r
  (qI xo83_16 xo83_16a v66 h74
  (qM xo83_16 xo83_16a fun v75 h76 =>
  (qI xo83_16 xo83_16a v66 h76
  (qS xo83_16 xo83_16a fun h77 =>
  (go_end1 xo83_16 (by kernel_rfl) xo83_16a
  (go_ret (rt_seq_ret (rt_block_ret (rt_seq_ret (by kernel_rfl))))))))))))
  (go_skip (go_seq (go_seq (go_reg0
  (pM fun v78 h79 =>
  (pM fun v80 h81 =>
  (pP fun v82 h83 =>
  (pM fun v84 h85 =>
  (eN
  (go_cond (by kernel_rfl)
  (go_seq (go_reg0
  (pI v66 h85
  (pM fun v86 h87 =>
  (pP fun v88 h89 =>
  (pI v66 h89
  (pS fun h90 =>
  (eN
  (go_ret (rt_seq_ret (rt_block_ret (rt_seq_ret (by kernel_rfl)))))))))))))
  (go_skip (go_reg0
  (pI v58 h85
  (pM fun v91 h92 =>
  (pS fun h93 =>
  (pM fun v94 h95 =>
  (pS fun h96 =>
  (eN
  (by kernel_rfl)))))))))))))))))))))))))))))))))))))))))))))))))))))))))))))))))
  (go_seq (go_reg0
  (pM fun v97 h98 =>
  (pM fun v99 h100 =>
  (pM fun v101 h102 =>
  (pI v101 h102
  (eN
  (go_cond (by kernel_rfl)
  (go_seq (go_reg0
  (go_op0 rfl rfl (st_id (v := (V.lit (Value.int .i64 (-1)))) (H := h102) (by kernel_rfl)
  (eN
  (go_seq (go_seq (go_reg0
  (pM fun v103 h104 =>
  (pM fun v105 h106 =>
  (pM fun v107 h108 =>
  (eN
  (go_cond (by kernel_rfl)
  (go_reg0
  (pM fun v109 h110 =>
  (pM fun v111 h112 =>
  (pM fun v113 h114 =>
  (pI v113 h114
  (eN
  (by kernel_rfl)))))))
  (go_skip (by kernel_rfl)))))))))))))))
  (go_seq (go_reg1 xo83_4r
  (go_op1 xo83_4 xo83_4a rfl rfl rfl (st_yes (by kernel_rfl) (st_bm (by kernel_rfl) fun v115 h116 =>
  (qI xo83_4 xo83_4a v9 h116
  (qM xo83_4 xo83_4a fun v117 h118 =>
  (qM xo83_4 xo83_4a fun v119 h120 =>
  (qP xo83_4 xo83_4a fun v121 h122 =>
  (qP xo83_4 xo83_4a fun v123 h124 =>
  (qP xo83_4 xo83_4a fun v125 h126 =>
  (qI xo83_4 xo83_4a v125 h126
  (go_end1 xo83_4 (by kernel_rfl) xo83_4a
  (go_seq (go_seq (go_reg0
  (pM fun v127 h128 =>
  (pM fun v129 h130 =>
  (pP fun v131 h132 =>
  (pM fun v133 h134 =>
  (pS fun h135 =>
  (eN
  (go_seq (go_reg0
  (pM fun v136 h137 =>
  (pM fun v138 h139 =>
  (pM fun v140 h141 =>
  (pM fun v142 h143 =>
  (pM fun v144 h145 =>
  (pM fun v146 h147 =>
  (pM fun v148 h149 =>
  (pI v148 h149
  (go_gdF0 rfl rfl rfl (by kernel_rfl)
  (sK
  (sK
  (by kernel_rfl)))
  (st_bm (by kernel_rfl) fun v150 h151 =>
  (rN (st_bm (by kernel_rfl) fun v152 h153 =>
  (rN (st_bm (by kernel_rfl) fun v154 h155 =>
  (by kernel_rfl))))))
  (by kernel_rfl))))))))))))))))))))))))))))))))))))))))))))))))))))))))))))))))))))))))))))))))))))
theorem xe83 (k wl : Nat) (h : Hp) : evF Tryz.prog xM (k + 1) wl 83 [t0,t1,t2] h = bodyV (xX (xS k) 83 wl k false) Tryz.f83 [t0,t1,t2] h := by kernel_rfl
theorem xj83_0 (h : Hp) : runK (xX s 83 wl k false) (bodyK s.P Tryz.f83) xk83_0 .norm ⟨(t0::t1::t2::t3::t4::t5::t6::t7::t8::t9::ta::tb::tc::td::te::tf::tg::th::ti::tj::tk::tl::tm::tn::tp::tq::tr::ts::tt::tu::tv::tw::tx::ty::tz::tA::tB::tC::tD::tE::tF::tG::tH::tI::tJ::tK::tL::tM::tN::tO::tP::tQ::tR::tS::tT::tU::tV::tW::tX::tY::tZ::q0::q1::q2::q3::q4::q5::q6::q7::q8::q9::qa::qb::qc::qd::qe::qf::qg::qh::qi::qj::qk::ql::qm::qn::qo::qp::qq::qr::qs::qt::qu::qv::qw::qx::qy::qz::qA::qB::qC::qD::qE::qF::qG::qH::qJ::qK::qL::qN::qO::qQ::qR::qT::qU::qV::qW::qX::qY::qZ::z0::z1::z2::z3::z4::z5::z6::[]),h⟩ =
  bm (vLoad s.P 30 t5 h) h fun v156 h157 =>
  bs (vStore s.P wl 30 t7 v156 h157) fun h158 =>
  resO [some t8,vLoad s.P 30 t7 h158] h158 :=
  (rt_block_norm (go_seq (go_reg1 xo83_25r
  (qI xo83_25 xo83_25a t8 h
  (qM xo83_25 xo83_25a fun v156 h157 =>
  (qI xo83_25 xo83_25a t8 h157
  (qS xo83_25 xo83_25a fun h158 =>
  (go_end1 xo83_25 (by kernel_rfl) xo83_25a
  (go_ret (by kernel_rfl))))))))))
theorem xj83_1 (h : Hp) : runK (xX s 83 wl k false) (bodyK s.P Tryz.f83) xk83_1 .norm ⟨(t0::t1::t2::t3::t4::t5::t6::t7::t8::t9::ta::tb::tc::td::te::tf::tg::th::ti::tj::tk::tl::tm::tn::tp::tq::tr::ts::tt::tu::tv::tw::tx::ty::tz::tA::tB::tC::tD::tE::tF::tG::tH::tI::tJ::tK::tL::tM::tN::tO::tP::tQ::tR::tS::tT::tU::tV::tW::tX::tY::tZ::q0::q1::q2::q3::q4::q5::q6::q7::q8::q9::qa::qb::qc::qd::qe::qf::qg::qh::qi::qj::qk::ql::qm::qn::qo::qp::qq::qr::qs::qt::qu::qv::qw::qx::qy::qz::qA::qB::qC::qD::qE::qF::qG::qH::qJ::qK::qL::qN::qO::qQ::qR::qT::qU::qV::qW::qX::qY::qZ::z0::z1::z2::z3::z4::z5::z6::[]),h⟩ =
  stO h.length t3 (
  bm (vLoad s.P 23 t3 h) h fun v159 h160 =>
  bp (opBuildSliceC s.P wl 65 1 [(0,td)] h160) fun v161 h162 =>
  bp (callV (xX s 83 wl k false) true true (.fn (.func 105) [] []) [v159,t8,v161] h162) fun v163 h164 =>
  stO h.length t5 (
  bm (vLoad s.P 30 t5 h164) h164 fun v165 h166 =>
  bm (vFieldAddr s.P 30 t5 5) h166 fun v167 h168 =>
  stO h.length v167 (
  bm (vLoad s.P 28 v167 h168) h168 fun v169 h170 =>
  bp (callV (xX s 83 wl k false) false true (.fn (.func 104) [] []) [v165,(V.lit (Value.int .i64 1)),v169] h170) fun v171 h172 =>
  bs (vStore s.P wl 30 t7 v171 h172) fun h173 =>
  resO [some v163,vLoad s.P 30 t7 h173] h173))) :=
  (go_seq (go_reg1 xo83_24r
  (go_op1 xo83_24 xo83_24a rfl rfl rfl (st_yes (by kernel_rfl) (st_bm (by kernel_rfl) fun v159 h160 =>
  (qI xo83_24 xo83_24a t8 h160
  (qI xo83_24 xo83_24a td h160
  (qP xo83_24 xo83_24a fun v161 h162 =>
  (qP xo83_24 xo83_24a fun v163 h164 =>
  (go_op1 xo83_24 xo83_24a rfl rfl rfl (st_yes (by kernel_rfl) (st_bm (by kernel_rfl) fun v165 h166 =>
  (qM xo83_24 xo83_24a fun v167 h168 =>
  (go_op1 xo83_24 xo83_24a rfl rfl rfl (st_yes (by kernel_rfl) (st_bm (by kernel_rfl) fun v169 h170 =>
  (qP xo83_24 xo83_24a fun v171 h172 =>
  (qI xo83_24 xo83_24a v163 h172
  (qS xo83_24 xo83_24a fun h173 =>
  (go_end1 xo83_24 (by kernel_rfl) xo83_24a
  (go_ret (rt_block_ret (rt_seq_ret (by kernel_rfl))))))))))))))))))))))))
theorem xm83_2 (zz : List V) (h : Hp) : opsP (xX s 83 wl k false) xg83_4 11 m0 ac (runK (xX s 83 wl k false) (bodyK s.P Tryz.f83) xk83_2) ⟨(t0::t1::t2::t3::t4::t5::t6::t7::t8::t9::ta::tb::tc::td::te::tf::tg::th::ti::tj::tk::tl::tm::tn::tp::tq::tr::ts::tt::tu::tv::tw::tx::ty::tz::tA::tB::tC::tD::tE::tF::tG::tH::tI::tJ::tK::tL::tM::tN::tO::tP::tQ::tR::tS::tT::tU::tV::tW::tX::zz),h⟩ =
  bm (vPick tG (V.lit (Value.bool true)) tJ) h fun v174 h175 =>
  cnd v174 (
  stO h175.length t5 (
  bm (vLoad s.P 30 t5 h175) h175 fun v176 h177 =>
  bm (vFieldAddr s.P 30 t5 4) h177 fun v178 h179 =>
  bm (vLoad s.P 28 v178 h179) h179 fun v180 h181 =>
  bp (callV (xX s 83 wl k false) true true (.fn (.func 103) [] []) [v180] h181) fun v182 h183 =>
  bp (callV (xX s 83 wl k false) false true (.fn (.func 104) [] []) [v176,(V.lit (Value.int .i64 1)),v182] h183) fun v184 h185 =>
  bs (vStore s.P wl 30 t7 v184 h185) fun h186 =>
  resO [some t8,vLoad s.P 30 t7 h186] h186)) (
  bm (vFieldAddr s.P 30 t5 5) h175 fun v187 h188 =>
  bm (vLoad s.P 28 v187 h188) h188 fun v189 h190 =>
  bm (vFieldAddr s.P 30 t5 5) h190 fun v191 h192 =>
  bm (vLoad s.P 28 v191 h192) h192 fun v193 h194 =>
  bm (vBin s.P .sub 28 v193 (V.lit (Value.int .u64 1))) h194 fun v195 h196 =>
  bm (vBin s.P .and 28 v189 v195) h196 fun v197 h198 =>
  bm (vFieldAddr s.P 30 t5 5) h198 fun v199 h200 =>
  bs (vStore s.P wl 28 v199 v197 h200) fun h201 =>
  runK (xX s 83 wl k false) (bodyK s.P Tryz.f83) xk83_0 .norm ⟨(t0::t1::t2::t3::t4::t5::t6::t7::t8::t9::ta::tb::tc::td::te::tf::tg::th::ti::tj::tk::tl::tm::tn::tp::tq::tr::ts::tt::tu::tv::tw::tx::ty::tz::tA::tB::tC::tD::tE::tF::tG::tH::tI::tJ::v174::tL::tM::tN::tO::tP::tQ::v187::v189::v191::v193::v195::v197::v199::zz),h201⟩) :=
  (pM fun v174 h175 =>
  (eN
  (go_cond (by kernel_rfl)
  (go_seq (go_reg1 xo83_7r
  (qI xo83_7 xo83_7a t8 h175
  (go_op1 xo83_7 xo83_7a rfl rfl rfl (st_yes (by kernel_rfl) (st_bm (by kernel_rfl) fun v176 h177 =>
  (qM xo83_7 xo83_7a fun v178 h179 =>
  (qM xo83_7 xo83_7a fun v180 h181 =>
  (qP xo83_7 xo83_7a fun v182 h183 =>
  (qP xo83_7 xo83_7a fun v184 h185 =>
  (qI xo83_7 xo83_7a t8 h185
  (qS xo83_7 xo83_7a fun h186 =>
  (go_end1 xo83_7 (by kernel_rfl) xo83_7a
  (go_ret (rt_seq_ret (rt_block_ret (rt_seq_ret (by kernel_rfl))))))))))))))))))
  (go_skip (go_reg0
  (pM fun v187 h188 =>
  (pM fun v189 h190 =>
  (pM fun v191 h192 =>
  (pM fun v193 h194 =>
  (pM fun v195 h196 =>
  (pM fun v197 h198 =>
  (pM fun v199 h200 =>
  (pS fun h201 =>
  (eN
  (by kernel_rfl)))))))))))))))
theorem xk83_0_ret (cx : Cx) (K : Out → St → Option (V × Hp)) (s : St) : runK cx K xk83_0 .ret s = K .ret s := by kernel_rfl
theorem xk83_1_ret (cx : Cx) (K : Out → St → Option (V × Hp)) (s : St) : runK cx K xk83_1 .ret s = K .ret s := by kernel_rfl
theorem xk83_2_ret (cx : Cx) (K : Out → St → Option (V × Hp)) (s : St) : runK cx K xk83_2 .ret s = K .ret s := by kernel_rfl
-- names: xb83,xj83_0,xj83_1,xm83_2,xk83_0_ret,xk83_1_ret,xk83_2_ret

theorem xb94 (h : Hp) : bodyV (xX s 94 wl k false) Tryz.f94 [t0] h =
  bm (vNil t0 h) h fun v1 h2 =>
  bm (vFieldAddr s.P 109 v1 2) h2 fun v3 h4 =>
  bm (vLoad s.P 26 v3 h4) h4 fun v5 h6 =>
  bp (callV (xX s 94 wl k false) false true (.fn (.func 13) [] []) [v5,(V.lit (Value.int .i64 2))] h6) fun v7 h8 =>
  bm (vNil t0 h8) h8 fun v9 h10 =>
  bm (vFieldAddr s.P 109 v9 0) h10 fun v11 h12 =>
  bm (vFieldAddr s.P 30 v11 4) h12 fun v13 h14 =>
  bs (vStore s.P wl 28 v13 v7 h14) fun h15 =>
  bm (vNil t0 h15) h15 fun v16 h17 =>
  bm (vFieldAddr s.P 109 v16 0) h17 fun v18 h19 =>
  bm (vFieldAddr s.P 30 v18 1) h19 fun v20 h21 =>
  bs (vStore s.P wl 3 v20 (V.lit (Value.int .i64 1)) h21) fun h22 =>
  some (.tup [],h22) :=
  bodyV_run rfl (go_seq (go_reg0
  (pI t0 h
  (pI t0 h
  (pM fun v1 h2 =>
  (pM fun v3 h4 =>
  (pM fun v5 h6 =>
  (pP fun v7 h8 =>
  (pM fun v9 h10 =>
  (pM fun v11 h12 =>
  (pM fun v13 h14 =>
  (pS fun h15 =>
  (eN
  (go_reg0
  (pI t0 h15
  (pM fun v16 h17 =>
  (pM fun v18 h19 =>
  (pM fun v20 h21 =>
  (pS fun h22 =>
  (eN
  (by kernel_rfl)))))))))))))))))))))
theorem xe94 (k wl : Nat) (h : Hp) : evF Tryz.prog xM (k + 1) wl 94 [t0] h = bodyV (xX (xS k) 94 wl k false) Tryz.f94 [t0] h := by kernel_rfl
-- names: xb94,
noncomputable def xg95_0 : Code := codeAt (bodyOf Tryz.f95) [1,1,0]
theorem xo95_2 : orderIx (opsOf xg95_0) = [0,1,2,3,4,5,6,7,8,9,10,11,12] := by kernel_rfl
theorem xo95_2a : (rgOf (opsOf xg95_0)).any = false := by kernel_rfl
theorem xo95_2r : regOk (opsOf xg95_0) = true := by kernel_rfl
theorem xb95 (h : Hp) : bodyV (xX s 95 wl k false) Tryz.f95 [t0] h =
  bm (vNil t0 h) h fun v1 h2 =>
  bm (vFieldAddr s.P 109 v1 2) h2 fun v3 h4 =>
  bm (vLoad s.P 26 v3 h4) h4 fun v5 h6 =>
  bp (callV (xX s 95 wl k false) false true (.fn (.func 13) [] []) [v5,(V.lit (Value.int .i64 2))] h6) fun v7 h8 =>
  bm (vNil t0 h8) h8 fun v9 h10 =>
  bm (vFieldAddr s.P 109 v9 0) h10 fun v11 h12 =>
  bm (vFieldAddr s.P 30 v11 5) h12 fun v13 h14 =>
  bs (vStore s.P wl 28 v13 v7 h14) fun h15 =>
  bm (vNil t0 h15) h15 fun v16 h17 =>
  bm (vFieldAddr s.P 109 v16 0) h17 fun v18 h19 =>
  bm (vFieldAddr s.P 30 v18 1) h19 fun v20 h21 =>
  bs (vStore s.P wl 3 v20 (V.lit (Value.int .i64 2)) h21) fun h22 =>
  bm (vNil t0 h22) h22 fun v23 h24 =>
  bm (vFieldAddr s.P 109 v23 0) h24 fun v25 h26 =>
  bm (vFieldAddr s.P 30 v25 5) h26 fun v27 h28 =>
  bm (vLoad s.P 28 v27 h28) h28 fun v29 h30 =>
  bp (callV (xX s 95 wl k false) true true (.fn (.func 128) [] []) [v29] h30) fun v31 h32 =>
  stO h22.length t0 (
  bm (vNil t0 h32) h32 fun v33 h34 =>
  bm (vFieldAddr s.P 109 v33 0) h34 fun v35 h36 =>
  bm (vFieldAddr s.P 30 v35 4) h36 fun v37 h38 =>
  stO h22.length v37 (
  bm (vLoad s.P 28 v37 h38) h38 fun v39 h40 =>
  bp (callV (xX s 95 wl k false) false true (.fn (.func 128) [] []) [v39] h40) fun v41 h42 =>
  bm (vBin s.P .neq 28 v31 v41) h42 fun v43 h44 =>
  cnd v43 (
  bm (vNil t0 h44) h44 fun v45 h46 =>
  bm (vFieldAddr s.P 109 v45 0) h46 fun v47 h48 =>
  bm (vLoad s.P 30 v47 h48) h48 fun v49 h50 =>
  bp (callV (xX s 95 wl k false) false true (.fn (.func 104) [] []) [v49,(V.lit (Value.int .i64 4)),(V.lit (Value.int .u64 0))] h50) fun v51 h52 =>
  bm (vNil t0 h52) h52 fun v53 h54 =>
  bm (vFieldAddr s.P 109 v53 0) h54 fun v55 h56 =>
  bs (vStore s.P wl 30 v55 v51 h56) fun h57 =>
  some (.tup [],h57)) (
  some (.tup [],h44)))) :=
  bodyV_run rfl (go_seq (go_reg0
  (pI t0 h
  (pI t0 h
  (pM fun v1 h2 =>
  (pM fun v3 h4 =>
  (pM fun v5 h6 =>
  (pP fun v7 h8 =>
  (pM fun v9 h10 =>
  (pM fun v11 h12 =>
  (pM fun v13 h14 =>
  (pS fun h15 =>
  (eN
  (go_seq (go_reg0
  (pI t0 h15
  (pM fun v16 h17 =>
  (pM fun v18 h19 =>
  (pM fun v20 h21 =>
  (pS fun h22 =>
  (eN
  (go_seq (go_reg1 xo95_2r
  (qI xo95_2 xo95_2a t0 h22
  (qM xo95_2 xo95_2a fun v23 h24 =>
  (qM xo95_2 xo95_2a fun v25 h26 =>
  (qM xo95_2 xo95_2a fun v27 h28 =>
  (qM xo95_2 xo95_2a fun v29 h30 =>
  (qP xo95_2 xo95_2a fun v31 h32 =>
  (qI xo95_2 xo95_2a t0 h32
  (go_op1 xo95_2 xo95_2a rfl rfl rfl (st_yes (by kernel_rfl) (st_bm (by kernel_rfl) fun v33 h34 =>
  (qM xo95_2 xo95_2a fun v35 h36 =>
  (qM xo95_2 xo95_2a fun v37 h38 =>
  (go_op1 xo95_2 xo95_2a rfl rfl rfl (st_yes (by kernel_rfl) (st_bm (by kernel_rfl) fun v39 h40 =>
  (qP xo95_2 xo95_2a fun v41 h42 =>
  (qM xo95_2 xo95_2a fun v43 h44 =>
  (go_end1 xo95_2 (by kernel_rfl) xo95_2a
  (go_cond (by kernel_rfl)
  (go_reg0
  (pI t0 h44
  (pI t0 h44
  (pM fun v45 h46 =>
  (pM fun v47 h48 =>
  (pM fun v49 h50 =>
  (pP fun v51 h52 =>
  (pM fun v53 h54 =>
  (pM fun v55 h56 =>
  (pS fun h57 =>
  (eN
  (by kernel_rfl))))))))))))
  (go_skip (by kernel_rfl))))))))))))))))))))))))))))))))))))))))))))
theorem xe95 (k wl : Nat) (h : Hp) : evF Tryz.prog xM (k + 1) wl 95 [t0] h = bodyV (xX (xS k) 95 wl k false) Tryz.f95 [t0] h := by kernel_rfl
-- names: xb95,
noncomputable def xg96_0 : Code := codeAt (bodyOf Tryz.f96) [1,1,0]
theorem xo96_2 : orderIx (opsOf xg96_0) = [0,1,2,3,4,5,6,7,8,9,10,11,12,13,14,15,16,17,18,19,20,21,22,23,24,25,26,27,28] := by kernel_rfl
theorem xo96_2a : (rgOf (opsOf xg96_0)).any = false := by kernel_rfl
theorem xo96_2r : regOk (opsOf xg96_0) = true := by kernel_rfl
theorem xb96 (h : Hp) : bodyV (xX s 96 wl k false) Tryz.f96 [t0] h =
  bm (vNil t0 h) h fun v1 h2 =>
  bm (vFieldAddr s.P 109 v1 0) h2 fun v3 h4 =>
  bm (vFieldAddr s.P 30 v3 1) h4 fun v5 h6 =>
  bs (vStore s.P wl 3 v5 (V.lit (Value.int .i64 1)) h6) fun h7 =>
  stO h7.length t0 (
  bm (vNil t0 h7) h7 fun v8 h9 =>
  bm (vFieldAddr s.P 109 v8 2) h9 fun v10 h11 =>
  stO h7.length v10 (
  bm (vLoad s.P 26 v10 h11) h11 fun v12 h13 =>
  stO h7.length t0 (
  bm (vNil t0 h13) h13 fun v14 h15 =>
  bm (vFieldAddr s.P 109 v14 0) h15 fun v16 h17 =>
  bm (vFieldAddr s.P 30 v16 5) h17 fun v18 h19 =>
  stO h7.length v18 (
  bm (vLoad s.P 28 v18 h19) h19 fun v20 h21 =>
  bm (vNil t0 h21) h21 fun v22 h23 =>
  bm (vFieldAddr s.P 109 v22 0) h23 fun v24 h25 =>
  bm (vFieldAddr s.P 30 v24 5) h25 fun v26 h27 =>
  bm (vLoad s.P 28 v26 h27) h27 fun v28 h29 =>
  bm (vNil t0 h29) h29 fun v30 h31 =>
  bm (vFieldAddr s.P 109 v30 0) h31 fun v32 h33 =>
  bm (vFieldAddr s.P 30 v32 2) h33 fun v34 h35 =>
  bm (vLoad s.P 3 v34 h35) h35 fun v36 h37 =>
  bp (callV (xX s 96 wl k false) true true (.fn (.func 129) [] []) [v28,v36] h37) fun v38 h39 =>
  bp (callV (xX s 96 wl k false) false true (.fn (.func 102) [] []) [v12,(V.lit (Value.int .i64 2)),v20,v38] h39) fun v40 h41 =>
  bm (vExtract v40 0) h41 fun v42 h43 =>
  bm (vExtract v40 1) h43 fun v44 h45 =>
  bm (vNil t0 h45) h45 fun v46 h47 =>
  bm (vFieldAddr s.P 109 v46 2) h47 fun v48 h49 =>
  bs (vStore s.P wl 26 v48 v42 h49) fun h50 =>
  cnd v44 (
  bm (vNil t0 h50) h50 fun v51 h52 =>
  bm (vFieldAddr s.P 109 v51 0) h52 fun v53 h54 =>
  bm (vFieldAddr s.P 30 v53 1) h54 fun v55 h56 =>
  bs (vStore s.P wl 3 v55 (V.lit (Value.int .i64 3)) h56) fun h57 =>
  some (.tup [],h57)) (
  some (.tup [],h50)))))) :=
  bodyV_run rfl (go_seq (go_reg0
  (go_op0 rfl rfl (st_id (v := (V.lit (Value.bool false))) (H := h) (by kernel_rfl)
  (eN
  (go_seq (go_reg0
  (pI t0 h
  (pM fun v1 h2 =>
  (pM fun v3 h4 =>
  (pM fun v5 h6 =>
  (pS fun h7 =>
  (eN
  (go_seq (go_reg1 xo96_2r
  (qI xo96_2 xo96_2a t0 h7
  (qI xo96_2 xo96_2a t0 h7
  (go_op1 xo96_2 xo96_2a rfl rfl rfl (st_yes (by kernel_rfl) (st_bm (by kernel_rfl) fun v8 h9 =>
  (qM xo96_2 xo96_2a fun v10 h11 =>
  (go_op1 xo96_2 xo96_2a rfl rfl rfl (st_yes (by kernel_rfl) (st_bm (by kernel_rfl) fun v12 h13 =>
  (qI xo96_2 xo96_2a t0 h13
  (go_op1 xo96_2 xo96_2a rfl rfl rfl (st_yes (by kernel_rfl) (st_bm (by kernel_rfl) fun v14 h15 =>
  (qM xo96_2 xo96_2a fun v16 h17 =>
  (qM xo96_2 xo96_2a fun v18 h19 =>
  (go_op1 xo96_2 xo96_2a rfl rfl rfl (st_yes (by kernel_rfl) (st_bm (by kernel_rfl) fun v20 h21 =>
  (qI xo96_2 xo96_2a t0 h21
  (qM xo96_2 xo96_2a fun v22 h23 =>
  (qM xo96_2 xo96_2a fun v24 h25 =>
  (qM xo96_2 xo96_2a fun v26 h27 =>
  (qM xo96_2 xo96_2a fun v28 h29 =>
  (qI xo96_2 xo96_2a t0 h29
  (qM xo96_2 xo96_2a fun v30 h31 =>
  (qM xo96_2 xo96_2a fun v32 h33 =>
  (qM xo96_2 xo96_2a fun v34 h35 =>
  (qM xo96_2 xo96_2a fun v36 h37 =>
  (qP xo96_2 xo96_2a fun v38 h39 =>
  (qP xo96_2 xo96_2a fun v40 h41 =>
  (qI xo96_2 xo96_2a v40 h41
  (qM xo96_2 xo96_2a fun v42 h43 =>
  (qM xo96_2 xo96_2a fun v44 h45 =>
  (qM xo96_2 xo96_2a fun v46 h47 =>
  (qM xo96_2 xo96_2a fun v48 h49 =>
  (qS xo96_2 xo96_2a fun h50 =>
  (qI xo96_2 xo96_2a v44 h50
  (go_end1 xo96_2 (by kernel_rfl) xo96_2a
  (go_seq (go_reg0
  (pI v44 h50
  (eN
  (go_cond (by kernel_rfl)
  (go_reg0
  (pI t0 h50
  (pM fun v51 h52 =>
  (pM fun v53 h54 =>
  (pM fun v55 h56 =>
  (pS fun h57 =>
  (eN
  (by kernel_rfl))))))))
  (go_skip (by kernel_rfl))))))))))))))))))))))))))))))))))))))))))))))))))))))))))))
theorem xe96 (k wl : Nat) (h : Hp) : evF Tryz.prog xM (k + 1) wl 96 [t0] h = bodyV (xX (xS k) 96 wl k false) Tryz.f96 [t0] h := by kernel_rfl
-- names: xb96,
noncomputable def xg97_0 : Code := codeAt (bodyOf Tryz.f97) [0]
theorem xo97_0 : orderIx (opsOf xg97_0) = [0,1,2,3,4,5,6,7,8,9,10,11,12,13,14,15,16,17,18,19] := by kernel_rfl
theorem xo97_0a : (rgOf (opsOf xg97_0)).any = false := by kernel_rfl
theorem xo97_0r : regOk (opsOf xg97_0) = true := by kernel_rfl
theorem xb97 (h : Hp) : bodyV (xX s 97 wl k false) Tryz.f97 [t0] h =
  stO h.length t0 (
  bm (vNil t0 h) h fun v1 h2 =>
  bm (vFieldAddr s.P 109 v1 2) h2 fun v3 h4 =>
  stO h.length v3 (
  bm (vLoad s.P 26 v3 h4) h4 fun v5 h6 =>
  bm (vNil t0 h6) h6 fun v7 h8 =>
  bm (vFieldAddr s.P 109 v7 1) h8 fun v9 h10 =>
  bm (vLoad s.P 23 v9 h10) h10 fun v11 h12 =>
  bm (vNil t0 h12) h12 fun v13 h14 =>
  bm (vFieldAddr s.P 109 v13 0) h14 fun v15 h16 =>
  bm (vFieldAddr s.P 30 v15 2) h16 fun v17 h18 =>
  bm (vLoad s.P 3 v17 h18) h18 fun v19 h20 =>
  bp (callV (xX s 97 wl k false) true true (.fn (.func 130) [] []) [v11,v19] h20) fun v21 h22 =>
  bp (callV (xX s 97 wl k false) false true (.fn (.func 13) [] []) [v5,v21] h22) fun v23 h24 =>
  bm (vNil t0 h24) h24 fun v25 h26 =>
  bm (vFieldAddr s.P 109 v25 0) h26 fun v27 h28 =>
  bm (vFieldAddr s.P 30 v27 5) h28 fun v29 h30 =>
  bs (vStore s.P wl 28 v29 v23 h30) fun h31 =>
  bm (vNil t0 h31) h31 fun v32 h33 =>
  bm (vFieldAddr s.P 109 v32 0) h33 fun v34 h35 =>
  bm (vFieldAddr s.P 30 v34 5) h35 fun v36 h37 =>
  bm (vLoad s.P 28 v36 h37) h37 fun v38 h39 =>
  bm (vBin s.P .neq 28 v38 (V.lit (Value.int .u64 0))) h39 fun v40 h41 =>
  cnd v40 (
  bm (vNil t0 h41) h41 fun v42 h43 =>
  bm (vFieldAddr s.P 109 v42 0) h43 fun v44 h45 =>
  bm (vFieldAddr s.P 30 v44 1) h45 fun v46 h47 =>
  bs (vStore s.P wl 3 v46 (V.lit (Value.int .i64 4)) h47) fun h48 =>
  some (.tup [],h48)) (
  some (.tup [],h41)))) :=
  bodyV_run rfl (go_seq (go_reg1 xo97_0r
  (qI xo97_0 xo97_0a t0 h
  (qI xo97_0 xo97_0a t0 h
  (go_op1 xo97_0 xo97_0a rfl rfl rfl (st_yes (by kernel_rfl) (st_bm (by kernel_rfl) fun v1 h2 =>
  (qM xo97_0 xo97_0a fun v3 h4 =>
  (go_op1 xo97_0 xo97_0a rfl rfl rfl (st_yes (by kernel_rfl) (st_bm (by kernel_rfl) fun v5 h6 =>
  (qI xo97_0 xo97_0a t0 h6
  (qM xo97_0 xo97_0a fun v7 h8 =>
  (qM xo97_0 xo97_0a fun v9 h10 =>
  (qM xo97_0 xo97_0a fun v11 h12 =>
  (qI xo97_0 xo97_0a t0 h12
  (qM xo97_0 xo97_0a fun v13 h14 =>
  (qM xo97_0 xo97_0a fun v15 h16 =>
  (qM xo97_0 xo97_0a fun v17 h18 =>
  (qM xo97_0 xo97_0a fun v19 h20 =>
  (qP xo97_0 xo97_0a fun v21 h22 =>
  (qP xo97_0 xo97_0a fun v23 h24 =>
  (qM xo97_0 xo97_0a fun v25 h26 =>
  (qM xo97_0 xo97_0a fun v27 h28 =>
  (qM xo97_0 xo97_0a fun v29 h30 =>
  (qS xo97_0 xo97_0a fun h31 =>
  (go_end1 xo97_0 (by kernel_rfl) xo97_0a
  (go_seq (go_reg0
  (pI t0 h31
  (pM fun v32 h33 =>
  (pM fun v34 h35 =>
  (pM fun v36 h37 =>
  (pM fun v38 h39 =>
  (pM fun v40 h41 =>
  (eN
  (go_cond (by kernel_rfl)
  (go_reg0
  (pI t0 h41
  (pM fun v42 h43 =>
  (pM fun v44 h45 =>
  (pM fun v46 h47 =>
  (pS fun h48 =>
  (eN
  (by kernel_rfl))))))))
  (go_skip (by kernel_rfl)))))))))))))))))))))))))))))))))))))))
theorem xe97 (k wl : Nat) (h : Hp) : evF Tryz.prog xM (k + 1) wl 97 [t0] h = bodyV (xX (xS k) 97 wl k false) Tryz.f97 [t0] h := by kernel_rfl
-- names: xb97,
noncomputable def xg98_0 : Code := codeAt (bodyOf Tryz.f98) [0]
theorem xo98_0 : orderIx (opsOf xg98_0) = [0,1,2,3,4,5,6,7,8,9,10,11,12,13,14,15,16,17,18] := by kernel_rfl
theorem xo98_0a : (rgOf (opsOf xg98_0)).any = false := by kernel_rfl
theorem xo98_0r : regOk (opsOf xg98_0) = true := by kernel_rfl
theorem xb98 (h : Hp) : bodyV (xX s 98 wl k false) Tryz.f98 [t0] h =
  stO h.length t0 (
  bm (vNil t0 h) h fun v1 h2 =>
  bm (vFieldAddr s.P 109 v1 2) h2 fun v3 h4 =>
  stO h.length v3 (
  bm (vLoad s.P 26 v3 h4) h4 fun v5 h6 =>
  bm (vNil t0 h6) h6 fun v7 h8 =>
  bm (vFieldAddr s.P 109 v7 1) h8 fun v9 h10 =>
  bm (vLoad s.P 23 v9 h10) h10 fun v11 h12 =>
  bm (vNil t0 h12) h12 fun v13 h14 =>
  bm (vFieldAddr s.P 109 v13 0) h14 fun v15 h16 =>
  bm (vFieldAddr s.P 30 v15 2) h16 fun v17 h18 =>
  bm (vLoad s.P 3 v17 h18) h18 fun v19 h20 =>
  bp (callV (xX s 98 wl k false) true true (.fn (.func 130) [] []) [v11,v19] h20) fun v21 h22 =>
  bp (callV (xX s 98 wl k false) false true (.fn (.func 112) [] []) [v5,v21,(V.lit (Value.int .u64 0))] h22) fun v23 h24 =>
  bm (vNil t0 h24) h24 fun v25 h26 =>
  bm (vFieldAddr s.P 109 v25 2) h26 fun v27 h28 =>
  bs (vStore s.P wl 26 v27 v23 h28) fun h29 =>
  bm (vNil t0 h29) h29 fun v30 h31 =>
  bm (vFieldAddr s.P 109 v30 0) h31 fun v32 h33 =>
  bm (vLoad s.P 30 v32 h33) h33 fun v34 h35 =>
  bp (callV (xX s 98 wl k false) false true (.fn (.func 104) [] []) [v34,(V.lit (Value.int .i64 1)),(V.lit (Value.int .u64 0))] h35) fun v36 h37 =>
  bm (vNil t0 h37) h37 fun v38 h39 =>
  bm (vFieldAddr s.P 109 v38 0) h39 fun v40 h41 =>
  bs (vStore s.P wl 30 v40 v36 h41) fun h42 =>
  some (.tup [],h42))) :=
  bodyV_run rfl (go_seq (go_reg1 xo98_0r
  (qI xo98_0 xo98_0a t0 h
  (qI xo98_0 xo98_0a t0 h
  (go_op1 xo98_0 xo98_0a rfl rfl rfl (st_yes (by kernel_rfl) (st_bm (by kernel_rfl) fun v1 h2 =>
  (qM xo98_0 xo98_0a fun v3 h4 =>
  (go_op1 xo98_0 xo98_0a rfl rfl rfl (st_yes (by kernel_rfl) (st_bm (by kernel_rfl) fun v5 h6 =>
  (qI xo98_0 xo98_0a t0 h6
  (qM xo98_0 xo98_0a fun v7 h8 =>
  (qM xo98_0 xo98_0a fun v9 h10 =>
  (qM xo98_0 xo98_0a fun v11 h12 =>
  (qI xo98_0 xo98_0a t0 h12
  (qM xo98_0 xo98_0a fun v13 h14 =>
  (qM xo98_0 xo98_0a fun v15 h16 =>
  (qM xo98_0 xo98_0a fun v17 h18 =>
  (qM xo98_0 xo98_0a fun v19 h20 =>
  (qP xo98_0 xo98_0a fun v21 h22 =>
  (qP xo98_0 xo98_0a fun v23 h24 =>
  (qM xo98_0 xo98_0a fun v25 h26 =>
  (qM xo98_0 xo98_0a fun v27 h28 =>
  (qS xo98_0 xo98_0a fun h29 =>
  (go_end1 xo98_0 (by kernel_rfl) xo98_0a
  (go_reg0
  (pI t0 h29
  (pI t0 h29
  (pM fun v30 h31 =>
  (pM fun v32 h33 =>
  (pM fun v34 h35 =>
  (pP fun v36 h37 =>
  (pM fun v38 h39 =>
  (pM fun v40 h41 =>
  (pS fun h42 =>
  (eN
  (by kernel_rfl))))))))))))))))))))))))))))))))))))))
theorem xe98 (k wl : Nat) (h : Hp) : evF Tryz.prog xM (k + 1) wl 98 [t0] h = bodyV (xX (xS k) 98 wl k false) Tryz.f98 [t0] h := by kernel_rfl
-- names: xb98,
noncomputable def xg100_0 : Code := codeAt (bodyOf Tryz.f100) [1,0]
noncomputable def xg100_1 : Code := codeAt (bodyOf Tryz.f100) [1,1,0]
noncomputable def xk100_0 : List Fr := [.seq (codeAt (bodyOf Tryz.f100) [1,1,1])]
theorem xo100_1 : orderIx (opsOf xg100_0) = [0,1,2,3,4,5,6,7,8] := by kernel_rfl
theorem xo100_1a : (rgOf (opsOf xg100_0)).any = false := by kernel_rfl
theorem xo100_1r : regOk (opsOf xg100_0) = true := by kernel_rfl
theorem xb100 (h : Hp) : bodyV (xX s 100 wl k false) Tryz.f100 [t0,t1,t2] h =
  bp (opBox t0 h) fun v1 h2 =>
  bp (opBox t2 h2) fun v3 h4 =>
  bp (callV (xX s 100 wl k false) true true (.fn (.func 101) [] []) [] h4) fun v5 h6 =>
  bm (vFieldAddr s.P 30 v3 0) h6 fun v7 h8 =>
  stO h4.length v7 (
  bm (vLoad s.P 3 v7 h8) h8 fun v9 h10 =>
  bm (vLookup s.P 116 v5 v9 true h10) h10 fun v11 h12 =>
  bm (vExtract v11 0) h12 fun v13 h14 =>
  bm (vExtract v11 1) h14 fun v15 h16 =>
  gd v15 (
  bm (vLoad s.P 23 v1 h16) h16 fun v17 h18 =>
  bp (callV (xX s 100 wl k false) false true (.fn (.func 37) [] []) [v17] h18) fun v19 h20 =>
  opsP (xX s 100 wl k false) xg100_1 4 h16.length ([],[]) (runK (xX s 100 wl k false) (bodyK s.P Tryz.f100) xk100_0) ⟨[t0,t1,t2,v1,uu,v3,(V.lit (Value.bool false)),v13,v15,v11,v5,v7,v9,v11,v13,v15,v15,(V.lit (Value.bool true)),v17,v19,uu,uu,uu,uu,uu,uu,uu,uu,uu,uu,uu,uu,uu,uu,uu,uu,uu,uu,uu,uu,uu,uu,uu],h20⟩) (
  opsP (xX s 100 wl k false) xg100_1 4 h16.length ([],[]) (runK (xX s 100 wl k false) (bodyK s.P Tryz.f100) xk100_0) ⟨[t0,t1,t2,v1,uu,v3,(V.lit (Value.bool false)),v13,v15,v11,v5,v7,v9,v11,v13,v15,v15,(V.lit (Value.bool false)),uu,uu,uu,uu,uu,uu,uu,uu,uu,uu,uu,uu,uu,uu,uu,uu,uu,uu,uu,uu,uu,uu,uu,uu,uu],h16⟩) (
  opsP (xX s 100 wl k false) xg100_1 3 h16.length ([],[]) (runK (xX s 100 wl k false) (bodyK s.P Tryz.f100) xk100_0) ⟨[t0,t1,t2,v1,uu,v3,(V.lit (Value.bool false)),v13,v15,v11,v5,v7,v9,v11,v13,v15,v15,v15,uu,uu,uu,uu,uu,uu,uu,uu,uu,uu,uu,uu,uu,uu,uu,uu,uu,uu,uu,uu,uu,uu,uu,uu,uu],h16⟩)) :=
  bodyV_run rfl (go_seq (go_reg0
  (pP fun v1 h2 =>
  (pP fun v3 h4 =>
  (go_op0 rfl rfl (st_id (v := (V.lit (Value.bool false))) (H := h4) (by kernel_rfl)
  (eN
  (go_seq (go_reg1 xo100_1r
  (qP xo100_1 xo100_1a fun v5 h6 =>
  (qM xo100_1 xo100_1a fun v7 h8 =>
  (go_op1 xo100_1 xo100_1a rfl rfl rfl (st_yes (by kernel_rfl) (st_bm (by kernel_rfl) fun v9 h10 =>
  (qM xo100_1 xo100_1a fun v11 h12 =>
  (qI xo100_1 xo100_1a v11 h12
  (qM xo100_1 xo100_1a fun v13 h14 =>
  (qM xo100_1 xo100_1a fun v15 h16 =>
  (qI xo100_1 xo100_1a v13 h16
  (qI xo100_1 xo100_1a v15 h16
  (go_end1 xo100_1 (by kernel_rfl) xo100_1a
  (go_seq (go_reg0
  (pI v15 h16
  (pI v15 h16
  (go_gdT0 rfl rfl rfl (by kernel_rfl)
  (st_bm (by kernel_rfl) fun v17 h18 =>
  (rN (st_bp (by kernel_rfl) fun v19 h20 =>
  (by kernel_rfl))))
  (sK
  (by kernel_rfl))
  (by kernel_rfl)))))))))))))))))))))))))))
theorem xe100 (k wl : Nat) (h : Hp) : evF Tryz.prog xM (k + 1) wl 100 [t0,t1,t2] h = bodyV (xX (xS k) 100 wl k false) Tryz.f100 [t0,t1,t2] h := by kernel_rfl
theorem xm100_0 (zz : List V) (h : Hp) : opsP (xX s 100 wl k false) xg100_1 4 m0 ac (runK (xX s 100 wl k false) (bodyK s.P Tryz.f100) xk100_0) ⟨(t0::t1::t2::t3::t4::t5::t6::t7::t8::t9::ta::tb::tc::td::te::tf::tg::th::ti::tj::tk::tl::tm::tn::tp::tq::tr::zz),h⟩ =
  bm (vPick th tj (V.lit (Value.bool false))) h fun v21 h22 =>
  gd v21 (
  bp (opLen s.P 26 t1 h22) fun v23 h24 =>
  bm (vLoad s.P 23 t3 h24) h24 fun v25 h26 =>
  bp (callV (xX s 100 wl k false) false true (.fn (.func 38) [] []) [v25] h26) fun v27 h28 =>
  bm (vBin s.P .eql 3 v23 v27) h28 fun v29 h30 =>
  opsP (xX s 100 wl k false) xg100_1 11 m0 ac (runK (xX s 100 wl k false) (bodyK s.P Tryz.f100) xk100_0) ⟨(t0::t1::t2::t3::t4::t5::t6::t7::t8::t9::ta::tb::tc::td::te::tf::tg::th::ti::tj::v21::(V.lit (Value.bool true))::t1::v23::v25::v27::v29::zz),h30⟩) (
  opsP (xX s 100 wl k false) xg100_1 11 m0 ac (runK (xX s 100 wl k false) (bodyK s.P Tryz.f100) xk100_0) ⟨(t0::t1::t2::t3::t4::t5::t6::t7::t8::t9::ta::tb::tc::td::te::tf::tg::th::ti::tj::v21::(V.lit (Value.bool false))::uu::uu::uu::uu::uu::zz),h22⟩) (
  opsP (xX s 100 wl k false) xg100_1 7 m0 ac (runK (xX s 100 wl k false) (bodyK s.P Tryz.f100) xk100_0) ⟨(t0::t1::t2::t3::t4::t5::t6::t7::t8::t9::ta::tb::tc::td::te::tf::tg::th::ti::tj::v21::v21::uu::tn::tp::tq::tr::zz),h22⟩) :=
  (pM fun v21 h22 =>
  (pI v21 h22
  (go_gdT0 rfl rfl rfl (by kernel_rfl)
  (st_id (v := t1) (H := h22) (by kernel_rfl)
  (rN (st_bp (by kernel_rfl) fun v23 h24 =>
  (rN (st_bm (by kernel_rfl) fun v25 h26 =>
  (rN (st_bp (by kernel_rfl) fun v27 h28 =>
  (rN (st_bm (by kernel_rfl) fun v29 h30 =>
  (by kernel_rfl))))))))))
  (sK
  (sK
  (sK
  (sK
  (by kernel_rfl)))))
  (by kernel_rfl))))
theorem xm100_1 (h : Hp) : opsP (xX s 100 wl k false) xg100_1 11 m0 ac (runK (xX s 100 wl k false) (bodyK s.P Tryz.f100) xk100_0) ⟨[t0,t1,t2,t3,t4,t5,t6,t7,t8,t9,ta,tb,tc,td,te,tf,tg,th,ti,tj,tk,tl,tm,tn,tp,tq,tr,ts,tt,tu,tv,tw,tx,ty,tz,tA,tB,tC,tD,tE,tF,tG,tH],h⟩ =
  bm (vPick tl tr (V.lit (Value.bool false))) h fun v31 h32 =>
  gd v31 (
  bm (vLoad s.P 30 t5 h32) h32 fun v33 h34 =>
  bp (callV (xX s 100 wl k false) false true (.fn (.func 68) [] []) [v33] h34) fun v35 h36 =>
  bm (vUn .not v35) h36 fun v37 h38 =>
  opsP (xX s 100 wl k false) xg100_1 16 m0 ac (runK (xX s 100 wl k false) (bodyK s.P Tryz.f100) xk100_0) ⟨[t0,t1,t2,t3,t4,t5,t6,t7,t8,t9,ta,tb,tc,td,te,tf,tg,th,ti,tj,tk,tl,tm,tn,tp,tq,tr,v31,(V.lit (Value.bool true)),v33,v35,v37,tx,ty,tz,tA,tB,tC,tD,tE,tF,tG,tH],h38⟩) (
  opsP (xX s 100 wl k false) xg100_1 16 m0 ac (runK (xX s 100 wl k false) (bodyK s.P Tryz.f100) xk100_0) ⟨[t0,t1,t2,t3,t4,t5,t6,t7,t8,t9,ta,tb,tc,td,te,tf,tg,th,ti,tj,tk,tl,tm,tn,tp,tq,tr,v31,(V.lit (Value.bool false)),uu,uu,uu,tx,ty,tz,tA,tB,tC,tD,tE,tF,tG,tH],h32⟩) (
  opsP (xX s 100 wl k false) xg100_1 14 m0 ac (runK (xX s 100 wl k false) (bodyK s.P Tryz.f100) xk100_0) ⟨[t0,t1,t2,t3,t4,t5,t6,t7,t8,t9,ta,tb,tc,td,te,tf,tg,th,ti,tj,tk,tl,tm,tn,tp,tq,tr,v31,v31,uu,tv,tw,tx,ty,tz,tA,tB,tC,tD,tE,tF,tG,tH],h32⟩) :=
  (pM fun v31 h32 =>
  (pI v31 h32
  (go_gdT0 rfl rfl rfl (by kernel_rfl)
  (st_bm (by kernel_rfl) fun v33 h34 =>
  (rN (st_bp (by kernel_rfl) fun v35 h36 =>
  (rN (st_bm (by kernel_rfl) fun v37 h38 =>
  (by kernel_rfl))))))
  (sK
  (sK
  (by kernel_rfl)))
  (by kernel_rfl))))
theorem xm100_2 (h : Hp) : opsP (xX s 100 wl k false) xg100_1 16 m0 ac (runK (xX s 100 wl k false) (bodyK s.P Tryz.f100) xk100_0) ⟨[t0,t1,t2,t3,t4,t5,t6,t7,t8,t9,ta,tb,tc,td,te,tf,tg,th,ti,tj,tk,tl,tm,tn,tp,tq,tr,ts,tt,tu,tv,tw,tx,ty,tz,tA,tB,tC,tD,tE,tF,tG,tH],h⟩ =
  bm (vPick tt tw (V.lit (Value.bool false))) h fun v39 h40 =>
  gd v39 (
  bm (vFieldAddr s.P 30 t5 1) h40 fun v41 h42 =>
  bm (vLoad s.P 3 v41 h42) h42 fun v43 h44 =>
  bm (vBin s.P .geq 3 v43 (V.lit (Value.int .i64 0))) h44 fun v45 h46 =>
  opsP (xX s 100 wl k false) xg100_1 21 m0 ac (runK (xX s 100 wl k false) (bodyK s.P Tryz.f100) xk100_0) ⟨[t0,t1,t2,t3,t4,t5,t6,t7,t8,t9,ta,tb,tc,td,te,tf,tg,th,ti,tj,tk,tl,tm,tn,tp,tq,tr,ts,tt,tu,tv,tw,v39,(V.lit (Value.bool true)),v41,v43,v45,tC,tD,tE,tF,tG,tH],h46⟩) (
  opsP (xX s 100 wl k false) xg100_1 21 m0 ac (runK (xX s 100 wl k false) (bodyK s.P Tryz.f100) xk100_0) ⟨[t0,t1,t2,t3,t4,t5,t6,t7,t8,t9,ta,tb,tc,td,te,tf,tg,th,ti,tj,tk,tl,tm,tn,tp,tq,tr,ts,tt,tu,tv,tw,v39,(V.lit (Value.bool false)),uu,uu,uu,tC,tD,tE,tF,tG,tH],h40⟩) (
  opsP (xX s 100 wl k false) xg100_1 19 m0 ac (runK (xX s 100 wl k false) (bodyK s.P Tryz.f100) xk100_0) ⟨[t0,t1,t2,t3,t4,t5,t6,t7,t8,t9,ta,tb,tc,td,te,tf,tg,th,ti,tj,tk,tl,tm,tn,tp,tq,tr,ts,tt,tu,tv,tw,v39,v39,uu,tA,tB,tC,tD,tE,tF,tG,tH],h40⟩) :=
  (pM fun v39 h40 =>
  (pI v39 h40
  (go_gdT0 rfl rfl rfl (by kernel_rfl)
  (st_bm (by kernel_rfl) fun v41 h42 =>
  (rN (st_bm (by kernel_rfl) fun v43 h44 =>
  (rN (st_bm (by kernel_rfl) fun v45 h46 =>
  (by kernel_rfl))))))
  (sK
  (sK
  (by kernel_rfl)))
  (by kernel_rfl))))
theorem xm100_3 (h : Hp) : opsP (xX s 100 wl k false) xg100_1 21 m0 ac (runK (xX s 100 wl k false) (bodyK s.P Tryz.f100) xk100_0) ⟨[t0,t1,t2,t3,t4,t5,t6,t7,t8,t9,ta,tb,tc,td,te,tf,tg,th,ti,tj,tk,tl,tm,tn,tp,tq,tr,ts,tt,tu,tv,tw,tx,ty,tz,tA,tB,tC,tD,tE,tF,tG,tH],h⟩ =
  bm (vPick ty tB (V.lit (Value.bool false))) h fun v47 h48 =>
  gd v47 (
  bm (vFieldAddr s.P 30 t5 1) h48 fun v49 h50 =>
  bm (vLoad s.P 3 v49 h50) h50 fun v51 h52 =>
  bm (vBin s.P .leq 3 v51 (V.lit (Value.int .i64 2))) h52 fun v53 h54 =>
  opsP (xX s 100 wl k false) xg100_1 26 m0 ac (runK (xX s 100 wl k false) (bodyK s.P Tryz.f100) xk100_0) ⟨[t0,t1,t2,t3,t4,t5,t6,t7,t8,t9,ta,tb,tc,td,te,tf,tg,th,ti,tj,tk,tl,tm,tn,tp,tq,tr,ts,tt,tu,tv,tw,tx,ty,tz,tA,tB,v47,(V.lit (Value.bool true)),v49,v51,v53,tH],h54⟩) (
  opsP (xX s 100 wl k false) xg100_1 26 m0 ac (runK (xX s 100 wl k false) (bodyK s.P Tryz.f100) xk100_0) ⟨[t0,t1,t2,t3,t4,t5,t6,t7,t8,t9,ta,tb,tc,td,te,tf,tg,th,ti,tj,tk,tl,tm,tn,tp,tq,tr,ts,tt,tu,tv,tw,tx,ty,tz,tA,tB,v47,(V.lit (Value.bool false)),uu,uu,uu,tH],h48⟩) (
  opsP (xX s 100 wl k false) xg100_1 24 m0 ac (runK (xX s 100 wl k false) (bodyK s.P Tryz.f100) xk100_0) ⟨[t0,t1,t2,t3,t4,t5,t6,t7,t8,t9,ta,tb,tc,td,te,tf,tg,th,ti,tj,tk,tl,tm,tn,tp,tq,tr,ts,tt,tu,tv,tw,tx,ty,tz,tA,tB,v47,v47,uu,tF,tG,tH],h48⟩) :=
  (pM fun v47 h48 =>
  (pI v47 h48
  (go_gdT0 rfl rfl rfl (by kernel_rfl)
  (st_bm (by kernel_rfl) fun v49 h50 =>
  (rN (st_bm (by kernel_rfl) fun v51 h52 =>
  (rN (st_bm (by kernel_rfl) fun v53 h54 =>
  (by kernel_rfl))))))
  (sK
  (sK
  (by kernel_rfl)))
  (by kernel_rfl))))
theorem xm100_4 (h : Hp) : opsP (xX s 100 wl k false) xg100_1 26 m0 ac (runK (xX s 100 wl k false) (bodyK s.P Tryz.f100) xk100_0) ⟨[t0,t1,t2,t3,t4,t5,t6,t7,t8,t9,ta,tb,tc,td,te,tf,tg,th,ti,tj,tk,tl,tm,tn,tp,tq,tr,ts,tt,tu,tv,tw,tx,ty,tz,tA,tB,tC,tD,tE,tF,tG,tH],h⟩ =
  bm (vPick tD tG (V.lit (Value.bool false))) h fun v55 h56 =>
  some (v55,h56) :=
  (pM fun v55 h56 =>
  (pI v55 h56
  (eN
  (go_ret (by kernel_rfl)))))
theorem xk100_0_ret (cx : Cx) (K : Out → St → Option (V × Hp)) (s : St) : runK cx K xk100_0 .ret s = K .ret s := by kernel_rfl
-- names: xb100,xm100_0,xm100_1,xm100_2,xm100_3,xm100_4,xk100_0_ret

theorem xb101 (h : Hp) : bodyV (xX s 101 wl k false) Tryz.f101 [] h =
  bp (some (.map h.length,h ++ [.map []])) fun v1 h2 =>
  bs (vInsert s.P wl 116 v1 (V.lit (Value.int .i64 6)) (.fn (.func 131) [] []) h2) fun h3 =>
  bs (vInsert s.P wl 116 v1 (V.lit (Value.int .i64 7)) (.fn (.func 133) [] []) h3) fun h4 =>
  some (v1,h4) :=
  bodyV_run rfl (go_seq (go_reg0
  (go_op0 rfl rfl (st_id (v := (constV (Value.map none))) (H := h) (by kernel_rfl)
  (eN
  (go_seq (go_reg0
  (pP fun v1 h2 =>
  (pS fun h3 =>
  (pS fun h4 =>
  (pI v1 h4
  (pI v1 h4
  (eN
  (go_ret (by kernel_rfl)))))))))))))))
theorem xe101 (k wl : Nat) (h : Hp) : evF Tryz.prog xM (k + 1) wl 101 [] h = bodyV (xX (xS k) 101 wl k false) Tryz.f101 [] h := by kernel_rfl
-- names: xb101,

theorem xb103 (h : Hp) : bodyV (xX s 103 wl k false) Tryz.f103 [t0] h =
  bm (vBin s.P .and 28 t0 (V.lit (Value.int .u64 65535))) h fun v1 h2 =>
  some (v1,h2) :=
  bodyV_run rfl (go_seq (go_reg0
  (go_op0 rfl rfl (st_id (v := (V.lit (Value.int .u64 0))) (H := h) (by kernel_rfl)
  (eN
  (go_seq (go_reg0
  (pI t0 h
  (pM fun v1 h2 =>
  (pI v1 h2
  (eN
  (go_ret (by kernel_rfl)))))))))))))
theorem xe103 (k wl : Nat) (h : Hp) : evF Tryz.prog xM (k + 1) wl 103 [t0] h = bodyV (xX (xS k) 103 wl k false) Tryz.f103 [t0] h := by kernel_rfl
-- names: xb103,
noncomputable def xl105_0 : Code := codeAt (bodyOf Tryz.f105) [1,0,1,0,0]
noncomputable def xk105_0 : List Fr := [.block 0,.seq (codeAt (bodyOf Tryz.f105) [1,1])]
theorem xb105 (h : Hp) : bodyV (xX s 105 wl k false) Tryz.f105 [t0,t1,t2] h =
  bp (opBox t0 h) fun v1 h2 =>
  bp (some (.own h2.length 0 0,h2 ++ [.rows 0 [] 0 true])) fun v3 h4 =>
  bp (opLen s.P 65 t2 h4) fun v5 h6 =>
  itX (xX s 105 wl k false) xl105_0 h6.length (runK (xX s 105 wl k false) (bodyK s.P Tryz.f105) xk105_0) k ⟨[(V.kill h6.length t0),(V.kill h6.length t1),(V.kill h6.length t2),(V.kill h6.length v1),(V.kill h6.length uu),(V.kill h6.length uu),(V.kill h6.length v3),(V.kill h6.length uu),(V.kill h6.length uu),(V.kill h6.length t2),(V.kill h6.length v5),(V.lit (Value.int .i64 0)),.junk,.junk,.junk,.junk,.junk,.junk,.junk,.junk,.junk,(V.kill h6.length uu)],cutH h6.length h6⟩ :=
  bodyV_run rfl (go_seq (go_reg0
  (pP fun v1 h2 =>
  (pP fun v3 h4 =>
  (eN
  (go_seq (go_seq (go_reg0
  (pI t2 h4
  (pP fun v5 h6 =>
  (go_op0 rfl rfl (st_id (v := (V.lit (Value.int .i64 0))) (H := h6) (by kernel_rfl)
  (eN
  (go_block (by kernel_rfl)))))))))))))))
theorem xe105 (k wl : Nat) (h : Hp) : evF Tryz.prog xM (k + 1) wl 105 [t0,t1,t2] h = bodyV (xX (xS k) 105 wl k false) Tryz.f105 [t0,t1,t2] h := by kernel_rfl
theorem xz105 (P : Program) (h : Hp) : bodyK P Tryz.f105 .ret ⟨[t0,t1,t2,t3,t4,t5,t6,t7,t8,t9,ta,tb,tc,td,te,tf,tg,th,ti,tj,tk,tl],h⟩ = some (t6,h) := by kernel_rfl
theorem xr105_0 (s : Sys) (K : Out → St → Option (V × Hp)) (k wl : Nat) (rd : Bool) (n n0 : Nat) (h : Hp) : itX (xX s 105 wl k rd) xl105_0 n0 K (n + 1) ⟨[t0,t1,t2,t3,t4,t5,t6,t7,t8,t9,ta,tb,tc,td,te,tf,tg,th,ti,tj,tk,tl],h⟩ =
  bm (vBin s.P .lss 3 tb ta) h fun v7 h8 =>
  cnd v7 (
  bm (vIndexAddr s.P 65 t9 tb h8) h8 fun v9 h10 =>
  bm (vLoad s.P 3 v9 h10) h10 fun v11 h12 =>
  bm (vLoad s.P 23 t3 h12) h12 fun v13 h14 =>
  bp (callV (xX s 105 wl k rd) false true (.fn (.func 130) [] []) [v13,v11] h14) fun v15 h16 =>
  bp (callV (xX s 105 wl k rd) false true (.fn (.func 112) [] []) [t1,v15,(V.lit (Value.int .u64 1))] h16) fun v17 h18 =>
  bm (vBin s.P .add 3 tb (V.lit (Value.int .i64 1))) h18 fun v19 h20 =>
  itX (xX s 105 wl k rd) xl105_0 n0 K n ⟨[(V.kill n0 t0),(V.kill n0 v17),(V.kill n0 t2),(V.kill n0 t3),(V.kill n0 t4),(V.kill n0 t5),(V.kill n0 t6),(V.kill n0 t7),(V.kill n0 v11),(V.kill n0 t9),(V.kill n0 ta),(V.kill n0 v19),.junk,.junk,.junk,.junk,.junk,.junk,.junk,.junk,.junk,(V.kill n0 tl)],cutH n0 h20⟩) (
  K (.exit 0) ⟨[(V.kill n0 t0),(V.kill n0 t1),(V.kill n0 t2),(V.kill n0 t3),(V.kill n0 t4),(V.kill n0 t5),(V.kill n0 t6),(V.kill n0 t7),(V.kill n0 t8),(V.kill n0 t9),(V.kill n0 ta),.junk,.junk,.junk,.junk,.junk,.junk,.junk,.junk,.junk,.junk,(V.kill n0 tl)],cutH n0 h8⟩) :=
  itX_step (go_seq (go_reg0
  (pM fun v7 h8 =>
  (eN
  (go_seq (go_cond (by kernel_rfl)
  (go_skip (go_seq (go_block (go_seq (go_reg0
  (pM fun v9 h10 =>
  (pM fun v11 h12 =>
  (pI v11 h12
  (eN
  (go_reg0
  (pI t1 h12
  (pM fun v13 h14 =>
  (pI v11 h14
  (pP fun v15 h16 =>
  (pP fun v17 h18 =>
  (pI v17 h18
  (eN
  (rt_block_norm (go_reg0
  (pM fun v19 h20 =>
  (pI v19 h20
  (eN
  (by kernel_rfl)))))))))))))))))))))))
  (go_exit (rt_seq_exit (by kernel_rfl)))))))))
theorem xj105_0 (h : Hp) : runK (xX s 105 wl k false) (bodyK s.P Tryz.f105) xk105_0 (.exit 0) ⟨[t0,t1,t2,t3,t4,t5,t6,t7,t8,t9,ta,tb,tc,td,te,tf,tg,th,ti,tj,tk,tl],h⟩ =
  some (t1,h) :=
  (rt_block_eq (go_seq (go_reg0
  (pI t1 h
  (pI t1 h
  (eN
  (go_ret (by kernel_rfl))))))))
theorem xk105_0_ret (cx : Cx) (K : Out → St → Option (V × Hp)) (s : St) : runK cx K xk105_0 .ret s = K .ret s := by kernel_rfl
-- names: xb105,xz105,xr105_0,xj105_0,xk105_0_ret
noncomputable def xq106_0 : Code := codeAt (bodyOf Tryz.f106) [1,0,1,0]
noncomputable def xl106_0 : Code := codeAt (bodyOf Tryz.f106) [1,0,1,0,0]
noncomputable def xl106_1 : Code := codeAt (bodyOf Tryz.f106) [1,0,1,0,1]
noncomputable def xk106_0 : List Fr := [.block 0,.seq (codeAt (bodyOf Tryz.f106) [1,1])]
theorem xq106_0_eq : xq106_0 = .rangeFunc (.tmp 5) #[6] xl106_0 xl106_1 := by kernel_rfl
theorem xb106 (h : Hp) : bodyV (xX s 106 wl k false) Tryz.f106 [t0] h =
  bp (opAlloc s.P 3 h) fun v1 h2 =>
  bp (callV (xX s 106 wl k false) false true (.fn (.func 136) [] []) [t0] h2) fun v3 h4 =>
  execK (xX s 106 wl k false) xq106_0 none (runK (xX s 106 wl k false) (bodyK s.P Tryz.f106) xk106_0) ⟨[t0,uu,v1,uu,t0,v3,uu,uu],h4⟩ :=
  bodyV_run rfl (go_seq (go_reg0
  (pP fun v1 h2 =>
  (eN
  (go_seq (go_seq (go_reg0
  (pI t0 h2
  (pP fun v3 h4 =>
  (eN
  (go_block (by kernel_rfl))))))))))))
theorem xe106 (k wl : Nat) (h : Hp) : evF Tryz.prog xM (k + 1) wl 106 [t0] h = bodyV (xX (xS k) 106 wl k false) Tryz.f106 [t0] h := by kernel_rfl
theorem xz106 (P : Program) (h : Hp) : bodyK P Tryz.f106 .ret ⟨[t0,t1,t2,t3,t4,t5,t6,t7],h⟩ = resO [vLoad P 3 t2 h] h := by kernel_rfl
theorem xj106_0 (s : Sys) (k wl : Nat) (zz : List V) (h : Hp) : runK (xX s 106 wl k false) (bodyK s.P Tryz.f106) xk106_0 .norm ⟨(t0::t1::t2::zz),h⟩ =
  bs (vStore s.P wl 3 t2 (V.lit (Value.int .i64 (-1))) h) fun h5 =>
  resO [vLoad s.P 3 t2 h5] h5 :=
  (rt_block_norm (go_seq (go_reg0
  (pS fun h5 =>
  (eN
  (go_ret (by kernel_rfl)))))))
theorem xq106_1_0_1_0_1 (s : Sys) (K : Out → St → Option (V × Hp)) (k wl : Nat) (rd : Bool) (h : Hp) : runK (xX s 106 wl k rd) K [.seq xl106_1] .norm ⟨[t0,t1,t2,t3,t4,t5,t6,t7],h⟩ =
  bs (vStore s.P wl 3 t2 t3 h) fun h6 =>
  K .ret ⟨[t0,t1,t2,t3,t4,t5,t6,t3],h6⟩ :=
  (go_block (go_seq (go_reg0
  (pI t3 h
  (pS fun h6 =>
  (eN
  (go_ret (rt_block_ret (by kernel_rfl)))))))))
theorem xq106_1_0_1_0_0 (s : Sys) (K : Out → St → Option (V × Hp)) (k wl : Nat) (rd : Bool) (h : Hp) : runK (xX s 106 wl k rd) K [.seq xl106_0] .norm ⟨[t0,t1,t2,t3,t4,t5,t6,t7],h⟩ =
  K .norm ⟨[t0,t1,t2,t6,t4,t5,t6,t7],h⟩ :=
  (go_reg0
  (pI t6 h
  (eN
  (by kernel_rfl))))
theorem xk106_0_ret (cx : Cx) (K : Out → St → Option (V × Hp)) (s : St) : runK cx K xk106_0 .ret s = K .ret s := by kernel_rfl
-- names: xb106,xz106,xj106_0,xq106_1_0_1_0_1,xq106_1_0_1_0_0,xk106_0_ret
-- range over a function at [1,0,1,0]

theorem xb128 (h : Hp) : bodyV (xX s 128 wl k false) Tryz.f128 [t0] h =
  bm (vBin s.P .shr 28 t0 (V.lit (Value.int .u64 16))) h fun v1 h2 =>
  some (v1,h2) :=
  bodyV_run rfl (go_seq (go_reg0
  (go_op0 rfl rfl (st_id (v := (V.lit (Value.int .u64 0))) (H := h) (by kernel_rfl)
  (eN
  (go_seq (go_reg0
  (pI t0 h
  (pM fun v1 h2 =>
  (pI v1 h2
  (eN
  (go_ret (by kernel_rfl)))))))))))))
theorem xe128 (k wl : Nat) (h : Hp) : evF Tryz.prog xM (k + 1) wl 128 [t0] h = bodyV (xX (xS k) 128 wl k false) Tryz.f128 [t0] h := by kernel_rfl
-- names: xb128,
noncomputable def xg129_0 : Code := codeAt (bodyOf Tryz.f129) [1,0,0]
noncomputable def xk129_0 : List Fr := [.seq (codeAt (bodyOf Tryz.f129) [1,0,1]),.seq (codeAt (bodyOf Tryz.f129) [1,1])]
theorem xb129 (h : Hp) : bodyV (xX s 129 wl k false) Tryz.f129 [t0,t1] h =
  bm (vBin s.P .lss 3 t1 (V.lit (Value.int .i64 0))) h fun v1 h2 =>
  gd v1 (
  opsP (xX s 129 wl k false) xg129_0 5 h.length ([],[]) (runK (xX s 129 wl k false) (bodyK s.P Tryz.f129) xk129_0) ⟨[t0,t1,uu,uu,(V.lit (Value.int .u64 0)),t1,v1,(V.lit (Value.bool true)),uu,uu,uu,uu,uu,uu,uu,uu],h2⟩) (
  bm (vBin s.P .geq 3 t1 (V.lit (Value.int .i64 16))) h2 fun v3 h4 =>
  opsP (xX s 129 wl k false) xg129_0 5 h.length ([],[]) (runK (xX s 129 wl k false) (bodyK s.P Tryz.f129) xk129_0) ⟨[t0,t1,uu,uu,(V.lit (Value.int .u64 0)),t1,v1,(V.lit (Value.bool false)),t1,v3,uu,uu,uu,uu,uu,uu],h4⟩) (
  opsP (xX s 129 wl k false) xg129_0 4 h.length ([],[]) (runK (xX s 129 wl k false) (bodyK s.P Tryz.f129) xk129_0) ⟨[t0,t1,uu,uu,(V.lit (Value.int .u64 0)),t1,v1,v1,uu,uu,uu,uu,uu,uu,uu,uu],h2⟩) :=
  bodyV_run rfl (go_seq (go_reg0
  (go_op0 rfl rfl (st_id (v := (V.lit (Value.int .u64 0))) (H := h) (by kernel_rfl)
  (eN
  (go_seq (go_seq (go_reg0
  (pI t1 h
  (pM fun v1 h2 =>
  (pI v1 h2
  (go_gdF0 rfl rfl rfl (by kernel_rfl)
  (sK
  (by kernel_rfl))
  (st_id (v := t1) (H := h2) (by kernel_rfl)
  (rN (st_bm (by kernel_rfl) fun v3 h4 =>
  (by kernel_rfl))))
  (by kernel_rfl)))))))))))))
theorem xe129 (k wl : Nat) (h : Hp) : evF Tryz.prog xM (k + 1) wl 129 [t0,t1] h = bodyV (xX (xS k) 129 wl k false) Tryz.f129 [t0,t1] h := by kernel_rfl
theorem xm129_0 (h : Hp) : opsP (xX s 129 wl k false) xg129_0 5 m0 ac (runK (xX s 129 wl k false) (bodyK s.P Tryz.f129) xk129_0) ⟨[t0,t1,t2,t3,t4,t5,t6,t7,t8,t9,ta,tb,tc,td,te,tf],h⟩ =
  bm (vPick t7 (V.lit (Value.bool true)) t9) h fun v5 h6 =>
  cnd v5 (
  some (t0,h6)) (
  bm (vBin s.P .shl 28 (V.lit (Value.int .u64 1)) t1) h6 fun v7 h8 =>
  bm (vBin s.P .or 28 t0 v7) h8 fun v9 h10 =>
  some (v9,h10)) :=
  (pM fun v5 h6 =>
  (eN
  (go_cond (by kernel_rfl)
  (go_seq (go_reg0
  (pI t0 h6
  (pI t0 h6
  (eN
  (go_ret (rt_seq_ret (by kernel_rfl))))))))
  (go_skip (go_seq (go_reg0
  (pI t0 h6
  (pI t1 h6
  (pM fun v7 h8 =>
  (pM fun v9 h10 =>
  (pI v9 h10
  (eN
  (go_ret (by kernel_rfl))))))))))))))
theorem xk129_0_ret (cx : Cx) (K : Out → St → Option (V × Hp)) (s : St) : runK cx K xk129_0 .ret s = K .ret s := by kernel_rfl
-- names: xb129,xm129_0,xk129_0_ret

theorem xb131 (h : Hp) : bodyV (xX s 131 wl k false) Tryz.f131 [t0] h =
  bp (callV (xX s 131 wl k false) false true (.fn (.func 132) [] []) [t0] h) fun v1 h2 =>
  bm (vExtract v1 0) h2 fun v3 h4 =>
  bm (vExtract v1 1) h4 fun v5 h6 =>
  bm (vMinMax true [v5,(V.lit (Value.int .i64 0))]) h6 fun v7 h8 =>
  bm (vConv s.P 3 28 v7) h8 fun v9 h10 =>
  some (.tup [v3,v9],h10) :=
  bodyV_run rfl (go_seq (go_reg0
  (go_op0 rfl rfl (st_id (v := (V.lit (Value.int .u64 0))) (H := h) (by kernel_rfl)
  (go_op0 rfl rfl (st_id (v := (V.lit (Value.int .u64 0))) (H := h) (by kernel_rfl)
  (eN
  (go_seq (go_reg0
  (pI t0 h
  (pP fun v1 h2 =>
  (pI v1 h2
  (pM fun v3 h4 =>
  (pM fun v5 h6 =>
  (pI v3 h6
  (pI v5 h6
  (eN
  (go_seq (go_reg0
  (pI v3 h6
  (pI v5 h6
  (pM fun v7 h8 =>
  (pM fun v9 h10 =>
  (pI v3 h10
  (pI v9 h10
  (eN
  (go_ret (by kernel_rfl))))))))))))))))))))))))))))
theorem xe131 (k wl : Nat) (h : Hp) : evF Tryz.prog xM (k + 1) wl 131 [t0] h = bodyV (xX (xS k) 131 wl k false) Tryz.f131 [t0] h := by kernel_rfl
-- names: xb131,

theorem xb132 (h : Hp) : bodyV (xX s 132 wl k false) Tryz.f132 [t0] h =
  bp (callV (xX s 132 wl k false) false true (.fn (.func 103) [] []) [t0] h) fun v1 h2 =>
  bp (callV (xX s 132 wl k false) false true (.fn (.func 128) [] []) [t0] h2) fun v3 h4 =>
  bm (vBin s.P .add 28 v3 (V.lit (Value.int .u64 1))) h4 fun v5 h6 =>
  bm (vBin s.P .sub 28 v1 (V.lit (Value.int .u64 1))) h6 fun v7 h8 =>
  bm (vBin s.P .and 28 v1 v7) h8 fun v9 h10 =>
  bp (callV (xX s 132 wl k false) false true (.fn (.func 144) [] []) [v5,v9] h10) fun v11 h12 =>
  bp (callV (xX s 132 wl k false) false true (.fn (.func 106) [] []) [v1] h12) fun v13 h14 =>
  some (.tup [v11,v13],h14) :=
  bodyV_run rfl (go_seq (go_reg0
  (go_op0 rfl rfl (st_id (v := (V.lit (Value.int .u64 0))) (H := h) (by kernel_rfl)
  (go_op0 rfl rfl (st_id (v := (V.lit (Value.int .i64 0))) (H := h) (by kernel_rfl)
  (eN
  (go_seq (go_reg0
  (pI t0 h
  (pP fun v1 h2 =>
  (pI v1 h2
  (eN
  (go_seq (go_reg0
  (pI t0 h2
  (pP fun v3 h4 =>
  (pM fun v5 h6 =>
  (pI v1 h6
  (pI v1 h6
  (pM fun v7 h8 =>
  (pM fun v9 h10 =>
  (pP fun v11 h12 =>
  (pI v1 h12
  (pP fun v13 h14 =>
  (pI v11 h14
  (pI v13 h14
  (eN
  (go_ret (by kernel_rfl))))))))))))))))))))))))))))))
theorem xe132 (k wl : Nat) (h : Hp) : evF Tryz.prog xM (k + 1) wl 132 [t0] h = bodyV (xX (xS k) 132 wl k false) Tryz.f132 [t0] h := by kernel_rfl
-- names: xb132,

theorem xb133 (h : Hp) : bodyV (xX s 133 wl k false) Tryz.f133 [t0] h =
  bp (callV (xX s 133 wl k false) false true (.fn (.func 134) [] []) [t0] h) fun v1 h2 =>
  bp (callV (xX s 133 wl k false) false true (.fn (.func 103) [] []) [t0] h2) fun v3 h4 =>
  some (.tup [v1,v3],h4) :=
  bodyV_run rfl (go_seq (go_reg0
  (go_op0 rfl rfl (st_id (v := (V.lit (Value.int .u64 0))) (H := h) (by kernel_rfl)
  (go_op0 rfl rfl (st_id (v := (V.lit (Value.int .u64 0))) (H := h) (by kernel_rfl)
  (eN
  (go_seq (go_reg0
  (pI t0 h
  (pP fun v1 h2 =>
  (pI t0 h2
  (pP fun v3 h4 =>
  (pI v1 h4
  (pI v3 h4
  (eN
  (go_ret (by kernel_rfl))))))))))))))))))
theorem xe133 (k wl : Nat) (h : Hp) : evF Tryz.prog xM (k + 1) wl 133 [t0] h = bodyV (xX (xS k) 133 wl k false) Tryz.f133 [t0] h := by kernel_rfl
-- names: xb133,

theorem xb134 (h : Hp) : bodyV (xX s 134 wl k false) Tryz.f134 [t0] h =
  bp (callV (xX s 134 wl k false) false true (.fn (.func 128) [] []) [t0] h) fun v1 h2 =>
  bm (vBin s.P .add 28 v1 (V.lit (Value.int .u64 1))) h2 fun v3 h4 =>
  bp (callV (xX s 134 wl k false) false true (.fn (.func 144) [] []) [v3,(V.lit (Value.int .u64 0))] h4) fun v5 h6 =>
  some (v5,h6) :=
  bodyV_run rfl (go_seq (go_reg0
  (go_op0 rfl rfl (st_id (v := (V.lit (Value.int .u64 0))) (H := h) (by kernel_rfl)
  (eN
  (go_seq (go_reg0
  (pI t0 h
  (pP fun v1 h2 =>
  (pM fun v3 h4 =>
  (pP fun v5 h6 =>
  (pI v5 h6
  (eN
  (go_ret (by kernel_rfl)))))))))))))))
theorem xe134 (k wl : Nat) (h : Hp) : evF Tryz.prog xM (k + 1) wl 134 [t0] h = bodyV (xX (xS k) 134 wl k false) Tryz.f134 [t0] h := by kernel_rfl
-- names: xb134,

theorem xb136 (h : Hp) : bodyV (xX s 136 wl k false) Tryz.f136 [t0] h =
  bp (opBox t0 h) fun v1 h2 =>
  some ((.fn (.func 145) [] [v1]),h2) :=
  bodyV_run rfl (go_seq (go_reg0
  (pP fun v1 h2 =>
  (go_op0 rfl rfl (st_id (v := (constV Value.nilFunc)) (H := h2) (by kernel_rfl)
  (eN
  (go_seq (go_reg0
  (go_op0 rfl rfl (st_id (v := (.fn (.func 145) [] [v1])) (H := h2) (by kernel_rfl)
  (go_op0 rfl rfl (st_id (v := (.fn (.func 145) [] [v1])) (H := h2) (by kernel_rfl)
  (eN
  (go_ret (by kernel_rfl)))))))))))))))
theorem xe136 (k wl : Nat) (h : Hp) : evF Tryz.prog xM (k + 1) wl 136 [t0] h = bodyV (xX (xS k) 136 wl k false) Tryz.f136 [t0] h := by kernel_rfl
-- names: xb136,

theorem xb144 (h : Hp) : bodyV (xX s 144 wl k false) Tryz.f144 [t0,t1] h =
  bm (vBin s.P .shl 28 t0 (V.lit (Value.int .u64 16))) h fun v1 h2 =>
  bm (vBin s.P .and 28 t1 (V.lit (Value.int .u64 65535))) h2 fun v3 h4 =>
  bm (vBin s.P .or 28 v1 v3) h4 fun v5 h6 =>
  some (v5,h6) :=
  bodyV_run rfl (go_seq (go_reg0
  (go_op0 rfl rfl (st_id (v := (V.lit (Value.int .u64 0))) (H := h) (by kernel_rfl)
  (eN
  (go_seq (go_reg0
  (pI t0 h
  (pM fun v1 h2 =>
  (pI t1 h2
  (pM fun v3 h4 =>
  (pM fun v5 h6 =>
  (pI v5 h6
  (eN
  (go_ret (by kernel_rfl))))))))))))))))
theorem xe144 (k wl : Nat) (h : Hp) : evF Tryz.prog xM (k + 1) wl 144 [t0,t1] h = bodyV (xX (xS k) 144 wl k false) Tryz.f144 [t0,t1] h := by kernel_rfl
-- names: xb144,
noncomputable def xl145_0 : Code := codeAt (bodyOf Tryz.f145) [1,0,0]
noncomputable def xk145_0 : List Fr := [.block 0]
noncomputable def xg145_0 : Code := codeAt (bodyOf Tryz.f145) [1,0,0,1,1,0,0,1,0]
noncomputable def xk145_1 : List Fr := [.seq (codeAt (bodyOf Tryz.f145) [1,0,0,1,1,0,0,1,1]),.block 1,.seq (codeAt (bodyOf Tryz.f145) [1,0,0,1,1,1])]
theorem xb145 (h : Hp) : bodyV (xX s 145 wl k false) Tryz.f145 [t0,t1] h =
  itX (xX s 145 wl k false) xl145_0 h.length (runK (xX s 145 wl k false) (bodyK s.P Tryz.f145) xk145_0) k ⟨[(V.kill h.length t0),(V.kill h.length t1),(V.kill h.length uu),(V.kill h.length uu),(V.lit (Value.int .i64 0)),.junk,.junk,.junk,.junk,.junk,.junk,.junk,.junk,.junk,.junk,.junk,.junk,.junk,.junk],cutH h.length h⟩ :=
  bodyV_run rfl (go_seq (go_reg0
  (go_op0 rfl rfl (st_id (v := (V.lit (Value.int .i64 0))) (H := h) (by kernel_rfl)
  (eN
  (go_block (by kernel_rfl)))))))
theorem xe145 (k wl : Nat) (h : Hp) : evF Tryz.prog xM (k + 1) wl 145 [t0,t1] h = bodyV (xX (xS k) 145 wl k false) Tryz.f145 [t0,t1] h := by kernel_rfl
theorem xz145 (P : Program) (h : Hp) : bodyK P Tryz.f145 .ret ⟨[t0,t1,t2,t3,t4,t5,t6,t7,t8,t9,ta,tb,tc,td,te,tf,tg,th,ti],h⟩ = some (.tup [],h) := by kernel_rfl
theorem xr145_0 (s : Sys) (K : Out → St → Option (V × Hp)) (k wl : Nat) (rd : Bool) (n n0 : Nat) (h : Hp) : itX (xX s 145 wl k rd) xl145_0 n0 K (n + 1) ⟨[t0,t1,t2,t3,t4,t5,t6,t7,t8,t9,ta,tb,tc,td,te,tf,tg,th,ti],h⟩ =
  bm (vBin s.P .lss 3 t4 (V.lit (Value.int .i64 16))) h fun v1 h2 =>
  cnd v1 (
  bm (vLoad s.P 28 t1 h2) h2 fun v3 h4 =>
  bm (vBin s.P .shr 28 v3 t4) h4 fun v5 h6 =>
  bm (vBin s.P .and 28 v5 (V.lit (Value.int .u64 1))) h6 fun v7 h8 =>
  bm (vBin s.P .eql 28 v7 (V.lit (Value.int .u64 1))) h8 fun v9 h10 =>
  gd v9 (
  bp (callV (xX s 145 wl k rd) false true t0 [t4] h10) fun v11 h12 =>
  bm (vUn .not v11) h12 fun v13 h14 =>
  opsP (xX s 145 wl k rd) xg145_0 10 h2.length ([],[]) (runK (xX s 145 wl k rd) (nextK (xX s 145 wl k rd) xl145_0 n0 K n) xk145_1) ⟨[t0,t1,t2,t4,t4,v1,t4,v3,t4,v5,v7,v9,(V.lit (Value.bool true)),t0,t4,v11,v13,th,ti],h14⟩) (
  opsP (xX s 145 wl k rd) xg145_0 10 h2.length ([],[]) (runK (xX s 145 wl k rd) (nextK (xX s 145 wl k rd) xl145_0 n0 K n) xk145_1) ⟨[t0,t1,t2,t4,t4,v1,t4,v3,t4,v5,v7,v9,(V.lit (Value.bool false)),uu,uu,uu,uu,th,ti],h10⟩) (
  opsP (xX s 145 wl k rd) xg145_0 7 h2.length ([],[]) (runK (xX s 145 wl k rd) (nextK (xX s 145 wl k rd) xl145_0 n0 K n) xk145_1) ⟨[t0,t1,t2,t4,t4,v1,t4,v3,t4,v5,v7,v9,v9,uu,te,tf,tg,th,ti],h10⟩)) (
  K (.exit 0) ⟨[(V.kill n0 t0),(V.kill n0 t1),(V.kill n0 t2),(V.kill n0 t3),.junk,.junk,.junk,.junk,.junk,.junk,.junk,.junk,.junk,.junk,.junk,.junk,.junk,.junk,.junk],cutH n0 h2⟩) :=
  itX_step (go_seq (go_reg0
  (pM fun v1 h2 =>
  (eN
  (go_seq (go_cond (by kernel_rfl)
  (go_skip (go_seq (go_block (go_seq (go_reg0
  (pI t4 h2
  (pI t4 h2
  (eN
  (go_seq (go_reg0
  (pM fun v3 h4 =>
  (pI t4 h4
  (pM fun v5 h6 =>
  (pM fun v7 h8 =>
  (pM fun v9 h10 =>
  (pI v9 h10
  (go_gdT0 rfl rfl rfl (by kernel_rfl)
  (st_id (v := t0) (H := h10) (by kernel_rfl)
  (rN (st_id (v := t4) (H := h10) (by kernel_rfl)
  (rN (st_bp (by kernel_rfl) fun v11 h12 =>
  (rN (st_bm (by kernel_rfl) fun v13 h14 =>
  (by kernel_rfl))))))))
  (sK
  (sK
  (sK
  (by kernel_rfl))))
  (by kernel_rfl))))))))))))))))))
  (go_exit (rt_seq_exit (by kernel_rfl)))))))))
theorem xj145_0 (s : Sys) (k wl : Nat) (zz : List V) (h : Hp) : runK (xX s 145 wl k false) (bodyK s.P Tryz.f145) xk145_0 (.exit 0) ⟨(t0::zz),h⟩ =
  some (.tup [],h) :=
  (rt_block_eq (by kernel_rfl))
theorem xm145_1 (s : Sys) (K : Out → St → Option (V × Hp)) (k wl : Nat) (rd : Bool) (n n0 : Nat) (m0 : Nat) (ac : List Nat × List Nat) (h : Hp) : opsP (xX s 145 wl k rd) xg145_0 10 m0 ac (runK (xX s 145 wl k rd) (nextK (xX s 145 wl k rd) xl145_0 n0 K n) xk145_1) ⟨[t0,t1,t2,t3,t4,t5,t6,t7,t8,t9,ta,tb,tc,td,te,tf,tg,th,ti],h⟩ =
  bm (vPick tc tg (V.lit (Value.bool false))) h fun v15 h16 =>
  cnd v15 (
  K .ret ⟨[t0,t1,t2,t3,t4,t5,t6,t7,t8,t9,ta,tb,tc,td,te,tf,tg,v15,ti],h16⟩) (
  bm (vBin s.P .add 3 t4 (V.lit (Value.int .i64 1))) h16 fun v17 h18 =>
  itX (xX s 145 wl k rd) xl145_0 n0 K n ⟨[(V.kill n0 t0),(V.kill n0 t1),(V.kill n0 t2),(V.kill n0 t3),(V.kill n0 v17),.junk,.junk,.junk,.junk,.junk,.junk,.junk,.junk,.junk,.junk,.junk,.junk,.junk,.junk],cutH n0 h18⟩) :=
  (pM fun v15 h16 =>
  (eN
  (go_cond (by kernel_rfl)
  (go_ret (rt_block_ret (rt_seq_ret (by kernel_rfl))))
  (go_skip (rt_block_norm (go_reg0
  (pM fun v17 h18 =>
  (pI v17 h18
  (eN
  (by kernel_rfl))))))))))
theorem xk145_0_ret (cx : Cx) (K : Out → St → Option (V × Hp)) (s : St) : runK cx K xk145_0 .ret s = K .ret s := by kernel_rfl
theorem xk145_1_ret (cx : Cx) (K : Out → St → Option (V × Hp)) (s : St) : runK cx K xk145_1 .ret s = K .ret s := by kernel_rfl
-- names: xb145,xz145,xr145_0,xj145_0,xm145_1,xk145_0_ret,xk145_1_ret
end Go.Ab
