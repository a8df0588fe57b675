/- The program's code,point by point: printed by gen.py. -/
import Derived.Test.YtcmdnjaenhbdpaaGreatR5Seat
import Derived.Test.YtcmdnjaenhbdpaaGreatAbLibC
set_option linter.unusedVariables false
set_option linter.unusedSimpArgs false
set_option maxRecDepth 100000
set_option linter.unusedVariables false
namespace Go.Ab
open Go.Proofs
variable (s : Sys) (k wl : Nat) (m0 : Nat) (ac : List Nat × List Nat) (t0 t1 t2 t3 t4 t5 t6 t7 t8 t9 ta tb tc td te tf tg th ti tj tk tl tm tn tp tq tr ts tt tu tv tw tx ty tz tA tB tC tD tE tF tG tH tI tJ tK tL tM tN tO tP tQ tR tS tT tU tV tW tX tY tZ q0 q1 q2 q3 q4 q5 q6 q7 q8 q9 qa qb qc qd qe qf qg qh qi qj qk ql qm qn qo qp qq qr qs qt qu qv qw qx qy qz qA qB qC qD qE qF qG qH qJ qK qL qN qO qQ qR qT qU qV qW qX qY qZ z0 z1 z2 z3 z4 z5 z6 z7 z8 z9 za zb zc zd ze zf zg zh zi zj zk : V)
noncomputable def xg10_0 : Code := codeAt (bodyOf Tryz.f10) [1,0]
noncomputable def xg10_1 : Code := codeAt (bodyOf Tryz.f10) [1,1,1,0,1,0,0]
noncomputable def xg10_2 : Code := codeAt (bodyOf Tryz.f10) [1,1,1,1,1,1,0]
theorem xo10_1 : orderIx (opsOf xg10_0) = [0,1,2,3,4,5,6,7,8,9] := by kernel_rfl
theorem xo10_1a : (rgOf (opsOf xg10_0)).any = false := by kernel_rfl
theorem xo10_1r : regOk (opsOf xg10_0) = true := by kernel_rfl
theorem xo10_4 : orderIx (opsOf xg10_1) = [0,1,2,3,4,5,6,7,8,9,10] := by kernel_rfl
theorem xo10_4a : (rgOf (opsOf xg10_1)).any = false := by kernel_rfl
theorem xo10_4r : regOk (opsOf xg10_1) = true := by kernel_rfl
theorem xo10_7 : orderIx (opsOf xg10_2) = [0,1,2,3,4,5,6,7,8,9,10,11,12,13,14] := by kernel_rfl
theorem xo10_7a : (rgOf (opsOf xg10_2)).any = true := by kernel_rfl
theorem xo10_7r : regOk (opsOf xg10_2) = true := by kernel_rfl
theorem xb10 (h : Hp) : bodyV (xX s 10 wl k false) Tryz.f10 [t0,t1,t2,t3,t4,t5] h =
  bp (opBox t0 h) fun v1 h2 =>
  bp (opBox t4 h2) fun v3 h4 =>
  bp (some (.own h4.length 0 0,h4 ++ [.rows 0 [] 0 true])) fun v5 h6 =>
  bp (opAlloc s.P 32 h6) fun v7 h8 =>
  bp (some (.own h8.length 0 0,h8 ++ [.rows 0 [] 0 true])) fun v9 h10 =>
  stO h10.length v3 (
  bm (vLoad s.P 32 v3 h10) h10 fun v11 h12 =>
  stO h10.length v1 (
  bm (vLoad s.P 23 v1 h12) h12 fun v13 h14 =>
  bp (callV (xX s 10 wl k false) true true (.fn (.func 20) [] []) [t2] h14) fun v15 h16 =>
  bm (vBuild s.P 54 [(0,v11),(1,v13),(2,t1),(3,v15),(4,t3),(5,t5)]) h16 fun v17 h18 =>
  bp (opBox v17 h18) fun v19 h20 =>
  bm (vFieldAddr s.P 32 v3 1) h20 fun v21 h22 =>
  bm (vLoad s.P 27 v21 h22) h22 fun v23 h24 =>
  bp (callV (xX s 10 wl k false) false true (.fn (.func 21) [] []) [v23] h24) fun v25 h26 =>
  bm (vNil v19 h26) h26 fun v27 h28 =>
  bm (vFieldAddr s.P 54 v27 0) h28 fun v29 h30 =>
  bm (vFieldAddr s.P 32 v29 1) h30 fun v31 h32 =>
  bs (vStore s.P wl 27 v31 v25 h32) fun h33 =>
  bm (vLoad s.P 23 v1 h33) h33 fun v34 h35 =>
  bm (vLoad s.P 32 v3 h35) h35 fun v36 h37 =>
  bp (callV (xX s 10 wl k false) false true (.fn (.func 11) [] []) [v34,t1,t2,t3,v36] h37) fun v38 h39 =>
  bm (vUn .not v38) h39 fun v40 h41 =>
  cnd v40 (
  bm (vNil v19 h41) h41 fun v42 h43 =>
  bm (vFieldAddr s.P 54 v42 3) h43 fun v44 h45 =>
  bm (vLoad s.P 26 v44 h45) h45 fun v46 h47 =>
  bm (vNil v19 h47) h47 fun v48 h49 =>
  bm (vFieldAddr s.P 54 v48 0) h49 fun v50 h51 =>
  bm (vLoad s.P 32 v50 h51) h51 fun v52 h53 =>
  bs (vStore s.P wl 32 v7 v52 h53) fun h54 =>
  bp (some (.own h54.length 0 0,h54 ++ [.rows 0 [] 0 true])) fun v55 h56 =>
  resO [some v46,vLoad s.P 32 v7 h56,some v55] h56) (
  bm (vBuild s.P 58 [(0,(.fn (.func 22) [v19] [])),(1,(.fn (.func 23) [v19] [])),(2,(.fn (.func 24) [v19] [])),(3,(.fn (.func 24) [v19] [])),(4,(.fn (.func 25) [v19] [])),(5,(.fn (.func 26) [v19] [])),(6,(.fn (.func 27) [v19] [])),(7,(.fn (.func 28) [v19] [])),(8,(.fn (.func 29) [v19] [])),(9,(.fn (.func 30) [v19] [])),(10,(.fn (.func 31) [v19] [])),(11,(.fn (.func 32) [v19] [])),(12,(.fn (.func 33) [v19] [])),(13,(.fn (.func 34) [v19] [])),(14,(.fn (.func 35) [v19] [])),(15,(.fn (.func 36) [v19] []))]) h41 fun v57 h58 =>
  bp (opAlloc s.P 58 h58) fun v59 h60 =>
  bs (vStore s.P wl 58 v59 v57 h60) fun h61 =>
  bm (vFieldAddr s.P 32 v3 0) h61 fun v62 h63 =>
  bm (vLoad s.P 3 v62 h63) h63 fun v64 h65 =>
  bm (vIndexAddr s.P 58 v59 v64 h65) h65 fun v66 h67 =>
  bm (vLoad s.P 1 v66 h67) h67 fun v68 h69 =>
  bp (callV (xX s 10 wl k false) false true v68 [] h69) fun v70 h71 =>
  bm (vNil v19 h71) h71 fun v72 h73 =>
  bm (vFieldAddr s.P 54 v72 3) h73 fun v74 h75 =>
  bm (vLoad s.P 26 v74 h75) h75 fun v76 h77 =>
  bm (vNil v19 h77) h77 fun v78 h79 =>
  bm (vFieldAddr s.P 54 v78 0) h79 fun v80 h81 =>
  bm (vLoad s.P 32 v80 h81) h81 fun v82 h83 =>
  stO h71.length v19 (
  bm (vNil v19 h83) h83 fun v84 h85 =>
  bm (vFieldAddr s.P 54 v84 6) h85 fun v86 h87 =>
  stO h71.length v86 (
  bm (vLoad s.P 35 v86 h87) h87 fun v88 h89 =>
  bs (vStore s.P wl 32 v7 v82 h89) fun h90 =>
  apt (lgW v7 (lgR v86 (lgR v19 ([],[])))) (
  resO [some v76,vLoad s.P 32 v7 h90,some v88] h90)))))) :=
  bodyV_run rfl (go_seq (go_reg0
  (pP fun v1 h2 =>
  (pP fun v3 h4 =>
  (pP fun v5 h6 =>
  (pP fun v7 h8 =>
  (pP fun v9 h10 =>
  (eN
  (go_seq (go_reg1 xo10_1r
  (go_op1 xo10_1 xo10_1a rfl rfl rfl (st_yes (by kernel_rfl) (st_bm (by kernel_rfl) fun v11 h12 =>
  (go_op1 xo10_1 xo10_1a rfl rfl rfl (st_yes (by kernel_rfl) (st_bm (by kernel_rfl) fun v13 h14 =>
  (qI xo10_1 xo10_1a t1 h14
  (qI xo10_1 xo10_1a t2 h14
  (qP xo10_1 xo10_1a fun v15 h16 =>
  (qI xo10_1 xo10_1a t3 h16
  (qI xo10_1 xo10_1a t5 h16
  (qM xo10_1 xo10_1a fun v17 h18 =>
  (qP xo10_1 xo10_1a fun v19 h20 =>
  (qI xo10_1 xo10_1a v19 h20
  (go_end1 xo10_1 (by kernel_rfl) xo10_1a
  (go_seq (go_reg0
  (pI v19 h20
  (pM fun v21 h22 =>
  (pM fun v23 h24 =>
  (pP fun v25 h26 =>
  (pM fun v27 h28 =>
  (pM fun v29 h30 =>
  (pM fun v31 h32 =>
  (pS fun h33 =>
  (eN
  (go_seq (go_seq (go_reg0
  (pM fun v34 h35 =>
  (pI t1 h35
  (pI t2 h35
  (pI t3 h35
  (pM fun v36 h37 =>
  (pP fun v38 h39 =>
  (pM fun v40 h41 =>
  (eN
  (go_cond (by kernel_rfl)
  (go_seq (go_reg1 xo10_4r
  (qI xo10_4 xo10_4a v19 h41
  (qM xo10_4 xo10_4a fun v42 h43 =>
  (qM xo10_4 xo10_4a fun v44 h45 =>
  (qM xo10_4 xo10_4a fun v46 h47 =>
  (qI xo10_4 xo10_4a v19 h47
  (qM xo10_4 xo10_4a fun v48 h49 =>
  (qM xo10_4 xo10_4a fun v50 h51 =>
  (qM xo10_4 xo10_4a fun v52 h53 =>
  (qI xo10_4 xo10_4a v46 h53
  (qS xo10_4 xo10_4a fun h54 =>
  (qP xo10_4 xo10_4a fun v55 h56 =>
  (go_end1 xo10_4 (by kernel_rfl) xo10_4a
  (go_ret (rt_seq_ret (by kernel_rfl)))))))))))))))))
  (go_skip (go_seq (go_reg0
  (pI v19 h41
  (go_op0 rfl rfl (st_id (v := (.fn (.func 22) [v19] [])) (H := h41) (by kernel_rfl)
  (pI v19 h41
  (go_op0 rfl rfl (st_id (v := (.fn (.func 23) [v19] [])) (H := h41) (by kernel_rfl)
  (pI v19 h41
  (go_op0 rfl rfl (st_id (v := (.fn (.func 24) [v19] [])) (H := h41) (by kernel_rfl)
  (pI v19 h41
  (go_op0 rfl rfl (st_id (v := (.fn (.func 24) [v19] [])) (H := h41) (by kernel_rfl)
  (pI v19 h41
  (go_op0 rfl rfl (st_id (v := (.fn (.func 25) [v19] [])) (H := h41) (by kernel_rfl)
  (pI v19 h41
  (go_op0 rfl rfl (st_id (v := (.fn (.func 26) [v19] [])) (H := h41) (by kernel_rfl)
  (pI v19 h41
  (go_op0 rfl rfl (st_id (v := (.fn (.func 27) [v19] [])) (H := h41) (by kernel_rfl)
  (pI v19 h41
  (go_op0 rfl rfl (st_id (v := (.fn (.func 28) [v19] [])) (H := h41) (by kernel_rfl)
  (pI v19 h41
  (go_op0 rfl rfl (st_id (v := (.fn (.func 29) [v19] [])) (H := h41) (by kernel_rfl)
  (pI v19 h41
  (go_op0 rfl rfl (st_id (v := (.fn (.func 30) [v19] [])) (H := h41) (by kernel_rfl)
  (pI v19 h41
  (go_op0 rfl rfl (st_id (v := (.fn (.func 31) [v19] [])) (H := h41) (by kernel_rfl)
  (pI v19 h41
  (go_op0 rfl rfl (st_id (v := (.fn (.func 32) [v19] [])) (H := h41) (by kernel_rfl)
  (pI v19 h41
  (go_op0 rfl rfl (st_id (v := (.fn (.func 33) [v19] [])) (H := h41) (by kernel_rfl)
  (pI v19 h41
  (go_op0 rfl rfl (st_id (v := (.fn (.func 34) [v19] [])) (H := h41) (by kernel_rfl)
  (pI v19 h41
  (go_op0 rfl rfl (st_id (v := (.fn (.func 35) [v19] [])) (H := h41) (by kernel_rfl)
  (pI v19 h41
  (go_op0 rfl rfl (st_id (v := (.fn (.func 36) [v19] [])) (H := h41) (by kernel_rfl)
  (pM fun v57 h58 =>
  (pP fun v59 h60 =>
  (pS fun h61 =>
  (eN
  (go_seq (go_reg0
  (pM fun v62 h63 =>
  (pM fun v64 h65 =>
  (pM fun v66 h67 =>
  (pM fun v68 h69 =>
  (pP fun v70 h71 =>
  (eN
  (go_seq (go_reg1 xo10_7r
  (go_op2 (a' := ([],[])) xo10_7 rfl rfl rfl (by kernel_rfl) (st_no (by kernel_rfl) (st_id (v := v19) (H := h71) (by kernel_rfl)
  (go_op2 (a' := ([],[])) xo10_7 rfl rfl rfl (by kernel_rfl) (st_no (by kernel_rfl) (st_bm (by kernel_rfl) fun v72 h73 =>
  (go_op2 (a' := ([],[])) xo10_7 rfl rfl rfl (by kernel_rfl) (st_no (by kernel_rfl) (st_bm (by kernel_rfl) fun v74 h75 =>
  (go_op2 (a' := ([],[])) xo10_7 rfl rfl rfl (by kernel_rfl) (st_no (by kernel_rfl) (st_bm (by kernel_rfl) fun v76 h77 =>
  (go_op2 (a' := ([],[])) xo10_7 rfl rfl rfl (by kernel_rfl) (st_no (by kernel_rfl) (st_id (v := v19) (H := h77) (by kernel_rfl)
  (go_op2 (a' := ([],[])) xo10_7 rfl rfl rfl (by kernel_rfl) (st_no (by kernel_rfl) (st_bm (by kernel_rfl) fun v78 h79 =>
  (go_op2 (a' := ([],[])) xo10_7 rfl rfl rfl (by kernel_rfl) (st_no (by kernel_rfl) (st_bm (by kernel_rfl) fun v80 h81 =>
  (go_op2 (a' := ([],[])) xo10_7 rfl rfl rfl (by kernel_rfl) (st_no (by kernel_rfl) (st_bm (by kernel_rfl) fun v82 h83 =>
  (go_op2 (a' := ([],[])) xo10_7 rfl rfl rfl (by kernel_rfl) (st_no (by kernel_rfl) (st_id (v := v19) (H := h83) (by kernel_rfl)
  (go_op2 (a' := (lgR v19 ([],[]))) xo10_7 rfl rfl rfl (by kernel_rfl) (st_yes (by kernel_rfl) (st_bm (by kernel_rfl) fun v84 h85 =>
  (go_op2 (a' := (lgR v19 ([],[]))) xo10_7 rfl rfl rfl (by kernel_rfl) (st_no (by kernel_rfl) (st_bm (by kernel_rfl) fun v86 h87 =>
  (go_op2 (a' := (lgR v86 (lgR v19 ([],[])))) xo10_7 rfl rfl rfl (by kernel_rfl) (st_yes (by kernel_rfl) (st_bm (by kernel_rfl) fun v88 h89 =>
  (go_op2 (a' := (lgR v86 (lgR v19 ([],[])))) xo10_7 rfl rfl rfl (by kernel_rfl) (st_no (by kernel_rfl) (st_id (v := v76) (H := h89) (by kernel_rfl)
  (go_op2 (a' := (lgW v7 (lgR v86 (lgR v19 ([],[]))))) xo10_7 rfl rfl rfl (by kernel_rfl) (st_no (by kernel_rfl) (st_bs (by kernel_rfl) fun h90 =>
  (go_op2 (a' := (lgW v7 (lgR v86 (lgR v19 ([],[]))))) xo10_7 rfl rfl rfl (by kernel_rfl) (st_no (by kernel_rfl) (st_id (v := v88) (H := h90) (by kernel_rfl)
  (go_end2 xo10_7 (by kernel_rfl) xo10_7a
  (go_ret (by kernel_rfl)))))))))))))))))))))))))))))))))))))))))))))))))))))))))))))))))))))))))))))))))))))))))))))))))))))))))))))))))))))))))))))))))))))))))))))))))))))))))))))))))
theorem xe10 (k wl : Nat) (h : Hp) : evF Tryz.prog xM (k + 1) wl 10 [t0,t1,t2,t3,t4,t5] h = bodyV (xX (xS k) 10 wl k false) Tryz.f10 [t0,t1,t2,t3,t4,t5] h := by kernel_rfl
-- names: xb10,

theorem xb22 (h : Hp) : bodyV (xX s 22 wl k false) Tryz.f22 [t0] h =
  bp (callV (xX s 22 wl k false) false true (.fn (.func 46) [] []) [t0] h) fun v1 h2 =>
  bm (vUn .not v1) h2 fun v3 h4 =>
  cnd v3 (
  some (.tup [],h4)) (
  bm (vNil t0 h4) h4 fun v5 h6 =>
  bm (vFieldAddr s.P 54 v5 0) h6 fun v7 h8 =>
  bm (vFieldAddr s.P 32 v7 2) h8 fun v9 h10 =>
  bm (vLoad s.P 30 v9 h10) h10 fun v11 h12 =>
  bp (opAlloc s.P 30 h12) fun v13 h14 =>
  bs (vStore s.P wl 30 v13 v11 h14) fun h15 =>
  bm (vFieldAddr s.P 30 v13 6) h15 fun v16 h17 =>
  bm (vLoad s.P 3 v16 h17) h17 fun v18 h19 =>
  bm (vBin s.P .neq 3 v18 (V.lit (Value.int .i64 1))) h19 fun v20 h21 =>
  cnd v20 (
  bp (callV (xX s 22 wl k false) false true (.fn (.func 47) [] []) [t0,(V.lit (Value.int .i64 1))] h21) fun v22 h23 =>
  some (.tup [],h23)) (
  bp (callV (xX s 22 wl k false) false true (.fn (.func 47) [] []) [t0,(V.lit (Value.int .i64 9))] h21) fun v24 h25 =>
  bm (vFieldAddr s.P 30 v13 3) h25 fun v26 h27 =>
  bm (vLoad s.P 28 v26 h27) h27 fun v28 h29 =>
  bp (callV (xX s 22 wl k false) false true (.fn (.func 48) [] []) [t0,v28] h29) fun v30 h31 =>
  some (.tup [],h31))) :=
  bodyV_run rfl (go_seq (go_seq (go_reg0
  (pI t0 h
  (pP fun v1 h2 =>
  (pM fun v3 h4 =>
  (eN
  (go_cond (by kernel_rfl)
  (go_ret (rt_seq_ret (by kernel_rfl)))
  (go_skip (go_seq (go_reg0
  (pI t0 h4
  (pM fun v5 h6 =>
  (pM fun v7 h8 =>
  (pM fun v9 h10 =>
  (pM fun v11 h12 =>
  (pP fun v13 h14 =>
  (pS fun h15 =>
  (eN
  (go_seq (go_seq (go_reg0
  (pM fun v16 h17 =>
  (pM fun v18 h19 =>
  (pM fun v20 h21 =>
  (eN
  (go_cond (by kernel_rfl)
  (go_seq (go_reg0
  (pI t0 h21
  (pP fun v22 h23 =>
  (eN
  (go_ret (rt_seq_ret (by kernel_rfl))))))))
  (go_skip (go_seq (go_reg0
  (pI t0 h21
  (pP fun v24 h25 =>
  (eN
  (go_reg0
  (pI t0 h25
  (pM fun v26 h27 =>
  (pM fun v28 h29 =>
  (pP fun v30 h31 =>
  (eN
  (by kernel_rfl))))))))))))))))))))))))))))))))))))))))
theorem xe22 (k wl : Nat) (h : Hp) : evF Tryz.prog xM (k + 1) wl 22 [t0] h = bodyV (xX (xS k) 22 wl k false) Tryz.f22 [t0] h := by kernel_rfl
-- names: xb22,

theorem xb23 (h : Hp) : bodyV (xX s 23 wl k false) Tryz.f23 [t0] h =
  bp (callV (xX s 23 wl k false) false true (.fn (.func 49) [] []) [t0,(V.lit (Value.int .i64 1)),(V.lit (Value.int .u64 1))] h) fun v1 h2 =>
  bm (vNil t0 h2) h2 fun v3 h4 =>
  bm (vFieldAddr s.P 54 v3 1) h4 fun v5 h6 =>
  bm (vFieldAddr s.P 23 v5 3) h6 fun v7 h8 =>
  bm (vLoad s.P 3 v7 h8) h8 fun v9 h10 =>
  bm (vNil t0 h10) h10 fun v11 h12 =>
  bm (vFieldAddr s.P 54 v11 0) h12 fun v13 h14 =>
  bm (vFieldAddr s.P 32 v13 3) h14 fun v15 h16 =>
  bs (vStore s.P wl 3 v15 v9 h16) fun h17 =>
  bm (vNil t0 h17) h17 fun v18 h19 =>
  bm (vFieldAddr s.P 54 v18 4) h19 fun v20 h21 =>
  bm (vLoad s.P 3 v20 h21) h21 fun v22 h23 =>
  bp (callV (xX s 23 wl k false) false true (.fn (.func 50) [] []) [t0,(V.lit (Value.int .i64 2)),(V.lit (Value.int .i64 4)),v22,(V.lit (Value.int .u64 0))] h23) fun v24 h25 =>
  some (.tup [],h25) :=
  bodyV_run rfl (go_seq (go_reg0
  (pI t0 h
  (pP fun v1 h2 =>
  (eN
  (go_seq (go_reg0
  (pI t0 h2
  (pI t0 h2
  (pM fun v3 h4 =>
  (pM fun v5 h6 =>
  (pM fun v7 h8 =>
  (pM fun v9 h10 =>
  (pM fun v11 h12 =>
  (pM fun v13 h14 =>
  (pM fun v15 h16 =>
  (pS fun h17 =>
  (eN
  (go_reg0
  (pI t0 h17
  (pI t0 h17
  (pM fun v18 h19 =>
  (pM fun v20 h21 =>
  (pM fun v22 h23 =>
  (pP fun v24 h25 =>
  (eN
  (by kernel_rfl)))))))))))))))))))))))))))
theorem xe23 (k wl : Nat) (h : Hp) : evF Tryz.prog xM (k + 1) wl 23 [t0] h = bodyV (xX (xS k) 23 wl k false) Tryz.f23 [t0] h := by kernel_rfl
-- names: xb23,
noncomputable def xg24_0 : Code := codeAt (bodyOf Tryz.f24) [0,0]
noncomputable def xg24_1 : Code := codeAt (bodyOf Tryz.f24) [0,1,1,1,0,0]
noncomputable def xk24_0 : List Fr := [.seq (codeAt (bodyOf Tryz.f24) [0,1,1,1,0,1]),.seq (codeAt (bodyOf Tryz.f24) [0,1,1,1,1]),.scope (codeAt (bodyOf Tryz.f24) [0])]
theorem xo24_0 : orderIx (opsOf xg24_0) = [0,1,2,3,4,5,6,7,8,9,10,11,12,13,14] := by kernel_rfl
theorem xo24_0a : (rgOf (opsOf xg24_0)).any = false := by kernel_rfl
theorem xo24_0r : regOk (opsOf xg24_0) = true := by kernel_rfl
theorem xb24 (h : Hp) : bodyV (xX s 24 wl k false) Tryz.f24 [t0] h =
  bm (vNil t0 h) h fun v1 h2 =>
  bm (vFieldAddr s.P 54 v1 5) h2 fun v3 h4 =>
  bm (vLoad s.P 28 v3 h4) h4 fun v5 h6 =>
  bm (vNil t0 h6) h6 fun v7 h8 =>
  bm (vFieldAddr s.P 54 v7 4) h8 fun v9 h10 =>
  bm (vLoad s.P 3 v9 h10) h10 fun v11 h12 =>
  bm (vNil t0 h12) h12 fun v13 h14 =>
  bm (vFieldAddr s.P 54 v13 1) h14 fun v15 h16 =>
  bm (vFieldAddr s.P 23 v15 0) h16 fun v17 h18 =>
  bm (vLoad s.P 3 v17 h18) h18 fun v19 h20 =>
  bp (callV (xX s 24 wl k false) false true (.fn (.func 51) [] []) [v5,v11,v19] h20) fun v21 h22 =>
  bp (callV (xX s 24 wl k false) false true (.fn (.func 46) [] []) [t0] h22) fun v23 h24 =>
  bm (vUn .not v23) h24 fun v25 h26 =>
  cnd v25 (
  some (.tup [],h26)) (
  bm (vNil t0 h26) h26 fun v27 h28 =>
  bm (vFieldAddr s.P 54 v27 0) h28 fun v29 h30 =>
  bm (vFieldAddr s.P 32 v29 2) h30 fun v31 h32 =>
  bm (vFieldAddr s.P 30 v31 6) h32 fun v33 h34 =>
  bm (vLoad s.P 3 v33 h34) h34 fun v35 h36 =>
  bm (vBin s.P .eql 3 v35 (V.lit (Value.int .i64 1))) h36 fun v37 h38 =>
  cnd v37 (
  bm (vNil t0 h38) h38 fun v39 h40 =>
  bm (vFieldAddr s.P 54 v39 0) h40 fun v41 h42 =>
  bm (vFieldAddr s.P 32 v41 0) h42 fun v43 h44 =>
  bs (vStore s.P wl 3 v43 (V.lit (Value.int .i64 4)) h44) fun h45 =>
  some (.tup [],h45)) (
  bm (vNil t0 h38) h38 fun v46 h47 =>
  bm (vFieldAddr s.P 54 v46 0) h47 fun v48 h49 =>
  bm (vFieldAddr s.P 32 v48 0) h49 fun v50 h51 =>
  bm (vLoad s.P 3 v50 h51) h51 fun v52 h53 =>
  bm (vBin s.P .eql 3 v52 (V.lit (Value.int .i64 2))) h53 fun v54 h55 =>
  gd v54 (
  bm (vBin s.P .geq 3 v21 (V.lit (Value.int .i64 0))) h55 fun v56 h57 =>
  opsP (xX s 24 wl k false) xg24_1 9 h38.length ([],[]) (runK (xX s 24 wl k false) (bodyK s.P Tryz.f24) xk24_0) ⟨(t0::uu::v21::t0::v1::v3::v5::t0::v7::v9::v11::t0::v13::v15::v17::v19::v21::t0::v23::v25::t0::v27::v29::v31::v33::v35::v37::t0::v46::v48::v50::v52::v54::(V.lit (Value.bool true))::v21::v56::uu::uu::uu::uu::uu::uu::uu::uu::uu::uu::uu::uu::uu::uu::uu::uu::uu::uu::uu::uu::uu::uu::uu::uu::uu::uu::uu::uu::uu::uu::uu::uu::uu::uu::uu::[]),h57⟩) (
  opsP (xX s 24 wl k false) xg24_1 9 h38.length ([],[]) (runK (xX s 24 wl k false) (bodyK s.P Tryz.f24) xk24_0) ⟨(t0::uu::v21::t0::v1::v3::v5::t0::v7::v9::v11::t0::v13::v15::v17::v19::v21::t0::v23::v25::t0::v27::v29::v31::v33::v35::v37::t0::v46::v48::v50::v52::v54::(V.lit (Value.bool false))::uu::uu::uu::uu::uu::uu::uu::uu::uu::uu::uu::uu::uu::uu::uu::uu::uu::uu::uu::uu::uu::uu::uu::uu::uu::uu::uu::uu::uu::uu::uu::uu::uu::uu::uu::uu::uu::[]),h55⟩) (
  opsP (xX s 24 wl k false) xg24_1 8 h38.length ([],[]) (runK (xX s 24 wl k false) (bodyK s.P Tryz.f24) xk24_0) ⟨(t0::uu::v21::t0::v1::v3::v5::t0::v7::v9::v11::t0::v13::v15::v17::v19::v21::t0::v23::v25::t0::v27::v29::v31::v33::v35::v37::t0::v46::v48::v50::v52::v54::v54::uu::uu::uu::uu::uu::uu::uu::uu::uu::uu::uu::uu::uu::uu::uu::uu::uu::uu::uu::uu::uu::uu::uu::uu::uu::uu::uu::uu::uu::uu::uu::uu::uu::uu::uu::uu::uu::[]),h55⟩))) :=
  bodyV_run rfl (go_scope (go_seq (go_reg1 xo24_0r
  (qI xo24_0 xo24_0a t0 h
  (qM xo24_0 xo24_0a fun v1 h2 =>
  (qM xo24_0 xo24_0a fun v3 h4 =>
  (qM xo24_0 xo24_0a fun v5 h6 =>
  (qI xo24_0 xo24_0a t0 h6
  (qM xo24_0 xo24_0a fun v7 h8 =>
  (qM xo24_0 xo24_0a fun v9 h10 =>
  (qM xo24_0 xo24_0a fun v11 h12 =>
  (qI xo24_0 xo24_0a t0 h12
  (qM xo24_0 xo24_0a fun v13 h14 =>
  (qM xo24_0 xo24_0a fun v15 h16 =>
  (qM xo24_0 xo24_0a fun v17 h18 =>
  (qM xo24_0 xo24_0a fun v19 h20 =>
  (qP xo24_0 xo24_0a fun v21 h22 =>
  (qI xo24_0 xo24_0a v21 h22
  (go_end1 xo24_0 (by kernel_rfl) xo24_0a
  (go_seq (go_seq (go_reg0
  (pI t0 h22
  (pP fun v23 h24 =>
  (pM fun v25 h26 =>
  (eN
  (go_cond (by kernel_rfl)
  (go_ret (rt_seq_ret (rt_scope_ret (by kernel_rfl))))
  (go_skip (go_seq (go_seq (go_reg0
  (pI t0 h26
  (pM fun v27 h28 =>
  (pM fun v29 h30 =>
  (pM fun v31 h32 =>
  (pM fun v33 h34 =>
  (pM fun v35 h36 =>
  (pM fun v37 h38 =>
  (eN
  (go_cond (by kernel_rfl)
  (go_goto (rt_seq_goto (rt_scope_on (by kernel_rfl) (fl_right (by kernel_rfl) (fl_right (by kernel_rfl) (fl_right (by kernel_rfl) (fl_right (by kernel_rfl) (fl_right (by kernel_rfl) (fl_right (by kernel_rfl) (fl_right (by kernel_rfl) (fl_right (by kernel_rfl) (fl_right (by kernel_rfl) (fl_right (by kernel_rfl) (fl_right (by kernel_rfl) (fl_left (by kernel_rfl) (fl_label (go_reg0
  (pI t0 h38
  (pM fun v39 h40 =>
  (pM fun v41 h42 =>
  (pM fun v43 h44 =>
  (pS fun h45 =>
  (eN
  (rt_scope2_norm (by kernel_rfl)))))))))))))))))))))))))
  (go_skip (go_seq (go_seq (go_reg0
  (pI t0 h38
  (pM fun v46 h47 =>
  (pM fun v48 h49 =>
  (pM fun v50 h51 =>
  (pM fun v52 h53 =>
  (pM fun v54 h55 =>
  (pI v54 h55
  (go_gdT0 rfl rfl rfl (by kernel_rfl)
  (st_id (v := v21) (H := h55) (by kernel_rfl)
  (rN (st_bm (by kernel_rfl) fun v56 h57 =>
  (by kernel_rfl))))
  (sK
  (by kernel_rfl))
  (by kernel_rfl)))))))))))))))))))))))))))))))))))))))))))))))))))))
theorem xe24 (k wl : Nat) (h : Hp) : evF Tryz.prog xM (k + 1) wl 24 [t0] h = bodyV (xX (xS k) 24 wl k false) Tryz.f24 [t0] h := by kernel_rfl
theorem xm24_0 (h : Hp) : opsP (xX s 24 wl k false) xg24_1 9 m0 ac (runK (xX s 24 wl k false) (bodyK s.P Tryz.f24) xk24_0) ⟨(t0::t1::t2::t3::t4::t5::t6::t7::t8::t9::ta::tb::tc::td::te::tf::tg::th::ti::tj::tk::tl::tm::tn::tp::tq::tr::ts::tt::tu::tv::tw::tx::ty::tz::tA::tB::tC::tD::tE::tF::tG::tH::tI::tJ::tK::tL::tM::tN::tO::tP::tQ::tR::tS::tT::tU::tV::tW::tX::tY::tZ::q0::q1::q2::q3::q4::q5::q6::q7::q8::q9::[]),h⟩ =
  bm (vPick ty tA (V.lit (Value.bool false))) h fun v58 h59 =>
  cnd v58 (
  bp (callV (xX s 24 wl k false) false true (.fn (.func 50) [] []) [t0,(V.lit (Value.int .i64 3)),(V.lit (Value.int .i64 2)),t2,(V.lit (Value.int .u64 0))] h59) fun v60 h61 =>
  some (.tup [],h61)) (
  bm (vNil t0 h59) h59 fun v62 h63 =>
  bm (vFieldAddr s.P 54 v62 0) h63 fun v64 h65 =>
  bm (vFieldAddr s.P 32 v64 3) h65 fun v66 h67 =>
  bm (vLoad s.P 3 v66 h67) h67 fun v68 h69 =>
  bm (vBin s.P .leq 3 v68 (V.lit (Value.int .i64 0))) h69 fun v70 h71 =>
  cnd v70 (
  bm (vNil t0 h71) h71 fun v72 h73 =>
  bm (vFieldAddr s.P 54 v72 4) h73 fun v74 h75 =>
  bm (vLoad s.P 3 v74 h75) h75 fun v76 h77 =>
  bp (callV (xX s 24 wl k false) false true (.fn (.func 50) [] []) [t0,(V.lit (Value.int .i64 5)),(V.lit (Value.int .i64 5)),v76,(V.lit (Value.int .u64 0))] h77) fun v78 h79 =>
  some (.tup [],h79)) (
  bm (vNil t0 h71) h71 fun v80 h81 =>
  bm (vFieldAddr s.P 54 v80 0) h81 fun v82 h83 =>
  bm (vFieldAddr s.P 32 v82 3) h83 fun v84 h85 =>
  bm (vLoad s.P 3 v84 h85) h85 fun v86 h87 =>
  bm (vBin s.P .sub 3 v86 (V.lit (Value.int .i64 1))) h87 fun v88 h89 =>
  bm (vNil t0 h89) h89 fun v90 h91 =>
  bm (vFieldAddr s.P 54 v90 0) h91 fun v92 h93 =>
  bm (vFieldAddr s.P 32 v92 3) h93 fun v94 h95 =>
  bs (vStore s.P wl 3 v94 v88 h95) fun h96 =>
  bm (vNil t0 h96) h96 fun v97 h98 =>
  bm (vFieldAddr s.P 54 v97 4) h98 fun v99 h100 =>
  bm (vLoad s.P 3 v99 h100) h100 fun v101 h102 =>
  bp (callV (xX s 24 wl k false) false true (.fn (.func 50) [] []) [t0,(V.lit (Value.int .i64 2)),(V.lit (Value.int .i64 4)),v101,(V.lit (Value.int .u64 0))] h102) fun v103 h104 =>
  some (.tup [],h104))) :=
  (pM fun v58 h59 =>
  (eN
  (go_cond (by kernel_rfl)
  (go_seq (go_reg0
  (pI t0 h59
  (pI t2 h59
  (pP fun v60 h61 =>
  (eN
  (go_ret (rt_seq_ret (rt_scope_ret (by kernel_rfl))))))))))
  (go_skip (go_seq (go_seq (go_reg0
  (pI t0 h59
  (pM fun v62 h63 =>
  (pM fun v64 h65 =>
  (pM fun v66 h67 =>
  (pM fun v68 h69 =>
  (pM fun v70 h71 =>
  (eN
  (go_cond (by kernel_rfl)
  (go_goto (rt_seq_goto (rt_scope_on (by kernel_rfl) (fl_right (by kernel_rfl) (fl_right (by kernel_rfl) (fl_right (by kernel_rfl) (fl_right (by kernel_rfl) (fl_right (by kernel_rfl) (fl_right (by kernel_rfl) (fl_right (by kernel_rfl) (fl_right (by kernel_rfl) (fl_left (by kernel_rfl) (fl_label (go_seq (go_reg0
  (pI t0 h71
  (pI t0 h71
  (pM fun v72 h73 =>
  (pM fun v74 h75 =>
  (pM fun v76 h77 =>
  (pP fun v78 h79 =>
  (eN
  (go_seq (go_ret (rt_seq_ret (rt_scope2_ret (by kernel_rfl)))))))))))))))))))))))))))
  (go_skip (go_seq (go_reg0
  (pI t0 h71
  (pM fun v80 h81 =>
  (pM fun v82 h83 =>
  (pM fun v84 h85 =>
  (pM fun v86 h87 =>
  (pM fun v88 h89 =>
  (pM fun v90 h91 =>
  (pM fun v92 h93 =>
  (pM fun v94 h95 =>
  (pS fun h96 =>
  (eN
  (go_seq (go_reg0
  (pI t0 h96
  (pI t0 h96
  (pM fun v97 h98 =>
  (pM fun v99 h100 =>
  (pM fun v101 h102 =>
  (pP fun v103 h104 =>
  (eN
  (go_seq (go_ret (rt_seq_ret (rt_scope_ret (by kernel_rfl)))))))))))))))))))))))))))))))))))))))))))
theorem xk24_0_ret (cx : Cx) (K : Out → St → Option (V × Hp)) (s : St) : runK cx K xk24_0 .ret s = K .ret s := by kernel_rfl
-- names: xb24,xm24_0,xk24_0_ret
noncomputable def xk25_0 : List Fr := [.seq (codeAt (bodyOf Tryz.f25) [1,1])]
theorem xb25 (h : Hp) : bodyV (xX s 25 wl k false) Tryz.f25 [t0] h =
  bm (vNil t0 h) h fun v1 h2 =>
  bm (vFieldAddr s.P 54 v1 0) h2 fun v3 h4 =>
  bm (vFieldAddr s.P 32 v3 2) h4 fun v5 h6 =>
  bm (vFieldAddr s.P 30 v5 3) h6 fun v7 h8 =>
  bm (vLoad s.P 28 v7 h8) h8 fun v9 h10 =>
  bp (callV (xX s 25 wl k false) false true (.fn (.func 49) [] []) [t0,(V.lit (Value.int .i64 1)),(V.lit (Value.int .u64 18446744073709551615))] h10) fun v11 h12 =>
  bm (vBin s.P .eql 28 v11 (V.lit (Value.int .u64 1))) h12 fun v13 h14 =>
  cnd v13 (
  bm (vNil t0 h14) h14 fun v15 h16 =>
  bm (vFieldAddr s.P 54 v15 4) h16 fun v17 h18 =>
  bm (vLoad s.P 3 v17 h18) h18 fun v19 h20 =>
  bp (callV (xX s 25 wl k false) false true (.fn (.func 50) [] []) [t0,(V.lit (Value.int .i64 14)),(V.lit (Value.int .i64 6)),v19,(V.lit (Value.int .u64 0))] h20) fun v21 h22 =>
  runK (xX s 25 wl k false) (bodyK s.P Tryz.f25) xk25_0 .norm ⟨[t0,uu,v9,t0,v1,v3,v5,v7,v9,t0,v11,v13,t0,t0,v15,v17,v19,v21,uu,uu,uu,uu,uu],h22⟩) (
  bp (callV (xX s 25 wl k false) false true (.fn (.func 47) [] []) [t0,(V.lit (Value.int .i64 9))] h14) fun v23 h24 =>
  runK (xX s 25 wl k false) (bodyK s.P Tryz.f25) xk25_0 .norm ⟨[t0,uu,v9,t0,v1,v3,v5,v7,v9,t0,v11,v13,uu,uu,uu,uu,uu,uu,t0,v23,uu,uu,uu],h24⟩) :=
  bodyV_run rfl (go_seq (go_reg0
  (pI t0 h
  (pM fun v1 h2 =>
  (pM fun v3 h4 =>
  (pM fun v5 h6 =>
  (pM fun v7 h8 =>
  (pM fun v9 h10 =>
  (pI v9 h10
  (eN
  (go_seq (go_seq (go_reg0
  (pI t0 h10
  (pP fun v11 h12 =>
  (pM fun v13 h14 =>
  (eN
  (go_cond (by kernel_rfl)
  (go_reg0
  (pI t0 h14
  (pI t0 h14
  (pM fun v15 h16 =>
  (pM fun v17 h18 =>
  (pM fun v19 h20 =>
  (pP fun v21 h22 =>
  (eN
  (by kernel_rfl)))))))))
  (go_reg0
  (pI t0 h14
  (pP fun v23 h24 =>
  (eN
  (by kernel_rfl)))))))))))))))))))))))
theorem xe25 (k wl : Nat) (h : Hp) : evF Tryz.prog xM (k + 1) wl 25 [t0] h = bodyV (xX (xS k) 25 wl k false) Tryz.f25 [t0] h := by kernel_rfl
theorem xj25_0 (h : Hp) : runK (xX s 25 wl k false) (bodyK s.P Tryz.f25) xk25_0 .norm ⟨[t0,t1,t2,t3,t4,t5,t6,t7,t8,t9,ta,tb,tc,td,te,tf,tg,th,ti,tj,tk,tl,tm],h⟩ =
  bp (callV (xX s 25 wl k false) false true (.fn (.func 48) [] []) [t0,t2] h) fun v25 h26 =>
  some (.tup [],h26) :=
  (go_reg0
  (pI t0 h
  (pI t2 h
  (pP fun v25 h26 =>
  (eN
  (by kernel_rfl))))))
theorem xk25_0_ret (cx : Cx) (K : Out → St → Option (V × Hp)) (s : St) : runK cx K xk25_0 .ret s = K .ret s := by kernel_rfl
-- names: xb25,xj25_0,xk25_0_ret

theorem xb26 (h : Hp) : bodyV (xX s 26 wl k false) Tryz.f26 [t0] h =
  bp (callV (xX s 26 wl k false) false true (.fn (.func 46) [] []) [t0] h) fun v1 h2 =>
  bm (vNil t0 h2) h2 fun v3 h4 =>
  bm (vFieldAddr s.P 54 v3 0) h4 fun v5 h6 =>
  bm (vFieldAddr s.P 32 v5 0) h6 fun v7 h8 =>
  bs (vStore s.P wl 3 v7 (V.lit (Value.int .i64 6)) h8) fun h9 =>
  some (.tup [],h9) :=
  bodyV_run rfl (go_seq (go_reg0
  (pI t0 h
  (pP fun v1 h2 =>
  (eN
  (go_reg0
  (pI t0 h2
  (pM fun v3 h4 =>
  (pM fun v5 h6 =>
  (pM fun v7 h8 =>
  (pS fun h9 =>
  (eN
  (by kernel_rfl)))))))))))))
theorem xe26 (k wl : Nat) (h : Hp) : evF Tryz.prog xM (k + 1) wl 26 [t0] h = bodyV (xX (xS k) 26 wl k false) Tryz.f26 [t0] h := by kernel_rfl
-- names: xb26,

theorem xb27 (h : Hp) : bodyV (xX s 27 wl k false) Tryz.f27 [t0] h =
  bp (callV (xX s 27 wl k false) false true (.fn (.func 49) [] []) [t0,(V.lit (Value.int .i64 1)),(V.lit (Value.int .u64 18446744073709551615))] h) fun v1 h2 =>
  bm (vNil t0 h2) h2 fun v3 h4 =>
  bm (vFieldAddr s.P 54 v3 0) h4 fun v5 h6 =>
  bm (vFieldAddr s.P 32 v5 0) h6 fun v7 h8 =>
  bs (vStore s.P wl 3 v7 (V.lit (Value.int .i64 7)) h8) fun h9 =>
  bm (vNil t0 h9) h9 fun v10 h11 =>
  bm (vFieldAddr s.P 54 v10 0) h11 fun v12 h13 =>
  bm (vFieldAddr s.P 32 v12 4) h13 fun v14 h15 =>
  bs (vStore s.P wl 3 v14 (V.lit (Value.int .i64 0)) h15) fun h16 =>
  some (.tup [],h16) :=
  bodyV_run rfl (go_seq (go_reg0
  (pI t0 h
  (pP fun v1 h2 =>
  (eN
  (go_reg0
  (pI t0 h2
  (pI t0 h2
  (pM fun v3 h4 =>
  (pM fun v5 h6 =>
  (pM fun v7 h8 =>
  (pS fun h9 =>
  (pM fun v10 h11 =>
  (pM fun v12 h13 =>
  (pM fun v14 h15 =>
  (pS fun h16 =>
  (eN
  (by kernel_rfl))))))))))))))))))
theorem xe27 (k wl : Nat) (h : Hp) : evF Tryz.prog xM (k + 1) wl 27 [t0] h = bodyV (xX (xS k) 27 wl k false) Tryz.f27 [t0] h := by kernel_rfl
-- names: xb27,
noncomputable def xg28_0 : Code := codeAt (bodyOf Tryz.f28) [1,1,0,0]
noncomputable def xk28_0 : List Fr := [.seq (codeAt (bodyOf Tryz.f28) [1,1,0,1]),.seq (codeAt (bodyOf Tryz.f28) [1,1,1])]
noncomputable def xk28_1 : List Fr := [.block 0,.seq (codeAt (bodyOf Tryz.f28) [1,1,1,1,1,1])]
noncomputable def xg28_1 : Code := codeAt (bodyOf Tryz.f28) [1,1,1,1,1,0,0,1,1,1,0]
noncomputable def xg28_2 : Code := codeAt (bodyOf Tryz.f28) [1,1,1,1,1,0,0,1,1,1,1,1,0]
noncomputable def xg28_3 : Code := codeAt (bodyOf Tryz.f28) [1,1,1,1,1,0,0,1,1,1,1,1,1]
theorem xo28_10 : orderIx (opsOf xg28_1) = [0,1,2,3,4,5,6,7,8,9,10,11,12] := by kernel_rfl
theorem xo28_10a : (rgOf (opsOf xg28_1)).any = false := by kernel_rfl
theorem xo28_10r : regOk (opsOf xg28_1) = true := by kernel_rfl
theorem xo28_12 : orderIx (opsOf xg28_2) = [0,1,2,3,4,5,6,7,8,9,10,11,12,13,14,15,16] := by kernel_rfl
theorem xo28_12a : (rgOf (opsOf xg28_2)).any = false := by kernel_rfl
theorem xo28_12r : regOk (opsOf xg28_2) = true := by kernel_rfl
theorem xo28_6 : orderIx (opsOf xg28_3) = [0,1,2,3,4,5,6,7,8,9,10,11,12,13,14,15,16,17,18,19] := by kernel_rfl
theorem xo28_6a : (rgOf (opsOf xg28_3)).any = false := by kernel_rfl
theorem xo28_6r : regOk (opsOf xg28_3) = true := by kernel_rfl
theorem xb28 (h : Hp) : bodyV (xX s 28 wl k false) Tryz.f28 [t0] h =
  bm (vNil t0 h) h fun v1 h2 =>
  bm (vFieldAddr s.P 54 v1 0) h2 fun v3 h4 =>
  bm (vFieldAddr s.P 32 v3 4) h4 fun v5 h6 =>
  bm (vLoad s.P 3 v5 h6) h6 fun v7 h8 =>
  bm (vNil t0 h8) h8 fun v9 h10 =>
  bm (vFieldAddr s.P 54 v9 1) h10 fun v11 h12 =>
  bm (vFieldAddr s.P 23 v11 0) h12 fun v13 h14 =>
  bm (vLoad s.P 3 v13 h14) h14 fun v15 h16 =>
  bm (vBin s.P .mul 3 (V.lit (Value.int .i64 2)) v15) h16 fun v17 h18 =>
  bm (vBin s.P .add 3 (V.lit (Value.int .i64 2)) v17) h18 fun v19 h20 =>
  bm (vBin s.P .lss 3 v7 (V.lit (Value.int .i64 0))) h20 fun v21 h22 =>
  gd v21 (
  opsP (xX s 28 wl k false) xg28_0 6 h20.length ([],[]) (runK (xX s 28 wl k false) (bodyK s.P Tryz.f28) xk28_0) ⟨(t0::uu::v7::v19::uu::uu::t0::v1::v3::v5::v7::t0::v9::v11::v13::v15::v17::v19::v7::v21::(V.lit (Value.bool true))::uu::uu::uu::uu::uu::uu::uu::uu::uu::uu::uu::uu::uu::uu::uu::uu::uu::uu::uu::uu::uu::uu::uu::uu::uu::uu::uu::uu::uu::uu::uu::uu::uu::uu::uu::uu::uu::uu::uu::uu::uu::uu::uu::uu::uu::uu::uu::uu::uu::uu::uu::uu::uu::uu::uu::uu::uu::uu::uu::uu::uu::uu::uu::uu::uu::uu::uu::uu::uu::uu::uu::uu::uu::uu::uu::uu::uu::uu::uu::uu::uu::uu::uu::uu::uu::uu::uu::uu::uu::uu::uu::uu::uu::uu::uu::uu::uu::uu::uu::uu::uu::uu::uu::uu::uu::uu::uu::uu::uu::uu::uu::uu::uu::uu::uu::uu::uu::uu::uu::[]),h22⟩) (
  bm (vBin s.P .geq 3 v7 v19) h22 fun v23 h24 =>
  opsP (xX s 28 wl k false) xg28_0 6 h20.length ([],[]) (runK (xX s 28 wl k false) (bodyK s.P Tryz.f28) xk28_0) ⟨(t0::uu::v7::v19::uu::uu::t0::v1::v3::v5::v7::t0::v9::v11::v13::v15::v17::v19::v7::v21::(V.lit (Value.bool false))::v7::v19::v23::uu::uu::uu::uu::uu::uu::uu::uu::uu::uu::uu::uu::uu::uu::uu::uu::uu::uu::uu::uu::uu::uu::uu::uu::uu::uu::uu::uu::uu::uu::uu::uu::uu::uu::uu::uu::uu::uu::uu::uu::uu::uu::uu::uu::uu::uu::uu::uu::uu::uu::uu::uu::uu::uu::uu::uu::uu::uu::uu::uu::uu::uu::uu::uu::uu::uu::uu::uu::uu::uu::uu::uu::uu::uu::uu::uu::uu::uu::uu::uu::uu::uu::uu::uu::uu::uu::uu::uu::uu::uu::uu::uu::uu::uu::uu::uu::uu::uu::uu::uu::uu::uu::uu::uu::uu::uu::uu::uu::uu::uu::uu::uu::uu::uu::uu::uu::[]),h24⟩) (
  opsP (xX s 28 wl k false) xg28_0 4 h20.length ([],[]) (runK (xX s 28 wl k false) (bodyK s.P Tryz.f28) xk28_0) ⟨(t0::uu::v7::v19::uu::uu::t0::v1::v3::v5::v7::t0::v9::v11::v13::v15::v17::v19::v7::v21::v21::uu::uu::uu::uu::uu::uu::uu::uu::uu::uu::uu::uu::uu::uu::uu::uu::uu::uu::uu::uu::uu::uu::uu::uu::uu::uu::uu::uu::uu::uu::uu::uu::uu::uu::uu::uu::uu::uu::uu::uu::uu::uu::uu::uu::uu::uu::uu::uu::uu::uu::uu::uu::uu::uu::uu::uu::uu::uu::uu::uu::uu::uu::uu::uu::uu::uu::uu::uu::uu::uu::uu::uu::uu::uu::uu::uu::uu::uu::uu::uu::uu::uu::uu::uu::uu::uu::uu::uu::uu::uu::uu::uu::uu::uu::uu::uu::uu::uu::uu::uu::uu::uu::uu::uu::uu::uu::uu::uu::uu::uu::uu::uu::uu::uu::uu::uu::uu::uu::uu::[]),h22⟩) :=
  bodyV_run rfl (go_seq (go_reg0
  (pI t0 h
  (pM fun v1 h2 =>
  (pM fun v3 h4 =>
  (pM fun v5 h6 =>
  (pM fun v7 h8 =>
  (pI v7 h8
  (eN
  (go_seq (go_reg0
  (pI t0 h8
  (pM fun v9 h10 =>
  (pM fun v11 h12 =>
  (pM fun v13 h14 =>
  (pM fun v15 h16 =>
  (pM fun v17 h18 =>
  (pM fun v19 h20 =>
  (pI v19 h20
  (eN
  (go_seq (go_seq (go_reg0
  (pI v7 h20
  (pM fun v21 h22 =>
  (pI v21 h22
  (go_gdF0 rfl rfl rfl (by kernel_rfl)
  (sK
  (sK
  (by kernel_rfl)))
  (st_id (v := v7) (H := h22) (by kernel_rfl)
  (rN (st_id (v := v19) (H := h22) (by kernel_rfl)
  (rN (st_bm (by kernel_rfl) fun v23 h24 =>
  (by kernel_rfl))))))
  (by kernel_rfl))))))))))))))))))))))))))))
theorem xe28 (k wl : Nat) (h : Hp) : evF Tryz.prog xM (k + 1) wl 28 [t0] h = bodyV (xX (xS k) 28 wl k false) Tryz.f28 [t0] h := by kernel_rfl
theorem xm28_0 (zz : List V) (h : Hp) : opsP (xX s 28 wl k false) xg28_0 6 m0 ac (runK (xX s 28 wl k false) (bodyK s.P Tryz.f28) xk28_0) ⟨(t0::t1::t2::t3::t4::t5::t6::t7::t8::t9::ta::tb::tc::td::te::tf::tg::th::ti::tj::tk::tl::tm::tn::tp::tq::tr::ts::tt::tu::tv::tw::tx::ty::tz::tA::tB::tC::tD::tE::tF::tG::tH::tI::tJ::tK::tL::tM::tN::tO::tP::tQ::tR::tS::tT::tU::tV::tW::tX::tY::tZ::q0::q1::q2::q3::q4::q5::q6::q7::q8::q9::qa::qb::qc::qd::qe::qf::qg::qh::qi::qj::qk::ql::qm::qn::qo::qp::qq::qr::qs::qt::qu::qv::qw::qx::qy::qz::qA::qB::qC::qD::qE::qF::qG::qH::qJ::qK::qL::zz),h⟩ =
  bm (vPick tk (V.lit (Value.bool true)) tn) h fun v25 h26 =>
  cnd v25 (
  bm (vNil t0 h26) h26 fun v27 h28 =>
  bm (vFieldAddr s.P 54 v27 0) h28 fun v29 h30 =>
  bm (vFieldAddr s.P 32 v29 0) h30 fun v31 h32 =>
  bs (vStore s.P wl 3 v31 (V.lit (Value.int .i64 8)) h32) fun h33 =>
  bm (vNil t0 h33) h33 fun v34 h35 =>
  bm (vFieldAddr s.P 54 v34 0) h35 fun v36 h37 =>
  bm (vFieldAddr s.P 32 v36 2) h37 fun v38 h39 =>
  bm (vFieldAddr s.P 30 v38 3) h39 fun v40 h41 =>
  bs (vStore s.P wl 28 v40 (V.lit (Value.int .u64 0)) h41) fun h42 =>
  bm (vNil t0 h42) h42 fun v43 h44 =>
  bm (vFieldAddr s.P 54 v43 0) h44 fun v45 h46 =>
  bm (vFieldAddr s.P 32 v45 4) h46 fun v47 h48 =>
  bs (vStore s.P wl 3 v47 (V.lit (Value.int .i64 0)) h48) fun h49 =>
  some (.tup [],h49)) (
  bm (vBin s.P .sub 3 t2 (V.lit (Value.int .i64 2))) h26 fun v50 h51 =>
  bm (vBin s.P .quo 3 v50 (V.lit (Value.int .i64 2))) h51 fun v52 h53 =>
  bm (vBin s.P .eql 3 t2 (V.lit (Value.int .i64 0))) h53 fun v54 h55 =>
  cnd v54 (
  bm (vNil t0 h55) h55 fun v56 h57 =>
  bm (vFieldAddr s.P 54 v56 3) h57 fun v58 h59 =>
  bm (vLoad s.P 26 v58 h59) h59 fun v60 h61 =>
  bp (callV (xX s 28 wl k false) false true (.fn (.func 13) [] []) [v60,(V.lit (Value.int .i64 4))] h61) fun v62 h63 =>
  bm (vNil t0 h63) h63 fun v64 h65 =>
  bm (vFieldAddr s.P 54 v64 0) h65 fun v66 h67 =>
  bm (vFieldAddr s.P 32 v66 2) h67 fun v68 h69 =>
  bm (vFieldAddr s.P 30 v68 3) h69 fun v70 h71 =>
  bs (vStore s.P wl 28 v70 v62 h71) fun h72 =>
  runK (xX s 28 wl k false) (bodyK s.P Tryz.f28) xk28_1 .norm ⟨(t0::t1::t2::t3::(V.lit (Value.bool false))::v52::t6::t7::t8::t9::ta::tb::tc::td::te::tf::tg::th::ti::tj::tk::tl::tm::tn::v25::tq::tr::ts::tt::tu::tv::tw::tx::ty::tz::tA::tB::tC::t2::v50::v52::tG::tH::tI::tJ::tK::tL::tM::tN::tO::tP::tQ::tR::tS::tT::tU::tV::tW::tX::tY::v54::t2::v54::t0::t0::v56::v58::v60::v62::v64::v66::v68::v70::qc::qd::qe::qf::qg::qh::qi::qj::qk::ql::qm::qn::qo::qp::qq::qr::qs::qt::qu::qv::qw::qx::qy::qz::qA::qB::qC::qD::qE::qF::qG::qH::qJ::qK::qL::zz),h72⟩) (
  bm (vBin s.P .eql 3 t2 (V.lit (Value.int .i64 1))) h55 fun v73 h74 =>
  cnd v73 (
  bm (vNil t0 h74) h74 fun v75 h76 =>
  bm (vFieldAddr s.P 54 v75 3) h76 fun v77 h78 =>
  bm (vLoad s.P 26 v77 h78) h78 fun v79 h80 =>
  bp (callV (xX s 28 wl k false) true true (.fn (.func 13) [] []) [v79,(V.lit (Value.int .i64 5))] h80) fun v81 h82 =>
  stO h74.length t0 (
  bm (vNil t0 h82) h82 fun v83 h84 =>
  bm (vFieldAddr s.P 54 v83 0) h84 fun v85 h86 =>
  bm (vFieldAddr s.P 32 v85 2) h86 fun v87 h88 =>
  bm (vFieldAddr s.P 30 v87 3) h88 fun v89 h90 =>
  stO h74.length v89 (
  bm (vLoad s.P 28 v89 h90) h90 fun v91 h92 =>
  bm (vBin s.P .neq 28 v81 v91) h92 fun v93 h94 =>
  runK (xX s 28 wl k false) (bodyK s.P Tryz.f28) xk28_1 .norm ⟨(t0::t1::t2::t3::v93::v52::t6::t7::t8::t9::ta::tb::tc::td::te::tf::tg::th::ti::tj::tk::tl::tm::tn::v25::tq::tr::ts::tt::tu::tv::tw::tx::ty::tz::tA::tB::tC::t2::v50::v52::tG::tH::tI::tJ::tK::tL::tM::tN::tO::tP::tQ::tR::tS::tT::tU::tV::tW::tX::tY::v54::t2::v54::q2::q3::q4::q5::q6::q7::q8::q9::qa::qb::v73::t2::v73::t0::v75::v77::v79::v81::t0::v83::v85::v87::v89::v91::v93::qr::qs::qt::qu::qv::qw::qx::qy::qz::qA::qB::qC::qD::qE::qF::qG::qH::qJ::qK::qL::zz),h94⟩))) (
  bm (vBin s.P .rem 3 t2 (V.lit (Value.int .i64 2))) h74 fun v95 h96 =>
  bm (vBin s.P .eql 3 v95 (V.lit (Value.int .i64 0))) h96 fun v97 h98 =>
  cnd v97 (
  stO h98.length t0 (
  bm (vNil t0 h98) h98 fun v99 h100 =>
  bm (vFieldAddr s.P 54 v99 3) h100 fun v101 h102 =>
  stO h98.length v101 (
  bm (vLoad s.P 26 v101 h102) h102 fun v103 h104 =>
  bm (vNil t0 h104) h104 fun v105 h106 =>
  bm (vFieldAddr s.P 54 v105 1) h106 fun v107 h108 =>
  bm (vLoad s.P 23 v107 h108) h108 fun v109 h110 =>
  bp (callV (xX s 28 wl k false) true true (.fn (.func 52) [] []) [v109,v52] h110) fun v111 h112 =>
  bp (callV (xX s 28 wl k false) false true (.fn (.func 13) [] []) [v103,v111] h112) fun v113 h114 =>
  bm (vNil t0 h114) h114 fun v115 h116 =>
  bm (vFieldAddr s.P 54 v115 0) h116 fun v117 h118 =>
  bm (vFieldAddr s.P 32 v117 2) h118 fun v119 h120 =>
  bm (vFieldAddr s.P 30 v119 3) h120 fun v121 h122 =>
  bs (vStore s.P wl 28 v121 v113 h122) fun h123 =>
  runK (xX s 28 wl k false) (bodyK s.P Tryz.f28) xk28_1 .norm ⟨(t0::t1::t2::t3::(V.lit (Value.bool false))::v52::t6::t7::t8::t9::ta::tb::tc::td::te::tf::tg::th::ti::tj::tk::tl::tm::tn::v25::tq::tr::ts::tt::tu::tv::tw::tx::ty::tz::tA::tB::tC::t2::v50::v52::tG::tH::tI::tJ::tK::tL::tM::tN::tO::tP::tQ::tR::tS::tT::tU::tV::tW::tX::tY::v54::t2::v54::q2::q3::q4::q5::q6::q7::q8::q9::qa::qb::v73::t2::v73::qf::qg::qh::qi::qj::qk::ql::qm::qn::qo::qp::qq::v97::t2::v95::v97::t0::t0::v99::v101::v103::t0::v105::v107::v109::v52::v111::v113::v115::v117::v119::v121::zz),h123⟩))) (
  stO h98.length t0 (
  bm (vNil t0 h98) h98 fun v124 h125 =>
  bm (vFieldAddr s.P 54 v124 3) h125 fun v126 h127 =>
  stO h98.length v126 (
  bm (vLoad s.P 26 v126 h127) h127 fun v128 h129 =>
  bm (vNil t0 h129) h129 fun v130 h131 =>
  bm (vFieldAddr s.P 54 v130 1) h131 fun v132 h133 =>
  bm (vLoad s.P 23 v132 h133) h133 fun v134 h135 =>
  bp (callV (xX s 28 wl k false) true true (.fn (.func 54) [] []) [v134,v52] h135) fun v136 h137 =>
  bp (callV (xX s 28 wl k false) true true (.fn (.func 13) [] []) [v128,v136] h137) fun v138 h139 =>
  stO h98.length t0 (
  bm (vNil t0 h139) h139 fun v140 h141 =>
  bm (vFieldAddr s.P 54 v140 0) h141 fun v142 h143 =>
  bm (vFieldAddr s.P 32 v142 2) h143 fun v144 h145 =>
  bm (vFieldAddr s.P 30 v144 3) h145 fun v146 h147 =>
  stO h98.length v146 (
  bm (vLoad s.P 28 v146 h147) h147 fun v148 h149 =>
  bp (callV (xX s 28 wl k false) false true (.fn (.func 53) [] []) [v138,v148] h149) fun v150 h151 =>
  bm (vBin s.P .gtr 3 v150 (V.lit (Value.int .i64 0))) h151 fun v152 h153 =>
  runK (xX s 28 wl k false) (bodyK s.P Tryz.f28) xk28_1 .norm ⟨(t0::t1::t2::t3::v152::v52::t6::t7::t8::t9::ta::tb::tc::td::te::tf::tg::th::ti::tj::tk::tl::tm::tn::v25::tq::tr::ts::tt::tu::tv::tw::tx::ty::tz::tA::tB::tC::t2::v50::v52::t0::v124::v126::v128::t0::v130::v132::v134::v52::v136::v138::t0::v140::v142::v144::v146::v148::v150::v152::v54::t2::v54::q2::q3::q4::q5::q6::q7::q8::q9::qa::qb::v73::t2::v73::qf::qg::qh::qi::qj::qk::ql::qm::qn::qo::qp::qq::v97::t2::v95::v97::qv::qw::qx::qy::qz::qA::qB::qC::qD::qE::qF::qG::qH::qJ::qK::qL::zz),h153⟩)))))))) :=
  (pM fun v25 h26 =>
  (eN
  (go_cond (by kernel_rfl)
  (go_seq (go_reg0
  (pI t0 h26
  (pI t0 h26
  (pI t0 h26
  (pM fun v27 h28 =>
  (pM fun v29 h30 =>
  (pM fun v31 h32 =>
  (pS fun h33 =>
  (pM fun v34 h35 =>
  (pM fun v36 h37 =>
  (pM fun v38 h39 =>
  (pM fun v40 h41 =>
  (pS fun h42 =>
  (pM fun v43 h44 =>
  (pM fun v45 h46 =>
  (pM fun v47 h48 =>
  (pS fun h49 =>
  (eN
  (go_ret (rt_seq_ret (by kernel_rfl))))))))))))))))))))))
  (go_skip (go_seq (go_reg0
  (go_op0 rfl rfl (st_id (v := (V.lit (Value.bool false))) (H := h26) (by kernel_rfl)
  (eN
  (go_seq (go_reg0
  (pI t2 h26
  (pM fun v50 h51 =>
  (pM fun v52 h53 =>
  (pI v52 h53
  (eN
  (go_seq (go_block (go_seq (go_reg0
  (pI t2 h53
  (pM fun v54 h55 =>
  (pI v54 h55
  (eN
  (go_cond (by kernel_rfl)
  (go_reg0
  (pI t0 h55
  (pI t0 h55
  (pM fun v56 h57 =>
  (pM fun v58 h59 =>
  (pM fun v60 h61 =>
  (pP fun v62 h63 =>
  (pM fun v64 h65 =>
  (pM fun v66 h67 =>
  (pM fun v68 h69 =>
  (pM fun v70 h71 =>
  (pS fun h72 =>
  (eN
  (by kernel_rfl))))))))))))))
  (go_seq (go_reg0
  (pI t2 h55
  (pM fun v73 h74 =>
  (pI v73 h74
  (eN
  (go_cond (by kernel_rfl)
  (go_reg1 xo28_10r
  (qI xo28_10 xo28_10a t0 h74
  (qM xo28_10 xo28_10a fun v75 h76 =>
  (qM xo28_10 xo28_10a fun v77 h78 =>
  (qM xo28_10 xo28_10a fun v79 h80 =>
  (qP xo28_10 xo28_10a fun v81 h82 =>
  (qI xo28_10 xo28_10a t0 h82
  (go_op1 xo28_10 xo28_10a rfl rfl rfl (st_yes (by kernel_rfl) (st_bm (by kernel_rfl) fun v83 h84 =>
  (qM xo28_10 xo28_10a fun v85 h86 =>
  (qM xo28_10 xo28_10a fun v87 h88 =>
  (qM xo28_10 xo28_10a fun v89 h90 =>
  (go_op1 xo28_10 xo28_10a rfl rfl rfl (st_yes (by kernel_rfl) (st_bm (by kernel_rfl) fun v91 h92 =>
  (qM xo28_10 xo28_10a fun v93 h94 =>
  (qI xo28_10 xo28_10a v93 h94
  (go_end1 xo28_10 (by kernel_rfl) xo28_10a
  (by kernel_rfl))))))))))))))))))))
  (go_seq (go_reg0
  (pI t2 h74
  (pM fun v95 h96 =>
  (pM fun v97 h98 =>
  (pI v97 h98
  (eN
  (go_cond (by kernel_rfl)
  (go_reg1 xo28_12r
  (qI xo28_12 xo28_12a t0 h98
  (qI xo28_12 xo28_12a t0 h98
  (go_op1 xo28_12 xo28_12a rfl rfl rfl (st_yes (by kernel_rfl) (st_bm (by kernel_rfl) fun v99 h100 =>
  (qM xo28_12 xo28_12a fun v101 h102 =>
  (go_op1 xo28_12 xo28_12a rfl rfl rfl (st_yes (by kernel_rfl) (st_bm (by kernel_rfl) fun v103 h104 =>
  (qI xo28_12 xo28_12a t0 h104
  (qM xo28_12 xo28_12a fun v105 h106 =>
  (qM xo28_12 xo28_12a fun v107 h108 =>
  (qM xo28_12 xo28_12a fun v109 h110 =>
  (qI xo28_12 xo28_12a v52 h110
  (qP xo28_12 xo28_12a fun v111 h112 =>
  (qP xo28_12 xo28_12a fun v113 h114 =>
  (qM xo28_12 xo28_12a fun v115 h116 =>
  (qM xo28_12 xo28_12a fun v117 h118 =>
  (qM xo28_12 xo28_12a fun v119 h120 =>
  (qM xo28_12 xo28_12a fun v121 h122 =>
  (qS xo28_12 xo28_12a fun h123 =>
  (go_end1 xo28_12 (by kernel_rfl) xo28_12a
  (by kernel_rfl))))))))))))))))))))))))
  (go_reg1 xo28_6r
  (qI xo28_6 xo28_6a t0 h98
  (go_op1 xo28_6 xo28_6a rfl rfl rfl (st_yes (by kernel_rfl) (st_bm (by kernel_rfl) fun v124 h125 =>
  (qM xo28_6 xo28_6a fun v126 h127 =>
  (go_op1 xo28_6 xo28_6a rfl rfl rfl (st_yes (by kernel_rfl) (st_bm (by kernel_rfl) fun v128 h129 =>
  (qI xo28_6 xo28_6a t0 h129
  (qM xo28_6 xo28_6a fun v130 h131 =>
  (qM xo28_6 xo28_6a fun v132 h133 =>
  (qM xo28_6 xo28_6a fun v134 h135 =>
  (qI xo28_6 xo28_6a v52 h135
  (qP xo28_6 xo28_6a fun v136 h137 =>
  (qP xo28_6 xo28_6a fun v138 h139 =>
  (qI xo28_6 xo28_6a t0 h139
  (go_op1 xo28_6 xo28_6a rfl rfl rfl (st_yes (by kernel_rfl) (st_bm (by kernel_rfl) fun v140 h141 =>
  (qM xo28_6 xo28_6a fun v142 h143 =>
  (qM xo28_6 xo28_6a fun v144 h145 =>
  (qM xo28_6 xo28_6a fun v146 h147 =>
  (go_op1 xo28_6 xo28_6a rfl rfl rfl (st_yes (by kernel_rfl) (st_bm (by kernel_rfl) fun v148 h149 =>
  (qP xo28_6 xo28_6a fun v150 h151 =>
  (qM xo28_6 xo28_6a fun v152 h153 =>
  (qI xo28_6 xo28_6a v152 h153
  (go_end1 xo28_6 (by kernel_rfl) xo28_6a
  (by kernel_rfl)))))))))))))))))))))))))))))))))))))))))))))))))))))))))))))))))))))))
theorem xj28_1 (h : Hp) : runK (xX s 28 wl k false) (bodyK s.P Tryz.f28) xk28_1 .norm ⟨(t0::t1::t2::t3::t4::t5::t6::t7::t8::t9::ta::tb::tc::td::te::tf::tg::th::ti::tj::tk::tl::tm::tn::tp::tq::tr::ts::tt::tu::tv::tw::tx::ty::tz::tA::tB::tC::tD::tE::tF::tG::tH::tI::tJ::tK::tL::tM::tN::tO::tP::tQ::tR::tS::tT::tU::tV::tW::tX::tY::tZ::q0::q1::q2::q3::q4::q5::q6::q7::q8::q9::qa::qb::qc::qd::qe::qf::qg::qh::qi::qj::qk::ql::qm::qn::qo::qp::qq::qr::qs::qt::qu::qv::qw::qx::qy::qz::qA::qB::qC::qD::qE::qF::qG::qH::qJ::qK::qL::qN::qO::qQ::qR::qT::qU::qV::qW::qX::qY::qZ::z0::z1::z2::z3::z4::z5::z6::z7::z8::z9::za::zb::zc::zd::ze::zf::zg::zh::zi::zj::zk::[]),h⟩ =
  cnd t4 (
  bp (callV (xX s 28 wl k false) false true (.fn (.func 47) [] []) [t0,(V.lit (Value.int .i64 1))] h) fun v154 h155 =>
  some (.tup [],h155)) (
  bm (vNil t0 h) h fun v156 h157 =>
  bm (vFieldAddr s.P 54 v156 0) h157 fun v158 h159 =>
  bm (vFieldAddr s.P 32 v158 4) h159 fun v160 h161 =>
  bm (vLoad s.P 3 v160 h161) h161 fun v162 h163 =>
  bm (vBin s.P .add 3 v162 (V.lit (Value.int .i64 1))) h163 fun v164 h165 =>
  bm (vNil t0 h165) h165 fun v166 h167 =>
  bm (vFieldAddr s.P 54 v166 0) h167 fun v168 h169 =>
  bm (vFieldAddr s.P 32 v168 4) h169 fun v170 h171 =>
  bs (vStore s.P wl 3 v170 v164 h171) fun h172 =>
  bm (vNil t0 h172) h172 fun v173 h174 =>
  bm (vFieldAddr s.P 54 v173 0) h174 fun v175 h176 =>
  bm (vFieldAddr s.P 32 v175 4) h176 fun v177 h178 =>
  bm (vLoad s.P 3 v177 h178) h178 fun v179 h180 =>
  bm (vBin s.P .eql 3 v179 t3) h180 fun v181 h182 =>
  cnd v181 (
  bm (vNil t0 h182) h182 fun v183 h184 =>
  bm (vFieldAddr s.P 54 v183 0) h184 fun v185 h186 =>
  bm (vFieldAddr s.P 32 v185 0) h186 fun v187 h188 =>
  bs (vStore s.P wl 3 v187 (V.lit (Value.int .i64 8)) h188) fun h189 =>
  bm (vNil t0 h189) h189 fun v190 h191 =>
  bm (vFieldAddr s.P 54 v190 0) h191 fun v192 h193 =>
  bm (vFieldAddr s.P 32 v192 2) h193 fun v194 h195 =>
  bm (vFieldAddr s.P 30 v194 3) h195 fun v196 h197 =>
  bs (vStore s.P wl 28 v196 (V.lit (Value.int .u64 0)) h197) fun h198 =>
  bm (vNil t0 h198) h198 fun v199 h200 =>
  bm (vFieldAddr s.P 54 v199 0) h200 fun v201 h202 =>
  bm (vFieldAddr s.P 32 v201 4) h202 fun v203 h204 =>
  bs (vStore s.P wl 3 v203 (V.lit (Value.int .i64 0)) h204) fun h205 =>
  some (.tup [],h205)) (
  some (.tup [],h182))) :=
  (rt_block_norm (go_seq (go_seq (go_reg0
  (pI t4 h
  (eN
  (go_cond (by kernel_rfl)
  (go_seq (go_reg0
  (pI t0 h
  (pP fun v154 h155 =>
  (eN
  (go_ret (rt_seq_ret (by kernel_rfl))))))))
  (go_skip (go_seq (go_reg0
  (pI t0 h
  (pM fun v156 h157 =>
  (pM fun v158 h159 =>
  (pM fun v160 h161 =>
  (pM fun v162 h163 =>
  (pM fun v164 h165 =>
  (pM fun v166 h167 =>
  (pM fun v168 h169 =>
  (pM fun v170 h171 =>
  (pS fun h172 =>
  (eN
  (go_seq (go_reg0
  (pI t0 h172
  (pM fun v173 h174 =>
  (pM fun v175 h176 =>
  (pM fun v177 h178 =>
  (pM fun v179 h180 =>
  (pI t3 h180
  (pM fun v181 h182 =>
  (eN
  (go_cond (by kernel_rfl)
  (go_reg0
  (pI t0 h182
  (pI t0 h182
  (pI t0 h182
  (pM fun v183 h184 =>
  (pM fun v185 h186 =>
  (pM fun v187 h188 =>
  (pS fun h189 =>
  (pM fun v190 h191 =>
  (pM fun v192 h193 =>
  (pM fun v194 h195 =>
  (pM fun v196 h197 =>
  (pS fun h198 =>
  (pM fun v199 h200 =>
  (pM fun v201 h202 =>
  (pM fun v203 h204 =>
  (pS fun h205 =>
  (eN
  (by kernel_rfl)))))))))))))))))))
  (go_skip (by kernel_rfl))))))))))))))))))))))))))))))))))
theorem xk28_0_ret (cx : Cx) (K : Out → St → Option (V × Hp)) (s : St) : runK cx K xk28_0 .ret s = K .ret s := by kernel_rfl
theorem xk28_1_ret (cx : Cx) (K : Out → St → Option (V × Hp)) (s : St) : runK cx K xk28_1 .ret s = K .ret s := by kernel_rfl
-- names: xb28,xm28_0,xj28_1,xk28_0_ret,xk28_1_ret

theorem xb29 (h : Hp) : bodyV (xX s 29 wl k false) Tryz.f29 [t0] h =
  bp (callV (xX s 29 wl k false) false true (.fn (.func 46) [] []) [t0] h) fun v1 h2 =>
  cnd v1 (
  bp (callV (xX s 29 wl k false) false true (.fn (.func 47) [] []) [t0,(V.lit (Value.int .i64 1))] h2) fun v3 h4 =>
  some (.tup [],h4)) (
  some (.tup [],h2)) :=
  bodyV_run rfl (go_seq (go_reg0
  (pI t0 h
  (pP fun v1 h2 =>
  (eN
  (go_cond (by kernel_rfl)
  (go_reg0
  (pI t0 h2
  (pP fun v3 h4 =>
  (eN
  (by kernel_rfl)))))
  (go_skip (by kernel_rfl))))))))
theorem xe29 (k wl : Nat) (h : Hp) : evF Tryz.prog xM (k + 1) wl 29 [t0] h = bodyV (xX (xS k) 29 wl k false) Tryz.f29 [t0] h := by kernel_rfl
-- names: xb29,
noncomputable def xg30_0 : Code := codeAt (bodyOf Tryz.f30) [0]
noncomputable def xg30_1 : Code := codeAt (bodyOf Tryz.f30) [1,0,1,0]
theorem xo30_0 : orderIx (opsOf xg30_0) = [0,1,2,3,4,5,6,7,8,9,10] := by kernel_rfl
theorem xo30_0a : (rgOf (opsOf xg30_0)).any = false := by kernel_rfl
theorem xo30_0r : regOk (opsOf xg30_0) = true := by kernel_rfl
theorem xo30_3 : orderIx (opsOf xg30_1) = [0,1,2,3,4,5,6,7,8,9,10,11,12,13,14] := by kernel_rfl
theorem xo30_3a : (rgOf (opsOf xg30_1)).any = false := by kernel_rfl
theorem xo30_3r : regOk (opsOf xg30_1) = true := by kernel_rfl
theorem xb30 (h : Hp) : bodyV (xX s 30 wl k false) Tryz.f30 [t0] h =
  bm (vNil t0 h) h fun v1 h2 =>
  bm (vFieldAddr s.P 54 v1 2) h2 fun v3 h4 =>
  bm (vLoad s.P 24 v3 h4) h4 fun v5 h6 =>
  bm (vNil t0 h6) h6 fun v7 h8 =>
  bm (vFieldAddr s.P 54 v7 0) h8 fun v9 h10 =>
  bm (vFieldAddr s.P 32 v9 1) h10 fun v11 h12 =>
  bm (vLoad s.P 27 v11 h12) h12 fun v13 h14 =>
  bp (callV (xX s 30 wl k false) false true (.fn (.func 55) [] []) [v5,v13] h14) fun v15 h16 =>
  bm (vField s.P 78 v15 0) h16 fun v17 h18 =>
  bm (vBin s.P .eql 3 v17 (V.lit (Value.int .i64 1))) h18 fun v19 h20 =>
  cnd v19 (
  bm (vNil t0 h20) h20 fun v21 h22 =>
  bm (vFieldAddr s.P 54 v21 2) h22 fun v23 h24 =>
  bm (vLoad s.P 24 v23 h24) h24 fun v25 h26 =>
  bm (vNil t0 h26) h26 fun v27 h28 =>
  bm (vFieldAddr s.P 54 v27 0) h28 fun v29 h30 =>
  bm (vFieldAddr s.P 32 v29 1) h30 fun v31 h32 =>
  bm (vLoad s.P 27 v31 h32) h32 fun v33 h34 =>
  bp (callV (xX s 30 wl k false) false true (.fn (.func 56) [] []) [v25,v33] h34) fun v35 h36 =>
  bm (vNil t0 h36) h36 fun v37 h38 =>
  bm (vFieldAddr s.P 54 v37 0) h38 fun v39 h40 =>
  bm (vFieldAddr s.P 32 v39 1) h40 fun v41 h42 =>
  bs (vStore s.P wl 27 v41 v35 h42) fun h43 =>
  some (.tup [],h43)) (
  bm (vBin s.P .eql 3 v17 (V.lit (Value.int .i64 2))) h20 fun v44 h45 =>
  cnd v44 (
  bm (vNil t0 h45) h45 fun v46 h47 =>
  bm (vFieldAddr s.P 54 v46 0) h47 fun v48 h49 =>
  bm (vFieldAddr s.P 32 v48 0) h49 fun v50 h51 =>
  bs (vStore s.P wl 3 v50 (V.lit (Value.int .i64 10)) h51) fun h52 =>
  some (.tup [],h52)) (
  bm (vBin s.P .eql 3 v17 (V.lit (Value.int .i64 3))) h45 fun v53 h54 =>
  cnd v53 (
  bm (vNil t0 h54) h54 fun v55 h56 =>
  bm (vFieldAddr s.P 54 v55 0) h56 fun v57 h58 =>
  bm (vFieldAddr s.P 32 v57 0) h58 fun v59 h60 =>
  bs (vStore s.P wl 3 v59 (V.lit (Value.int .i64 15)) h60) fun h61 =>
  some (.tup [],h61)) (
  bm (vNil t0 h54) h54 fun v62 h63 =>
  bm (vFieldAddr s.P 54 v62 4) h63 fun v64 h65 =>
  bm (vLoad s.P 3 v64 h65) h65 fun v66 h67 =>
  bp (callV (xX s 30 wl k false) false true (.fn (.func 50) [] []) [t0,(V.lit (Value.int .i64 0)),(V.lit (Value.int .i64 1)),v66,(V.lit (Value.int .u64 0))] h67) fun v68 h69 =>
  some (.tup [],h69)))) :=
  bodyV_run rfl (go_seq (go_reg1 xo30_0r
  (qI xo30_0 xo30_0a t0 h
  (qM xo30_0 xo30_0a fun v1 h2 =>
  (qM xo30_0 xo30_0a fun v3 h4 =>
  (qM xo30_0 xo30_0a fun v5 h6 =>
  (qI xo30_0 xo30_0a t0 h6
  (qM xo30_0 xo30_0a fun v7 h8 =>
  (qM xo30_0 xo30_0a fun v9 h10 =>
  (qM xo30_0 xo30_0a fun v11 h12 =>
  (qM xo30_0 xo30_0a fun v13 h14 =>
  (qP xo30_0 xo30_0a fun v15 h16 =>
  (qM xo30_0 xo30_0a fun v17 h18 =>
  (go_end1 xo30_0 (by kernel_rfl) xo30_0a
  (go_block (go_seq (go_reg0
  (pM fun v19 h20 =>
  (pI v19 h20
  (eN
  (go_cond (by kernel_rfl)
  (go_reg1 xo30_3r
  (qI xo30_3 xo30_3a t0 h20
  (qI xo30_3 xo30_3a t0 h20
  (qM xo30_3 xo30_3a fun v21 h22 =>
  (qM xo30_3 xo30_3a fun v23 h24 =>
  (qM xo30_3 xo30_3a fun v25 h26 =>
  (qI xo30_3 xo30_3a t0 h26
  (qM xo30_3 xo30_3a fun v27 h28 =>
  (qM xo30_3 xo30_3a fun v29 h30 =>
  (qM xo30_3 xo30_3a fun v31 h32 =>
  (qM xo30_3 xo30_3a fun v33 h34 =>
  (qP xo30_3 xo30_3a fun v35 h36 =>
  (qM xo30_3 xo30_3a fun v37 h38 =>
  (qM xo30_3 xo30_3a fun v39 h40 =>
  (qM xo30_3 xo30_3a fun v41 h42 =>
  (qS xo30_3 xo30_3a fun h43 =>
  (go_end1 xo30_3 (by kernel_rfl) xo30_3a
  (rt_block_norm (by kernel_rfl)))))))))))))))))))
  (go_seq (go_reg0
  (pM fun v44 h45 =>
  (pI v44 h45
  (eN
  (go_cond (by kernel_rfl)
  (go_reg0
  (pI t0 h45
  (pM fun v46 h47 =>
  (pM fun v48 h49 =>
  (pM fun v50 h51 =>
  (pS fun h52 =>
  (eN
  (rt_block_norm (by kernel_rfl)))))))))
  (go_seq (go_reg0
  (pM fun v53 h54 =>
  (pI v53 h54
  (eN
  (go_cond (by kernel_rfl)
  (go_reg0
  (pI t0 h54
  (pM fun v55 h56 =>
  (pM fun v57 h58 =>
  (pM fun v59 h60 =>
  (pS fun h61 =>
  (eN
  (rt_block_norm (by kernel_rfl)))))))))
  (go_reg0
  (pI t0 h54
  (pI t0 h54
  (pM fun v62 h63 =>
  (pM fun v64 h65 =>
  (pM fun v66 h67 =>
  (pP fun v68 h69 =>
  (eN
  (rt_block_norm (by kernel_rfl)))))))))))))))))))))))))))))))))))))))))))
theorem xe30 (k wl : Nat) (h : Hp) : evF Tryz.prog xM (k + 1) wl 30 [t0] h = bodyV (xX (xS k) 30 wl k false) Tryz.f30 [t0] h := by kernel_rfl
-- names: xb30,
noncomputable def xg31_0 : Code := codeAt (bodyOf Tryz.f31) [0]
noncomputable def xg31_1 : Code := codeAt (bodyOf Tryz.f31) [1,1,1,1,0]
noncomputable def xg31_2 : Code := codeAt (bodyOf Tryz.f31) [1,1,1,1,1]
theorem xo31_0 : orderIx (opsOf xg31_0) = [10,0,1,2,3,4,5,6,7,8,9,11] := by kernel_rfl
theorem xo31_0a : (rgOf (opsOf xg31_0)).any = false := by kernel_rfl
theorem xo31_0r : regOk (opsOf xg31_0) = true := by kernel_rfl
theorem xo31_5 : orderIx (opsOf xg31_1) = [0,1,2,3,4,5,6,7,8,9,10,11,12,13,14] := by kernel_rfl
theorem xo31_5a : (rgOf (opsOf xg31_1)).any = false := by kernel_rfl
theorem xo31_5r : regOk (opsOf xg31_1) = true := by kernel_rfl
theorem xo31_6 : orderIx (opsOf xg31_2) = [0,1,2,3,4,5,6,7,8] := by kernel_rfl
theorem xo31_6a : (rgOf (opsOf xg31_2)).any = false := by kernel_rfl
theorem xo31_6r : regOk (opsOf xg31_2) = true := by kernel_rfl
theorem xb31 (h : Hp) : bodyV (xX s 31 wl k false) Tryz.f31 [t0] h =
  bp (opAlloc s.P 78 h) fun v1 h2 =>
  bm (vNil t0 h2) h2 fun v3 h4 =>
  bm (vFieldAddr s.P 54 v3 2) h4 fun v5 h6 =>
  bm (vLoad s.P 24 v5 h6) h6 fun v7 h8 =>
  bm (vNil t0 h8) h8 fun v9 h10 =>
  bm (vFieldAddr s.P 54 v9 0) h10 fun v11 h12 =>
  bm (vFieldAddr s.P 32 v11 1) h12 fun v13 h14 =>
  bm (vLoad s.P 27 v13 h14) h14 fun v15 h16 =>
  bp (callV (xX s 31 wl k false) true true (.fn (.func 55) [] []) [v7,v15] h16) fun v17 h18 =>
  bs (vStore s.P wl 78 v1 v17 h18) fun h19 =>
  bm (vFieldAddr s.P 78 v1 0) h19 fun v20 h21 =>
  bm (vLoad s.P 3 v20 h21) h21 fun v22 h23 =>
  bm (vBin s.P .neq 3 v22 (V.lit (Value.int .i64 2))) h23 fun v24 h25 =>
  cnd v24 (
  bp (callV (xX s 31 wl k false) false true (.fn (.func 47) [] []) [t0,(V.lit (Value.int .i64 9))] h25) fun v26 h27 =>
  some (.tup [],h27)) (
  bp (callV (xX s 31 wl k false) false true (.fn (.func 49) [] []) [t0,(V.lit (Value.int .i64 0)),(V.lit (Value.int .u64 1))] h25) fun v28 h29 =>
  bm (vFieldAddr s.P 78 v1 1) h29 fun v30 h31 =>
  bm (vLoad s.P 3 v30 h31) h31 fun v32 h33 =>
  bp (callV (xX s 31 wl k false) false true (.fn (.func 57) [] []) [t0,(V.lit (Value.int .i64 3)),v32] h33) fun v34 h35 =>
  bm (vNil t0 h35) h35 fun v36 h37 =>
  bm (vFieldAddr s.P 54 v36 2) h37 fun v38 h39 =>
  bm (vLoad s.P 24 v38 h39) h39 fun v40 h41 =>
  bm (vNil t0 h41) h41 fun v42 h43 =>
  bm (vFieldAddr s.P 54 v42 0) h43 fun v44 h45 =>
  bm (vFieldAddr s.P 32 v44 1) h45 fun v46 h47 =>
  bm (vLoad s.P 27 v46 h47) h47 fun v48 h49 =>
  bp (callV (xX s 31 wl k false) false true (.fn (.func 56) [] []) [v40,v48] h49) fun v50 h51 =>
  bm (vNil t0 h51) h51 fun v52 h53 =>
  bm (vFieldAddr s.P 54 v52 0) h53 fun v54 h55 =>
  bm (vFieldAddr s.P 32 v54 1) h55 fun v56 h57 =>
  bs (vStore s.P wl 27 v56 v50 h57) fun h58 =>
  bm (vNil t0 h58) h58 fun v59 h60 =>
  bm (vFieldAddr s.P 54 v59 4) h60 fun v61 h62 =>
  bm (vLoad s.P 3 v61 h62) h62 fun v63 h64 =>
  bm (vFieldAddr s.P 78 v1 1) h64 fun v65 h66 =>
  bm (vLoad s.P 3 v65 h66) h66 fun v67 h68 =>
  bm (vConv s.P 3 28 v67) h68 fun v69 h70 =>
  bp (callV (xX s 31 wl k false) false true (.fn (.func 50) [] []) [t0,(V.lit (Value.int .i64 11)),(V.lit (Value.int .i64 0)),v63,v69] h70) fun v71 h72 =>
  some (.tup [],h72)) :=
  bodyV_run rfl (go_seq (go_reg1 xo31_0r
  (qP xo31_0 xo31_0a fun v1 h2 =>
  (qI xo31_0 xo31_0a t0 h2
  (qM xo31_0 xo31_0a fun v3 h4 =>
  (qM xo31_0 xo31_0a fun v5 h6 =>
  (qM xo31_0 xo31_0a fun v7 h8 =>
  (qI xo31_0 xo31_0a t0 h8
  (qM xo31_0 xo31_0a fun v9 h10 =>
  (qM xo31_0 xo31_0a fun v11 h12 =>
  (qM xo31_0 xo31_0a fun v13 h14 =>
  (qM xo31_0 xo31_0a fun v15 h16 =>
  (qP xo31_0 xo31_0a fun v17 h18 =>
  (qS xo31_0 xo31_0a fun h19 =>
  (go_end1 xo31_0 (by kernel_rfl) xo31_0a
  (go_seq (go_seq (go_reg0
  (pM fun v20 h21 =>
  (pM fun v22 h23 =>
  (pM fun v24 h25 =>
  (eN
  (go_cond (by kernel_rfl)
  (go_seq (go_reg0
  (pI t0 h25
  (pP fun v26 h27 =>
  (eN
  (go_ret (rt_seq_ret (by kernel_rfl))))))))
  (go_skip (go_seq (go_reg0
  (pI t0 h25
  (pP fun v28 h29 =>
  (eN
  (go_seq (go_reg0
  (pI t0 h29
  (pM fun v30 h31 =>
  (pM fun v32 h33 =>
  (pP fun v34 h35 =>
  (eN
  (go_seq (go_reg1 xo31_5r
  (qI xo31_5 xo31_5a t0 h35
  (qI xo31_5 xo31_5a t0 h35
  (qM xo31_5 xo31_5a fun v36 h37 =>
  (qM xo31_5 xo31_5a fun v38 h39 =>
  (qM xo31_5 xo31_5a fun v40 h41 =>
  (qI xo31_5 xo31_5a t0 h41
  (qM xo31_5 xo31_5a fun v42 h43 =>
  (qM xo31_5 xo31_5a fun v44 h45 =>
  (qM xo31_5 xo31_5a fun v46 h47 =>
  (qM xo31_5 xo31_5a fun v48 h49 =>
  (qP xo31_5 xo31_5a fun v50 h51 =>
  (qM xo31_5 xo31_5a fun v52 h53 =>
  (qM xo31_5 xo31_5a fun v54 h55 =>
  (qM xo31_5 xo31_5a fun v56 h57 =>
  (qS xo31_5 xo31_5a fun h58 =>
  (go_end1 xo31_5 (by kernel_rfl) xo31_5a
  (go_reg1 xo31_6r
  (qI xo31_6 xo31_6a t0 h58
  (qI xo31_6 xo31_6a t0 h58
  (qM xo31_6 xo31_6a fun v59 h60 =>
  (qM xo31_6 xo31_6a fun v61 h62 =>
  (qM xo31_6 xo31_6a fun v63 h64 =>
  (qM xo31_6 xo31_6a fun v65 h66 =>
  (qM xo31_6 xo31_6a fun v67 h68 =>
  (qM xo31_6 xo31_6a fun v69 h70 =>
  (qP xo31_6 xo31_6a fun v71 h72 =>
  (go_end1 xo31_6 (by kernel_rfl) xo31_6a
  (by kernel_rfl))))))))))))))))))))))))))))))))))))))))))))))))))))))))))))))))))
theorem xe31 (k wl : Nat) (h : Hp) : evF Tryz.prog xM (k + 1) wl 31 [t0] h = bodyV (xX (xS k) 31 wl k false) Tryz.f31 [t0] h := by kernel_rfl
-- names: xb31,
noncomputable def xg32_0 : Code := codeAt (bodyOf Tryz.f32) [0,1,1,1,0]
theorem xo32_3 : orderIx (opsOf xg32_0) = [0,1,2,3,4,5,6,7,8,9,10,11] := by kernel_rfl
theorem xo32_3a : (rgOf (opsOf xg32_0)).any = false := by kernel_rfl
theorem xo32_3r : regOk (opsOf xg32_0) = true := by kernel_rfl
theorem xb32 (h : Hp) : bodyV (xX s 32 wl k false) Tryz.f32 [t0] h =
  bp (callV (xX s 32 wl k false) false true (.fn (.func 46) [] []) [t0] h) fun v1 h2 =>
  bm (vUn .not v1) h2 fun v3 h4 =>
  cnd v3 (
  some (.tup [],h4)) (
  bm (vNil t0 h4) h4 fun v5 h6 =>
  bm (vFieldAddr s.P 54 v5 0) h6 fun v7 h8 =>
  bm (vFieldAddr s.P 32 v7 2) h8 fun v9 h10 =>
  bm (vFieldAddr s.P 30 v9 6) h10 fun v11 h12 =>
  bm (vLoad s.P 3 v11 h12) h12 fun v13 h14 =>
  bm (vBin s.P .eql 3 v13 (V.lit (Value.int .i64 2))) h14 fun v15 h16 =>
  cnd v15 (
  bm (vNil t0 h16) h16 fun v17 h18 =>
  bm (vFieldAddr s.P 54 v17 4) h18 fun v19 h20 =>
  bm (vLoad s.P 3 v19 h20) h20 fun v21 h22 =>
  bm (vNil t0 h22) h22 fun v23 h24 =>
  bm (vFieldAddr s.P 54 v23 0) h24 fun v25 h26 =>
  bm (vFieldAddr s.P 32 v25 2) h26 fun v27 h28 =>
  bm (vFieldAddr s.P 30 v27 3) h28 fun v29 h30 =>
  bm (vLoad s.P 28 v29 h30) h30 fun v31 h32 =>
  bp (callV (xX s 32 wl k false) false true (.fn (.func 50) [] []) [t0,(V.lit (Value.int .i64 12)),(V.lit (Value.int .i64 3)),v21,v31] h32) fun v33 h34 =>
  some (.tup [],h34)) (
  bp (callV (xX s 32 wl k false) false true (.fn (.func 47) [] []) [t0,(V.lit (Value.int .i64 13))] h16) fun v35 h36 =>
  some (.tup [],h36))) :=
  bodyV_run rfl (go_block (go_seq (go_reg0
  (pI t0 h
  (pP fun v1 h2 =>
  (pM fun v3 h4 =>
  (pI v3 h4
  (eN
  (go_cond (by kernel_rfl)
  (go_skip (rt_block_norm (by kernel_rfl)))
  (go_seq (go_reg0
  (pI t0 h4
  (pM fun v5 h6 =>
  (pM fun v7 h8 =>
  (pM fun v9 h10 =>
  (pM fun v11 h12 =>
  (pM fun v13 h14 =>
  (pM fun v15 h16 =>
  (pI v15 h16
  (eN
  (go_cond (by kernel_rfl)
  (go_reg1 xo32_3r
  (qI xo32_3 xo32_3a t0 h16
  (qI xo32_3 xo32_3a t0 h16
  (qM xo32_3 xo32_3a fun v17 h18 =>
  (qM xo32_3 xo32_3a fun v19 h20 =>
  (qM xo32_3 xo32_3a fun v21 h22 =>
  (qI xo32_3 xo32_3a t0 h22
  (qM xo32_3 xo32_3a fun v23 h24 =>
  (qM xo32_3 xo32_3a fun v25 h26 =>
  (qM xo32_3 xo32_3a fun v27 h28 =>
  (qM xo32_3 xo32_3a fun v29 h30 =>
  (qM xo32_3 xo32_3a fun v31 h32 =>
  (qP xo32_3 xo32_3a fun v33 h34 =>
  (go_end1 xo32_3 (by kernel_rfl) xo32_3a
  (rt_block_norm (by kernel_rfl))))))))))))))))
  (go_reg0
  (pI t0 h16
  (pP fun v35 h36 =>
  (eN
  (rt_block_norm (by kernel_rfl)))))))))))))))))))))))))))
theorem xe32 (k wl : Nat) (h : Hp) : evF Tryz.prog xM (k + 1) wl 32 [t0] h = bodyV (xX (xS k) 32 wl k false) Tryz.f32 [t0] h := by kernel_rfl
-- names: xb32,

theorem xb33 (h : Hp) : bodyV (xX s 33 wl k false) Tryz.f33 [t0] h =
  bp (callV (xX s 33 wl k false) false true (.fn (.func 46) [] []) [t0] h) fun v1 h2 =>
  bm (vUn .not v1) h2 fun v3 h4 =>
  cnd v3 (
  some (.tup [],h4)) (
  bm (vNil t0 h4) h4 fun v5 h6 =>
  bm (vFieldAddr s.P 54 v5 0) h6 fun v7 h8 =>
  bm (vFieldAddr s.P 32 v7 2) h8 fun v9 h10 =>
  bm (vFieldAddr s.P 30 v9 6) h10 fun v11 h12 =>
  bm (vLoad s.P 3 v11 h12) h12 fun v13 h14 =>
  bm (vBin s.P .eql 3 v13 (V.lit (Value.int .i64 2))) h14 fun v15 h16 =>
  cnd v15 (
  bm (vNil t0 h16) h16 fun v17 h18 =>
  bm (vFieldAddr s.P 54 v17 0) h18 fun v19 h20 =>
  bm (vFieldAddr s.P 32 v19 2) h20 fun v21 h22 =>
  bm (vFieldAddr s.P 30 v21 3) h22 fun v23 h24 =>
  bm (vLoad s.P 28 v23 h24) h24 fun v25 h26 =>
  bp (callV (xX s 33 wl k false) false true (.fn (.func 47) [] []) [t0,(V.lit (Value.int .i64 9))] h26) fun v27 h28 =>
  bp (callV (xX s 33 wl k false) false true (.fn (.func 48) [] []) [t0,v25] h28) fun v29 h30 =>
  some (.tup [],h30)) (
  bp (callV (xX s 33 wl k false) false true (.fn (.func 47) [] []) [t0,(V.lit (Value.int .i64 13))] h16) fun v31 h32 =>
  some (.tup [],h32))) :=
  bodyV_run rfl (go_block (go_seq (go_reg0
  (pI t0 h
  (pP fun v1 h2 =>
  (pM fun v3 h4 =>
  (pI v3 h4
  (eN
  (go_cond (by kernel_rfl)
  (go_skip (rt_block_norm (by kernel_rfl)))
  (go_seq (go_reg0
  (pI t0 h4
  (pM fun v5 h6 =>
  (pM fun v7 h8 =>
  (pM fun v9 h10 =>
  (pM fun v11 h12 =>
  (pM fun v13 h14 =>
  (pM fun v15 h16 =>
  (pI v15 h16
  (eN
  (go_cond (by kernel_rfl)
  (go_seq (go_reg0
  (pI t0 h16
  (pM fun v17 h18 =>
  (pM fun v19 h20 =>
  (pM fun v21 h22 =>
  (pM fun v23 h24 =>
  (pM fun v25 h26 =>
  (pI v25 h26
  (eN
  (go_seq (go_reg0
  (pI t0 h26
  (pP fun v27 h28 =>
  (eN
  (go_reg0
  (pI t0 h28
  (pI v25 h28
  (pP fun v29 h30 =>
  (eN
  (rt_block_norm (by kernel_rfl))))))))))))))))))))))
  (go_reg0
  (pI t0 h16
  (pP fun v31 h32 =>
  (eN
  (rt_block_norm (by kernel_rfl)))))))))))))))))))))))))))
theorem xe33 (k wl : Nat) (h : Hp) : evF Tryz.prog xM (k + 1) wl 33 [t0] h = bodyV (xX (xS k) 33 wl k false) Tryz.f33 [t0] h := by kernel_rfl
-- names: xb33,

theorem xb34 (h : Hp) : bodyV (xX s 34 wl k false) Tryz.f34 [t0] h =
  bm (vNil t0 h) h fun v1 h2 =>
  bm (vFieldAddr s.P 54 v1 3) h2 fun v3 h4 =>
  bm (vLoad s.P 26 v3 h4) h4 fun v5 h6 =>
  bp (callV (xX s 34 wl k false) false true (.fn (.func 13) [] []) [v5,(V.lit (Value.int .i64 1))] h6) fun v7 h8 =>
  bm (vBin s.P .eql 28 v7 (V.lit (Value.int .u64 0))) h8 fun v9 h10 =>
  cnd v9 (
  bm (vNil t0 h10) h10 fun v11 h12 =>
  bm (vFieldAddr s.P 54 v11 4) h12 fun v13 h14 =>
  bm (vLoad s.P 3 v13 h14) h14 fun v15 h16 =>
  bp (callV (xX s 34 wl k false) false true (.fn (.func 50) [] []) [t0,(V.lit (Value.int .i64 14)),(V.lit (Value.int .i64 6)),v15,(V.lit (Value.int .u64 0))] h16) fun v17 h18 =>
  some (.tup [],h18)) (
  bp (callV (xX s 34 wl k false) false true (.fn (.func 47) [] []) [t0,(V.lit (Value.int .i64 9))] h10) fun v19 h20 =>
  some (.tup [],h20)) :=
  bodyV_run rfl (go_seq (go_reg0
  (pI t0 h
  (pM fun v1 h2 =>
  (pM fun v3 h4 =>
  (pM fun v5 h6 =>
  (pP fun v7 h8 =>
  (pM fun v9 h10 =>
  (eN
  (go_cond (by kernel_rfl)
  (go_reg0
  (pI t0 h10
  (pI t0 h10
  (pM fun v11 h12 =>
  (pM fun v13 h14 =>
  (pM fun v15 h16 =>
  (pP fun v17 h18 =>
  (eN
  (by kernel_rfl)))))))))
  (go_reg0
  (pI t0 h10
  (pP fun v19 h20 =>
  (eN
  (by kernel_rfl)))))))))))))))
theorem xe34 (k wl : Nat) (h : Hp) : evF Tryz.prog xM (k + 1) wl 34 [t0] h = bodyV (xX (xS k) 34 wl k false) Tryz.f34 [t0] h := by kernel_rfl
-- names: xb34,

theorem xb35 (h : Hp) : bodyV (xX s 35 wl k false) Tryz.f35 [t0] h =
  bp (callV (xX s 35 wl k false) false true (.fn (.func 46) [] []) [t0] h) fun v1 h2 =>
  cnd v1 (
  bp (callV (xX s 35 wl k false) false true (.fn (.func 47) [] []) [t0,(V.lit (Value.int .i64 9))] h2) fun v3 h4 =>
  some (.tup [],h4)) (
  some (.tup [],h2)) :=
  bodyV_run rfl (go_seq (go_reg0
  (pI t0 h
  (pP fun v1 h2 =>
  (eN
  (go_cond (by kernel_rfl)
  (go_reg0
  (pI t0 h2
  (pP fun v3 h4 =>
  (eN
  (by kernel_rfl)))))
  (go_skip (by kernel_rfl))))))))
theorem xe35 (k wl : Nat) (h : Hp) : evF Tryz.prog xM (k + 1) wl 35 [t0] h = bodyV (xX (xS k) 35 wl k false) Tryz.f35 [t0] h := by kernel_rfl
-- names: xb35,
noncomputable def xg36_0 : Code := codeAt (bodyOf Tryz.f36) [0]
noncomputable def xk36_0 : List Fr := [.seq (codeAt (bodyOf Tryz.f36) [1,1,1,1,1])]
noncomputable def xg36_1 : Code := codeAt (bodyOf Tryz.f36) [1,1,1,1,1,0]
theorem xo36_0 : orderIx (opsOf xg36_0) = [10,0,1,2,3,4,5,6,7,8,9,11] := by kernel_rfl
theorem xo36_0a : (rgOf (opsOf xg36_0)).any = false := by kernel_rfl
theorem xo36_0r : regOk (opsOf xg36_0) = true := by kernel_rfl
theorem xo36_7 : orderIx (opsOf xg36_1) = [0,1,2,3,4,5,6,7,8,9,10,11,12,13,14] := by kernel_rfl
theorem xo36_7a : (rgOf (opsOf xg36_1)).any = false := by kernel_rfl
theorem xo36_7r : regOk (opsOf xg36_1) = true := by kernel_rfl
theorem xb36 (h : Hp) : bodyV (xX s 36 wl k false) Tryz.f36 [t0] h =
  bp (opAlloc s.P 78 h) fun v1 h2 =>
  bm (vNil t0 h2) h2 fun v3 h4 =>
  bm (vFieldAddr s.P 54 v3 2) h4 fun v5 h6 =>
  bm (vLoad s.P 24 v5 h6) h6 fun v7 h8 =>
  bm (vNil t0 h8) h8 fun v9 h10 =>
  bm (vFieldAddr s.P 54 v9 0) h10 fun v11 h12 =>
  bm (vFieldAddr s.P 32 v11 1) h12 fun v13 h14 =>
  bm (vLoad s.P 27 v13 h14) h14 fun v15 h16 =>
  bp (callV (xX s 36 wl k false) true true (.fn (.func 55) [] []) [v7,v15] h16) fun v17 h18 =>
  bs (vStore s.P wl 78 v1 v17 h18) fun h19 =>
  bm (vFieldAddr s.P 78 v1 0) h19 fun v20 h21 =>
  bm (vLoad s.P 3 v20 h21) h21 fun v22 h23 =>
  bm (vBin s.P .neq 3 v22 (V.lit (Value.int .i64 3))) h23 fun v24 h25 =>
  cnd v24 (
  bp (callV (xX s 36 wl k false) false true (.fn (.func 47) [] []) [t0,(V.lit (Value.int .i64 9))] h25) fun v26 h27 =>
  some (.tup [],h27)) (
  bp (callV (xX s 36 wl k false) false true (.fn (.func 49) [] []) [t0,(V.lit (Value.int .i64 0)),(V.lit (Value.int .u64 18446744073709551615))] h25) fun v28 h29 =>
  bm (vFieldAddr s.P 78 v1 1) h29 fun v30 h31 =>
  bm (vLoad s.P 3 v30 h31) h31 fun v32 h33 =>
  bp (callV (xX s 36 wl k false) false true (.fn (.func 57) [] []) [t0,(V.lit (Value.int .i64 4)),v32] h33) fun v34 h35 =>
  bm (vBin s.P .eql 28 v28 (V.lit (Value.int .u64 1))) h35 fun v36 h37 =>
  cnd v36 (
  bp (callV (xX s 36 wl k false) false true (.fn (.func 57) [] []) [t0,(V.lit (Value.int .i64 5)),(V.lit (Value.int .i64 0))] h37) fun v38 h39 =>
  runK (xX s 36 wl k false) (bodyK s.P Tryz.f36) xk36_0 .norm ⟨[t0,uu,v1,v28,t0,v3,v5,v7,t0,v9,v11,v13,v15,v17,v20,v22,v24,uu,uu,t0,v28,t0,v30,v32,v34,v28,v36,t0,v38,uu,uu,uu,uu,uu,uu,uu,uu,uu,uu,uu,uu,uu,uu,uu,uu,uu,uu,uu,uu,uu,uu,uu,uu,uu,uu,uu,uu,uu],h39⟩) (
  runK (xX s 36 wl k false) (bodyK s.P Tryz.f36) xk36_0 .norm ⟨[t0,uu,v1,v28,t0,v3,v5,v7,t0,v9,v11,v13,v15,v17,v20,v22,v24,uu,uu,t0,v28,t0,v30,v32,v34,v28,v36,uu,uu,uu,uu,uu,uu,uu,uu,uu,uu,uu,uu,uu,uu,uu,uu,uu,uu,uu,uu,uu,uu,uu,uu,uu,uu,uu,uu,uu,uu,uu],h37⟩)) :=
  bodyV_run rfl (go_seq (go_reg1 xo36_0r
  (qP xo36_0 xo36_0a fun v1 h2 =>
  (qI xo36_0 xo36_0a t0 h2
  (qM xo36_0 xo36_0a fun v3 h4 =>
  (qM xo36_0 xo36_0a fun v5 h6 =>
  (qM xo36_0 xo36_0a fun v7 h8 =>
  (qI xo36_0 xo36_0a t0 h8
  (qM xo36_0 xo36_0a fun v9 h10 =>
  (qM xo36_0 xo36_0a fun v11 h12 =>
  (qM xo36_0 xo36_0a fun v13 h14 =>
  (qM xo36_0 xo36_0a fun v15 h16 =>
  (qP xo36_0 xo36_0a fun v17 h18 =>
  (qS xo36_0 xo36_0a fun h19 =>
  (go_end1 xo36_0 (by kernel_rfl) xo36_0a
  (go_seq (go_seq (go_reg0
  (pM fun v20 h21 =>
  (pM fun v22 h23 =>
  (pM fun v24 h25 =>
  (eN
  (go_cond (by kernel_rfl)
  (go_seq (go_reg0
  (pI t0 h25
  (pP fun v26 h27 =>
  (eN
  (go_ret (rt_seq_ret (by kernel_rfl))))))))
  (go_skip (go_seq (go_reg0
  (pI t0 h25
  (pP fun v28 h29 =>
  (pI v28 h29
  (eN
  (go_seq (go_reg0
  (pI t0 h29
  (pM fun v30 h31 =>
  (pM fun v32 h33 =>
  (pP fun v34 h35 =>
  (eN
  (go_seq (go_seq (go_reg0
  (pI v28 h35
  (pM fun v36 h37 =>
  (eN
  (go_cond (by kernel_rfl)
  (go_reg0
  (pI t0 h37
  (pP fun v38 h39 =>
  (eN
  (by kernel_rfl)))))
  (go_skip (by kernel_rfl))))))))))))))))))))))))))))))))))))))))))))))
theorem xe36 (k wl : Nat) (h : Hp) : evF Tryz.prog xM (k + 1) wl 36 [t0] h = bodyV (xX (xS k) 36 wl k false) Tryz.f36 [t0] h := by kernel_rfl
theorem xj36_0 (h : Hp) : runK (xX s 36 wl k false) (bodyK s.P Tryz.f36) xk36_0 .norm ⟨[t0,t1,t2,t3,t4,t5,t6,t7,t8,t9,ta,tb,tc,td,te,tf,tg,th,ti,tj,tk,tl,tm,tn,tp,tq,tr,ts,tt,tu,tv,tw,tx,ty,tz,tA,tB,tC,tD,tE,tF,tG,tH,tI,tJ,tK,tL,tM,tN,tO,tP,tQ,tR,tS,tT,tU,tV,tW],h⟩ =
  bm (vNil t0 h) h fun v40 h41 =>
  bm (vFieldAddr s.P 54 v40 2) h41 fun v42 h43 =>
  bm (vLoad s.P 24 v42 h43) h43 fun v44 h45 =>
  bm (vNil t0 h45) h45 fun v46 h47 =>
  bm (vFieldAddr s.P 54 v46 0) h47 fun v48 h49 =>
  bm (vFieldAddr s.P 32 v48 1) h49 fun v50 h51 =>
  bm (vLoad s.P 27 v50 h51) h51 fun v52 h53 =>
  bp (callV (xX s 36 wl k false) false true (.fn (.func 56) [] []) [v44,v52] h53) fun v54 h55 =>
  bm (vNil t0 h55) h55 fun v56 h57 =>
  bm (vFieldAddr s.P 54 v56 0) h57 fun v58 h59 =>
  bm (vFieldAddr s.P 32 v58 1) h59 fun v60 h61 =>
  bs (vStore s.P wl 27 v60 v54 h61) fun h62 =>
  bm (vNil t0 h62) h62 fun v63 h64 =>
  bm (vFieldAddr s.P 54 v63 0) h64 fun v65 h66 =>
  bm (vFieldAddr s.P 32 v65 1) h66 fun v67 h68 =>
  bm (vLoad s.P 27 v67 h68) h68 fun v69 h70 =>
  bp (opLen s.P 27 v69 h70) fun v71 h72 =>
  bm (vBin s.P .eql 3 v71 (V.lit (Value.int .i64 0))) h72 fun v73 h74 =>
  cnd v73 (
  bm (vNil t0 h74) h74 fun v75 h76 =>
  bm (vFieldAddr s.P 54 v75 4) h76 fun v77 h78 =>
  bm (vLoad s.P 3 v77 h78) h78 fun v79 h80 =>
  bp (callV (xX s 36 wl k false) false true (.fn (.func 50) [] []) [t0,(V.lit (Value.int .i64 0)),(V.lit (Value.int .i64 1)),v79,(V.lit (Value.int .u64 0))] h80) fun v81 h82 =>
  some (.tup [],h82)) (
  bp (callV (xX s 36 wl k false) false true (.fn (.func 47) [] []) [t0,(V.lit (Value.int .i64 9))] h74) fun v83 h84 =>
  some (.tup [],h84)) :=
  (go_seq (go_reg1 xo36_7r
  (qI xo36_7 xo36_7a t0 h
  (qI xo36_7 xo36_7a t0 h
  (qM xo36_7 xo36_7a fun v40 h41 =>
  (qM xo36_7 xo36_7a fun v42 h43 =>
  (qM xo36_7 xo36_7a fun v44 h45 =>
  (qI xo36_7 xo36_7a t0 h45
  (qM xo36_7 xo36_7a fun v46 h47 =>
  (qM xo36_7 xo36_7a fun v48 h49 =>
  (qM xo36_7 xo36_7a fun v50 h51 =>
  (qM xo36_7 xo36_7a fun v52 h53 =>
  (qP xo36_7 xo36_7a fun v54 h55 =>
  (qM xo36_7 xo36_7a fun v56 h57 =>
  (qM xo36_7 xo36_7a fun v58 h59 =>
  (qM xo36_7 xo36_7a fun v60 h61 =>
  (qS xo36_7 xo36_7a fun h62 =>
  (go_end1 xo36_7 (by kernel_rfl) xo36_7a
  (go_seq (go_reg0
  (pI t0 h62
  (pM fun v63 h64 =>
  (pM fun v65 h66 =>
  (pM fun v67 h68 =>
  (pM fun v69 h70 =>
  (pP fun v71 h72 =>
  (pM fun v73 h74 =>
  (eN
  (go_cond (by kernel_rfl)
  (go_reg0
  (pI t0 h74
  (pI t0 h74
  (pM fun v75 h76 =>
  (pM fun v77 h78 =>
  (pM fun v79 h80 =>
  (pP fun v81 h82 =>
  (eN
  (by kernel_rfl)))))))))
  (go_reg0
  (pI t0 h74
  (pP fun v83 h84 =>
  (eN
  (by kernel_rfl))))))))))))))))))))))))))))))))))
theorem xk36_0_ret (cx : Cx) (K : Out → St → Option (V × Hp)) (s : St) : runK cx K xk36_0 .ret s = K .ret s := by kernel_rfl
-- names: xb36,xj36_0,xk36_0_ret
noncomputable def xk46_0 : List Fr := [.seq (codeAt (bodyOf Tryz.f46) [1,1,0,1,0,1]),.block 0,.seq (codeAt (bodyOf Tryz.f46) [1,1,1])]
noncomputable def xk46_1 : List Fr := [.block 0,.seq (codeAt (bodyOf Tryz.f46) [1,1,1])]
noncomputable def xg46_0 : Code := codeAt (bodyOf Tryz.f46) [1,1,1,0]
theorem xo46_10 : orderIx (opsOf xg46_0) = [0,1,2,3,4,5,6,7,8,9,10,11,12,13,14,15,16,17,18,19,20,21,22,23,24,25,26] := by kernel_rfl
theorem xo46_10a : (rgOf (opsOf xg46_0)).any = false := by kernel_rfl
theorem xo46_10r : regOk (opsOf xg46_0) = true := by kernel_rfl
theorem xb46 (h : Hp) : bodyV (xX s 46 wl k false) Tryz.f46 [t0] h =
  bm (vNil t0 h) h fun v1 h2 =>
  bm (vFieldAddr s.P 54 v1 0) h2 fun v3 h4 =>
  bm (vFieldAddr s.P 32 v3 2) h4 fun v5 h6 =>
  bm (vFieldAddr s.P 30 v5 0) h6 fun v7 h8 =>
  bm (vLoad s.P 3 v7 h8) h8 fun v9 h10 =>
  bm (vBin s.P .eql 3 v9 (V.lit (Value.int .i64 0))) h10 fun v11 h12 =>
  cnd v11 (
  runK (xX s 46 wl k false) (bodyK s.P Tryz.f46) xk46_0 .norm ⟨[t0,uu,(V.lit (Value.bool false)),(.fn (.func 69) [] []),t0,v1,v3,v5,v7,v9,v11,v11,uu,uu,uu,uu,uu,uu,uu,uu,uu,uu,uu,uu,uu,uu,uu,uu,uu,uu,uu,uu,uu,uu,uu,uu,uu,uu,uu,uu,uu,uu,uu,uu,uu,uu,uu,uu],h12⟩) (
  bm (vBin s.P .eql 3 v9 (V.lit (Value.int .i64 1))) h12 fun v13 h14 =>
  cnd v13 (
  runK (xX s 46 wl k false) (bodyK s.P Tryz.f46) xk46_0 .norm ⟨[t0,uu,(V.lit (Value.bool false)),(.fn (.func 69) [] []),t0,v1,v3,v5,v7,v9,v13,v11,v13,uu,uu,uu,uu,uu,uu,uu,uu,uu,uu,uu,uu,uu,uu,uu,uu,uu,uu,uu,uu,uu,uu,uu,uu,uu,uu,uu,uu,uu,uu,uu,uu,uu,uu,uu],h14⟩) (
  bm (vBin s.P .eql 3 v9 (V.lit (Value.int .i64 2))) h14 fun v15 h16 =>
  runK (xX s 46 wl k false) (bodyK s.P Tryz.f46) xk46_0 .norm ⟨[t0,uu,(V.lit (Value.bool false)),(.fn (.func 69) [] []),t0,v1,v3,v5,v7,v9,v15,v11,v13,v15,uu,uu,uu,uu,uu,uu,uu,uu,uu,uu,uu,uu,uu,uu,uu,uu,uu,uu,uu,uu,uu,uu,uu,uu,uu,uu,uu,uu,uu,uu,uu,uu,uu,uu],h16⟩)) :=
  bodyV_run rfl (go_seq (go_reg0
  (go_op0 rfl rfl (st_id (v := (V.lit (Value.bool false))) (H := h) (by kernel_rfl)
  (eN
  (go_seq (go_reg0
  (go_op0 rfl rfl (st_id (v := (.fn (.func 69) [] [])) (H := h) (by kernel_rfl)
  (eN
  (go_seq (go_seq (go_reg0
  (pI t0 h
  (pM fun v1 h2 =>
  (pM fun v3 h4 =>
  (pM fun v5 h6 =>
  (pM fun v7 h8 =>
  (pM fun v9 h10 =>
  (eN
  (go_block (go_seq (go_seq (go_reg0
  (pM fun v11 h12 =>
  (pI v11 h12
  (eN
  (go_cond (by kernel_rfl)
  (go_skip (by kernel_rfl))
  (go_seq (go_reg0
  (pM fun v13 h14 =>
  (pI v13 h14
  (eN
  (go_cond (by kernel_rfl)
  (go_skip (by kernel_rfl))
  (go_reg0
  (pM fun v15 h16 =>
  (pI v15 h16
  (eN
  (by kernel_rfl)))))))))))))))))))))))))))))))))))))))
theorem xe46 (k wl : Nat) (h : Hp) : evF Tryz.prog xM (k + 1) wl 46 [t0] h = bodyV (xX (xS k) 46 wl k false) Tryz.f46 [t0] h := by kernel_rfl
theorem xj46_0 (s : Sys) (k wl : Nat) (zz : List V) (h : Hp) : runK (xX s 46 wl k false) (bodyK s.P Tryz.f46) xk46_0 .norm ⟨(t0::t1::t2::t3::t4::t5::t6::t7::t8::t9::ta::tb::tc::td::te::tf::tg::zz),h⟩ =
  cnd ta (
  runK (xX s 46 wl k false) (bodyK s.P Tryz.f46) xk46_1 .norm ⟨(t0::t1::t2::(.fn (.func 70) [] [])::t4::t5::t6::t7::t8::t9::ta::tb::tc::td::te::tf::tg::zz),h⟩) (
  bm (vBin s.P .eql 3 t9 (V.lit (Value.int .i64 3))) h fun v17 h18 =>
  cnd v17 (
  cnd v17 (
  runK (xX s 46 wl k false) (bodyK s.P Tryz.f46) xk46_1 .norm ⟨(t0::t1::t2::(.fn (.func 71) [] [])::t4::t5::t6::t7::t8::t9::ta::tb::tc::td::v17::v17::tg::zz),h18⟩) (
  runK (xX s 46 wl k false) (bodyK s.P Tryz.f46) xk46_1 .norm ⟨(t0::t1::t2::t3::t4::t5::t6::t7::t8::t9::ta::tb::tc::td::v17::v17::tg::zz),h18⟩)) (
  bm (vBin s.P .eql 3 t9 (V.lit (Value.int .i64 4))) h18 fun v19 h20 =>
  cnd v19 (
  runK (xX s 46 wl k false) (bodyK s.P Tryz.f46) xk46_1 .norm ⟨(t0::t1::t2::(.fn (.func 71) [] [])::t4::t5::t6::t7::t8::t9::ta::tb::tc::td::v19::v17::v19::zz),h20⟩) (
  runK (xX s 46 wl k false) (bodyK s.P Tryz.f46) xk46_1 .norm ⟨(t0::t1::t2::t3::t4::t5::t6::t7::t8::t9::ta::tb::tc::td::v19::v17::v19::zz),h20⟩))) :=
  (go_cond (by kernel_rfl)
  (go_reg0
  (go_op0 rfl rfl (st_id (v := (.fn (.func 70) [] [])) (H := h) (by kernel_rfl)
  (eN
  (by kernel_rfl)))))
  (go_seq (go_seq (go_reg0
  (pM fun v17 h18 =>
  (pI v17 h18
  (eN
  (go_cond (by kernel_rfl)
  (go_skip (go_cond (by kernel_rfl)
  (go_reg0
  (go_op0 rfl rfl (st_id (v := (.fn (.func 71) [] [])) (H := h18) (by kernel_rfl)
  (eN
  (by kernel_rfl)))))
  (go_skip (by kernel_rfl))))
  (go_reg0
  (pM fun v19 h20 =>
  (pI v19 h20
  (eN
  (go_cond (by kernel_rfl)
  (go_reg0
  (go_op0 rfl rfl (st_id (v := (.fn (.func 71) [] [])) (H := h20) (by kernel_rfl)
  (eN
  (by kernel_rfl)))))
  (go_skip (by kernel_rfl)))))))))))))))
theorem xj46_1 (h : Hp) : runK (xX s 46 wl k false) (bodyK s.P Tryz.f46) xk46_1 .norm ⟨[t0,t1,t2,t3,t4,t5,t6,t7,t8,t9,ta,tb,tc,td,te,tf,tg,th,ti,tj,tk,tl,tm,tn,tp,tq,tr,ts,tt,tu,tv,tw,tx,ty,tz,tA,tB,tC,tD,tE,tF,tG,tH,tI,tJ,tK,tL,tM],h⟩ =
  bm (vNil t0 h) h fun v21 h22 =>
  bm (vFieldAddr s.P 54 v21 1) h22 fun v23 h24 =>
  bm (vLoad s.P 23 v23 h24) h24 fun v25 h26 =>
  bm (vNil t0 h26) h26 fun v27 h28 =>
  bm (vFieldAddr s.P 54 v27 3) h28 fun v29 h30 =>
  bm (vLoad s.P 26 v29 h30) h30 fun v31 h32 =>
  bm (vNil t0 h32) h32 fun v33 h34 =>
  bm (vFieldAddr s.P 54 v33 0) h34 fun v35 h36 =>
  bm (vFieldAddr s.P 32 v35 2) h36 fun v37 h38 =>
  bm (vLoad s.P 30 v37 h38) h38 fun v39 h40 =>
  bp (callV (xX s 46 wl k false) false true t3 [v25,v31,v39] h40) fun v41 h42 =>
  bm (vExtract v41 0) h42 fun v43 h44 =>
  bm (vExtract v41 1) h44 fun v45 h46 =>
  bm (vNil t0 h46) h46 fun v47 h48 =>
  bm (vFieldAddr s.P 54 v47 3) h48 fun v49 h50 =>
  bs (vStore s.P wl 26 v49 v43 h50) fun h51 =>
  bm (vNil t0 h51) h51 fun v52 h53 =>
  bm (vFieldAddr s.P 54 v52 0) h53 fun v54 h55 =>
  bm (vFieldAddr s.P 32 v54 2) h55 fun v56 h57 =>
  bs (vStore s.P wl 30 v56 v45 h57) fun h58 =>
  bm (vNil t0 h58) h58 fun v59 h60 =>
  bm (vFieldAddr s.P 54 v59 0) h60 fun v61 h62 =>
  bm (vFieldAddr s.P 32 v61 2) h62 fun v63 h64 =>
  bm (vLoad s.P 30 v63 h64) h64 fun v65 h66 =>
  bp (callV (xX s 46 wl k false) false true (.fn (.func 68) [] []) [v65] h66) fun v67 h68 =>
  some (v67,h68) :=
  (rt_block_norm (go_seq (go_reg1 xo46_10r
  (qI xo46_10 xo46_10a t0 h
  (qI xo46_10 xo46_10a t0 h
  (qI xo46_10 xo46_10a t3 h
  (qI xo46_10 xo46_10a t0 h
  (qM xo46_10 xo46_10a fun v21 h22 =>
  (qM xo46_10 xo46_10a fun v23 h24 =>
  (qM xo46_10 xo46_10a fun v25 h26 =>
  (qI xo46_10 xo46_10a t0 h26
  (qM xo46_10 xo46_10a fun v27 h28 =>
  (qM xo46_10 xo46_10a fun v29 h30 =>
  (qM xo46_10 xo46_10a fun v31 h32 =>
  (qI xo46_10 xo46_10a t0 h32
  (qM xo46_10 xo46_10a fun v33 h34 =>
  (qM xo46_10 xo46_10a fun v35 h36 =>
  (qM xo46_10 xo46_10a fun v37 h38 =>
  (qM xo46_10 xo46_10a fun v39 h40 =>
  (qP xo46_10 xo46_10a fun v41 h42 =>
  (qI xo46_10 xo46_10a v41 h42
  (qM xo46_10 xo46_10a fun v43 h44 =>
  (qM xo46_10 xo46_10a fun v45 h46 =>
  (qM xo46_10 xo46_10a fun v47 h48 =>
  (qM xo46_10 xo46_10a fun v49 h50 =>
  (qS xo46_10 xo46_10a fun h51 =>
  (qM xo46_10 xo46_10a fun v52 h53 =>
  (qM xo46_10 xo46_10a fun v54 h55 =>
  (qM xo46_10 xo46_10a fun v56 h57 =>
  (qS xo46_10 xo46_10a fun h58 =>
  (go_end1 xo46_10 (by kernel_rfl) xo46_10a
  (go_seq (go_reg0
  (pI t0 h58
  (pM fun v59 h60 =>
  (pM fun v61 h62 =>
  (pM fun v63 h64 =>
  (pM fun v65 h66 =>
  (pP fun v67 h68 =>
  (pI v67 h68
  (eN
  (go_ret (by kernel_rfl)))))))))))))))))))))))))))))))))))))))))))
theorem xk46_0_ret (cx : Cx) (K : Out → St → Option (V × Hp)) (s : St) : runK cx K xk46_0 .ret s = K .ret s := by kernel_rfl
theorem xk46_1_ret (cx : Cx) (K : Out → St → Option (V × Hp)) (s : St) : runK cx K xk46_1 .ret s = K .ret s := by kernel_rfl
-- names: xb46,xj46_0,xj46_1,xk46_0_ret,xk46_1_ret

theorem xb47 (h : Hp) : bodyV (xX s 47 wl k false) Tryz.f47 [t0,t1] h =
  bm (vBuild s.P 30 []) h fun v1 h2 =>
  bm (vNil t0 h2) h2 fun v3 h4 =>
  bm (vFieldAddr s.P 54 v3 0) h4 fun v5 h6 =>
  bm (vFieldAddr s.P 32 v5 0) h6 fun v7 h8 =>
  bs (vStore s.P wl 3 v7 t1 h8) fun h9 =>
  bm (vNil t0 h9) h9 fun v10 h11 =>
  bm (vFieldAddr s.P 54 v10 0) h11 fun v12 h13 =>
  bm (vFieldAddr s.P 32 v12 2) h13 fun v14 h15 =>
  bs (vStore s.P wl 30 v14 v1 h15) fun h16 =>
  some (.tup [],h16) :=
  bodyV_run rfl (go_reg0
  (pI t0 h
  (pI t0 h
  (pI t1 h
  (pM fun v1 h2 =>
  (pM fun v3 h4 =>
  (pM fun v5 h6 =>
  (pM fun v7 h8 =>
  (pS fun h9 =>
  (pM fun v10 h11 =>
  (pM fun v12 h13 =>
  (pM fun v14 h15 =>
  (pS fun h16 =>
  (eN
  (by kernel_rfl)))))))))))))))
theorem xe47 (k wl : Nat) (h : Hp) : evF Tryz.prog xM (k + 1) wl 47 [t0,t1] h = bodyV (xX (xS k) 47 wl k false) Tryz.f47 [t0,t1] h := by kernel_rfl
-- names: xb47,
noncomputable def xg48_0 : Code := codeAt (bodyOf Tryz.f48) [0]
theorem xo48_0 : orderIx (opsOf xg48_0) = [0,1,2,3,4,5,6,7,8,9,10,11,12,13,14,15,16] := by kernel_rfl
theorem xo48_0a : (rgOf (opsOf xg48_0)).any = false := by kernel_rfl
theorem xo48_0r : regOk (opsOf xg48_0) = true := by kernel_rfl
theorem xb48 (h : Hp) : bodyV (xX s 48 wl k false) Tryz.f48 [t0,t1] h =
  bm (vNil t0 h) h fun v1 h2 =>
  bm (vFieldAddr s.P 54 v1 2) h2 fun v3 h4 =>
  bm (vLoad s.P 24 v3 h4) h4 fun v5 h6 =>
  bm (vNil t0 h6) h6 fun v7 h8 =>
  bm (vFieldAddr s.P 54 v7 0) h8 fun v9 h10 =>
  bm (vFieldAddr s.P 32 v9 1) h10 fun v11 h12 =>
  bm (vLoad s.P 27 v11 h12) h12 fun v13 h14 =>
  bm (vConv s.P 28 3 t1) h14 fun v15 h16 =>
  bp (callV (xX s 48 wl k false) false true (.fn (.func 72) [] []) [v5,v13,v15] h16) fun v17 h18 =>
  bm (vNil t0 h18) h18 fun v19 h20 =>
  bm (vFieldAddr s.P 54 v19 0) h20 fun v21 h22 =>
  bm (vFieldAddr s.P 32 v21 1) h22 fun v23 h24 =>
  bs (vStore s.P wl 27 v23 v17 h24) fun h25 =>
  bm (vConv s.P 28 3 t1) h25 fun v26 h27 =>
  bp (callV (xX s 48 wl k false) false true (.fn (.func 57) [] []) [t0,(V.lit (Value.int .i64 2)),v26] h27) fun v28 h29 =>
  some (.tup [],h29) :=
  bodyV_run rfl (go_seq (go_reg1 xo48_0r
  (qI xo48_0 xo48_0a t0 h
  (qI xo48_0 xo48_0a t0 h
  (qM xo48_0 xo48_0a fun v1 h2 =>
  (qM xo48_0 xo48_0a fun v3 h4 =>
  (qM xo48_0 xo48_0a fun v5 h6 =>
  (qI xo48_0 xo48_0a t0 h6
  (qM xo48_0 xo48_0a fun v7 h8 =>
  (qM xo48_0 xo48_0a fun v9 h10 =>
  (qM xo48_0 xo48_0a fun v11 h12 =>
  (qM xo48_0 xo48_0a fun v13 h14 =>
  (qI xo48_0 xo48_0a t1 h14
  (qM xo48_0 xo48_0a fun v15 h16 =>
  (qP xo48_0 xo48_0a fun v17 h18 =>
  (qM xo48_0 xo48_0a fun v19 h20 =>
  (qM xo48_0 xo48_0a fun v21 h22 =>
  (qM xo48_0 xo48_0a fun v23 h24 =>
  (qS xo48_0 xo48_0a fun h25 =>
  (go_end1 xo48_0 (by kernel_rfl) xo48_0a
  (go_reg0
  (pI t0 h25
  (pI t1 h25
  (pM fun v26 h27 =>
  (pP fun v28 h29 =>
  (eN
  (by kernel_rfl)))))))))))))))))))))))))))
theorem xe48 (k wl : Nat) (h : Hp) : evF Tryz.prog xM (k + 1) wl 48 [t0,t1] h = bodyV (xX (xS k) 48 wl k false) Tryz.f48 [t0,t1] h := by kernel_rfl
-- names: xb48,

theorem xb49 (h : Hp) : bodyV (xX s 49 wl k false) Tryz.f49 [t0,t1,t2] h =
  bm (vNil t0 h) h fun v1 h2 =>
  bm (vFieldAddr s.P 54 v1 3) h2 fun v3 h4 =>
  bm (vLoad s.P 26 v3 h4) h4 fun v5 h6 =>
  bp (callV (xX s 49 wl k false) false true (.fn (.func 73) [] []) [v5,t1,t2] h6) fun v7 h8 =>
  bm (vExtract v7 0) h8 fun v9 h10 =>
  bm (vExtract v7 1) h10 fun v11 h12 =>
  bm (vNil t0 h12) h12 fun v13 h14 =>
  bm (vFieldAddr s.P 54 v13 3) h14 fun v15 h16 =>
  bs (vStore s.P wl 26 v15 v9 h16) fun h17 =>
  some (v11,h17) :=
  bodyV_run rfl (go_seq (go_reg0
  (go_op0 rfl rfl (st_id (v := (V.lit (Value.int .u64 0))) (H := h) (by kernel_rfl)
  (eN
  (go_seq (go_reg0
  (pI t0 h
  (pI t0 h
  (pM fun v1 h2 =>
  (pM fun v3 h4 =>
  (pM fun v5 h6 =>
  (pI t1 h6
  (pI t2 h6
  (pP fun v7 h8 =>
  (pI v7 h8
  (pM fun v9 h10 =>
  (pM fun v11 h12 =>
  (pM fun v13 h14 =>
  (pM fun v15 h16 =>
  (pS fun h17 =>
  (pI v11 h17
  (eN
  (go_seq (go_reg0
  (pI v11 h17
  (pI v11 h17
  (eN
  (go_ret (by kernel_rfl))))))))))))))))))))))))))))))
theorem xe49 (k wl : Nat) (h : Hp) : evF Tryz.prog xM (k + 1) wl 49 [t0,t1,t2] h = bodyV (xX (xS k) 49 wl k false) Tryz.f49 [t0,t1,t2] h := by kernel_rfl
-- names: xb49,

theorem xb50 (h : Hp) : bodyV (xX s 50 wl k false) Tryz.f50 [t0,t1,t2,t3,t4] h =
  bp (callV (xX s 50 wl k false) false true (.fn (.func 44) [] []) [t2,t3,t4] h) fun v1 h2 =>
  bm (vNil t0 h2) h2 fun v3 h4 =>
  bm (vFieldAddr s.P 54 v3 0) h4 fun v5 h6 =>
  bm (vFieldAddr s.P 32 v5 0) h6 fun v7 h8 =>
  bs (vStore s.P wl 3 v7 t1 h8) fun h9 =>
  bm (vNil t0 h9) h9 fun v10 h11 =>
  bm (vFieldAddr s.P 54 v10 0) h11 fun v12 h13 =>
  bm (vFieldAddr s.P 32 v12 2) h13 fun v14 h15 =>
  bs (vStore s.P wl 30 v14 v1 h15) fun h16 =>
  some (.tup [],h16) :=
  bodyV_run rfl (go_reg0
  (pI t0 h
  (pI t0 h
  (pI t1 h
  (pI t2 h
  (pI t3 h
  (pI t4 h
  (pP fun v1 h2 =>
  (pM fun v3 h4 =>
  (pM fun v5 h6 =>
  (pM fun v7 h8 =>
  (pS fun h9 =>
  (pM fun v10 h11 =>
  (pM fun v12 h13 =>
  (pM fun v14 h15 =>
  (pS fun h16 =>
  (eN
  (by kernel_rfl))))))))))))))))))
theorem xe50 (k wl : Nat) (h : Hp) : evF Tryz.prog xM (k + 1) wl 50 [t0,t1,t2,t3,t4] h = bodyV (xX (xS k) 50 wl k false) Tryz.f50 [t0,t1,t2,t3,t4] h := by kernel_rfl
-- names: xb50,
noncomputable def xg57_0 : Code := codeAt (bodyOf Tryz.f57) []
theorem xo57_0 : orderIx (opsOf xg57_0) = [0,1,2,3,4,5,6,7,8,9,10,11,12,13,14,15,16] := by kernel_rfl
theorem xo57_0a : (rgOf (opsOf xg57_0)).any = false := by kernel_rfl
theorem xo57_0r : regOk (opsOf xg57_0) = true := by kernel_rfl
theorem xb57 (h : Hp) : bodyV (xX s 57 wl k false) Tryz.f57 [t0,t1,t2] h =
  stO h.length t0 (
  bm (vNil t0 h) h fun v1 h2 =>
  bm (vFieldAddr s.P 54 v1 6) h2 fun v3 h4 =>
  stO h.length v3 (
  bm (vLoad s.P 35 v3 h4) h4 fun v5 h6 =>
  bm (vNil t0 h6) h6 fun v7 h8 =>
  bm (vFieldAddr s.P 54 v7 4) h8 fun v9 h10 =>
  bm (vLoad s.P 3 v9 h10) h10 fun v11 h12 =>
  bm (vBuild s.P 44 [(0,t1),(1,t2),(2,v11)]) h12 fun v13 h14 =>
  bp (opBuildSliceC s.P wl 35 1 [(0,v13)] h14) fun v15 h16 =>
  bp (opApp s.P wl 35 35 v5 v15 h16) fun v17 h18 =>
  bm (vNil t0 h18) h18 fun v19 h20 =>
  bm (vFieldAddr s.P 54 v19 6) h20 fun v21 h22 =>
  bs (vStore s.P wl 35 v21 v17 h22) fun h23 =>
  some (.tup [],h23))) :=
  bodyV_run rfl (go_reg1 xo57_0r
  (qI xo57_0 xo57_0a t0 h
  (qI xo57_0 xo57_0a t0 h
  (go_op1 xo57_0 xo57_0a rfl rfl rfl (st_yes (by kernel_rfl) (st_bm (by kernel_rfl) fun v1 h2 =>
  (qM xo57_0 xo57_0a fun v3 h4 =>
  (go_op1 xo57_0 xo57_0a rfl rfl rfl (st_yes (by kernel_rfl) (st_bm (by kernel_rfl) fun v5 h6 =>
  (qI xo57_0 xo57_0a t1 h6
  (qI xo57_0 xo57_0a t2 h6
  (qI xo57_0 xo57_0a t0 h6
  (qM xo57_0 xo57_0a fun v7 h8 =>
  (qM xo57_0 xo57_0a fun v9 h10 =>
  (qM xo57_0 xo57_0a fun v11 h12 =>
  (qM xo57_0 xo57_0a fun v13 h14 =>
  (qP xo57_0 xo57_0a fun v15 h16 =>
  (qP xo57_0 xo57_0a fun v17 h18 =>
  (qM xo57_0 xo57_0a fun v19 h20 =>
  (qM xo57_0 xo57_0a fun v21 h22 =>
  (qS xo57_0 xo57_0a fun h23 =>
  (go_end1 xo57_0 (by kernel_rfl) xo57_0a
  (by kernel_rfl))))))))))))))))))))))))
theorem xe57 (k wl : Nat) (h : Hp) : evF Tryz.prog xM (k + 1) wl 57 [t0,t1,t2] h = bodyV (xX (xS k) 57 wl k false) Tryz.f57 [t0,t1,t2] h := by kernel_rfl
-- names: xb57,
end Go.Ab
