/- The program's code,point by point: printed by gen.py. -/
import Derived.Test.YtcahlnoianbndaaR4Seat
import Derived.Test.YtcahlnoianbndaaAbLibC
set_option linter.unusedVariables false
set_option linter.unusedSimpArgs false
set_option maxRecDepth 100000
set_option linter.unusedVariables false
namespace Go.Ab
open Go.Proofs
variable (t0 t1 t2 t3 t4 t5 t6 t7 t8 t9 ta tb tc td te tf tg th ti tj tk tl tm tn tp tq tr ts tt tu tv tw tx ty tz tA tB tC tD tE tF tG tH tI tJ tK tL tM tN tO tP tQ tR tS : V)
noncomputable def xg10_0 : Code := codeAt (bodyOf Try.f10) [1,1,0]
noncomputable def xg10_1 : Code := codeAt (bodyOf Try.f10) [1,1,1,0,1,0,0]
noncomputable def xg10_2 : Code := codeAt (bodyOf Try.f10) [1,1,1,1,1,1,1,1,1,1,1,0]
theorem xo10_2 : orderIx (opsOf xg10_0) = [8,0,1,2,3,4,5,6,7,9] := by kernel_rfl
theorem xo10_2a : (rgOf (opsOf xg10_0)).any = false := by kernel_rfl
theorem xo10_2r : regOk (opsOf xg10_0) = true := by kernel_rfl
theorem xo10_4 : orderIx (opsOf xg10_1) = [0,1,2,3,4] := by kernel_rfl
theorem xo10_4a : (rgOf (opsOf xg10_1)).any = false := by kernel_rfl
theorem xo10_4r : regOk (opsOf xg10_1) = true := by kernel_rfl
theorem xo10_12 : orderIx (opsOf xg10_2) = [0,1,2,3,4,5] := by kernel_rfl
theorem xo10_12a : (rgOf (opsOf xg10_2)).any = true := by kernel_rfl
theorem xo10_12r : regOk (opsOf xg10_2) = true := by kernel_rfl
theorem xb10 (s : Sys) (k wl : Nat) (h : Hp) : bodyV (xX s 10 wl k false) Try.f10 [t0,t1,t2,t3,t4] h =
  bp (opBox t0 h) fun v1 h2 =>
  bp (opBox t3 h2) fun v3 h4 =>
  bp (opBox t4 h4) fun v5 h6 =>
  bp (some (.own h6.length 0 0,h6 ++ [.rows 0 [] 0 true])) fun v7 h8 =>
  bp (opAlloc s.P 32 h8) fun v9 h10 =>
  bp (some (.own h10.length 0 0,h10 ++ [.rows 0 [] 0 true])) fun v11 h12 =>
  bp (callV (xX s 10 wl k false) false true (.fn (.func 21) [] []) [t2] h12) fun v13 h14 =>
  bp (opAlloc s.P 26 h14) fun v15 h16 =>
  bs (vStore s.P wl 26 v15 v13 h16) fun h17 =>
  bp (opAlloc s.P 32 h17) fun v18 h19 =>
  bm (vFieldAddr s.P 32 v5 0) h19 fun v20 h21 =>
  stO h17.length v20 (
  bm (vLoad s.P 3 v20 h21) h21 fun v22 h23 =>
  bm (vFieldAddr s.P 32 v5 1) h23 fun v24 h25 =>
  bm (vLoad s.P 27 v24 h25) h25 fun v26 h27 =>
  bp (callV (xX s 10 wl k false) true true (.fn (.func 22) [] []) [v26] h27) fun v28 h29 =>
  bm (vFieldAddr s.P 32 v5 2) h29 fun v30 h31 =>
  stO h17.length v30 (
  bm (vLoad s.P 30 v30 h31) h31 fun v32 h33 =>
  bm (vBuild s.P 32 [(0,v22),(1,v28),(2,v32)]) h33 fun v34 h35 =>
  bs (vStore s.P wl 32 v18 v34 h35) fun h36 =>
  bm (vLoad s.P 23 v1 h36) h36 fun v37 h38 =>
  bm (vLoad s.P 32 v5 h38) h38 fun v39 h40 =>
  bp (callV (xX s 10 wl k false) false true (.fn (.func 11) [] []) [v37,t1,t2,v39] h40) fun v41 h42 =>
  bm (vUn .not v41) h42 fun v43 h44 =>
  cnd v43 (
  bm (vLoad s.P 26 v15 h44) h44 fun v45 h46 =>
  bm (vLoad s.P 32 v18 h46) h46 fun v47 h48 =>
  bs (vStore s.P wl 32 v9 v47 h48) fun h49 =>
  bp (some (.own h49.length 0 0,h49 ++ [.rows 0 [] 0 true])) fun v50 h51 =>
  resO [some v45,vLoad s.P 32 v9 h51,some v50] h51) (
  bp (opAlloc s.P 35 h44) fun v52 h53 =>
  bm (vFieldAddr s.P 32 v18 1) h53 fun v54 h55 =>
  bm (vLoad s.P 27 v54 h55) h55 fun v56 h57 =>
  bm (vIndexAddr s.P 27 v56 (V.lit (Value.int .i64 0)) h57) h57 fun v58 h59 =>
  bm (vLoad s.P 3 v58 h59) h59 fun v60 h61 =>
  bp (opAlloc s.P 3 h61) fun v62 h63 =>
  bs (vStore s.P wl 3 v62 v60 h63) fun h64 =>
  bp (opAlloc s.P 57 h64) fun v65 h66 =>
  bs (vStore s.P wl 57 v65 (.fn (.func 23) [] [v52,v3]) h66) fun h67 =>
  bp (opAlloc s.P 1 h67) fun v68 h69 =>
  bs (vStore s.P wl 1 v68 (.fn (.func 24) [] [v18]) h69) fun h70 =>
  bp (opAlloc s.P 33 h70) fun v71 h72 =>
  bs (vStore s.P wl 33 v71 (.fn (.func 25) [] [v18,v1,v15]) h72) fun h73 =>
  bm (vBuild s.P 64 [(0,(.fn (.func 29) [] [v18,v15,v65,v62,v68])),(1,(.fn (.func 30) [] [v15,v3,v62,v18])),(2,(.fn (.func 33) [] [v71,v18,v65,v62])),(3,(.fn (.func 34) [] [v15,v68,v3,v18])),(4,(.fn (.func 35) [] [v71,v68])),(5,(.fn (.func 36) [] [v15,v65,v62,v68]))]) h73 fun v74 h75 =>
  bp (opAlloc s.P 64 h75) fun v76 h77 =>
  bs (vStore s.P wl 64 v76 v74 h77) fun h78 =>
  bm (vFieldAddr s.P 32 v5 0) h78 fun v79 h80 =>
  bm (vLoad s.P 3 v79 h80) h80 fun v81 h82 =>
  bm (vIndexAddr s.P 64 v76 v81 h82) h82 fun v83 h84 =>
  bm (vLoad s.P 1 v83 h84) h84 fun v85 h86 =>
  bp (callV (xX s 10 wl k false) false true v85 [] h86) fun v87 h88 =>
  bm (vLoad s.P 26 v15 h88) h88 fun v89 h90 =>
  bm (vLoad s.P 32 v18 h90) h90 fun v91 h92 =>
  stO h88.length v52 (
  bm (vLoad s.P 35 v52 h92) h92 fun v93 h94 =>
  bs (vStore s.P wl 32 v9 v91 h94) fun h95 =>
  apt (lgW v9 (lgR v52 ([],[]))) (
  resO [some v89,vLoad s.P 32 v9 h95,some v93] h95))))) :=
  bodyV_run rfl (go_seq (go_reg0
  (go_op0 rfl rfl (st_bp (by kernel_rfl) fun v1 h2 =>
  (go_op0 rfl rfl (st_bp (by kernel_rfl) fun v3 h4 =>
  (go_op0 rfl rfl (st_bp (by kernel_rfl) fun v5 h6 =>
  (go_op0 rfl rfl (st_bp (by kernel_rfl) fun v7 h8 =>
  (go_op0 rfl rfl (st_bp (by kernel_rfl) fun v9 h10 =>
  (go_op0 rfl rfl (st_bp (by kernel_rfl) fun v11 h12 =>
  (go_end0 (by kernel_rfl)
  (go_seq (go_reg0
  (go_op0 rfl rfl (st_id (v := t2) (H := h12) (by kernel_rfl)
  (go_op0 rfl rfl (st_bp (by kernel_rfl) fun v13 h14 =>
  (go_op0 rfl rfl (st_bp (by kernel_rfl) fun v15 h16 =>
  (go_op0 rfl rfl (st_bs (by kernel_rfl) fun h17 =>
  (go_end0 (by kernel_rfl)
  (go_seq (go_reg1 xo10_2r
  (go_op1 xo10_2 xo10_2a rfl rfl rfl (st_no (by kernel_rfl) (st_bp (by kernel_rfl) fun v18 h19 =>
  (go_op1 xo10_2 xo10_2a rfl rfl rfl (st_no (by kernel_rfl) (st_bm (by kernel_rfl) fun v20 h21 =>
  (go_op1 xo10_2 xo10_2a rfl rfl rfl (st_yes (by kernel_rfl) (st_bm (by kernel_rfl) fun v22 h23 =>
  (go_op1 xo10_2 xo10_2a rfl rfl rfl (st_no (by kernel_rfl) (st_bm (by kernel_rfl) fun v24 h25 =>
  (go_op1 xo10_2 xo10_2a rfl rfl rfl (st_no (by kernel_rfl) (st_bm (by kernel_rfl) fun v26 h27 =>
  (go_op1 xo10_2 xo10_2a rfl rfl rfl (st_no (by kernel_rfl) (st_bp (by kernel_rfl) fun v28 h29 =>
  (go_op1 xo10_2 xo10_2a rfl rfl rfl (st_no (by kernel_rfl) (st_bm (by kernel_rfl) fun v30 h31 =>
  (go_op1 xo10_2 xo10_2a rfl rfl rfl (st_yes (by kernel_rfl) (st_bm (by kernel_rfl) fun v32 h33 =>
  (go_op1 xo10_2 xo10_2a rfl rfl rfl (st_no (by kernel_rfl) (st_bm (by kernel_rfl) fun v34 h35 =>
  (go_op1 xo10_2 xo10_2a rfl rfl rfl (st_no (by kernel_rfl) (st_bs (by kernel_rfl) fun h36 =>
  (go_end1 xo10_2 (by kernel_rfl) xo10_2a
  (go_seq (go_seq (go_reg0
  (go_op0 rfl rfl (st_bm (by kernel_rfl) fun v37 h38 =>
  (go_op0 rfl rfl (st_id (v := t1) (H := h38) (by kernel_rfl)
  (go_op0 rfl rfl (st_id (v := t2) (H := h38) (by kernel_rfl)
  (go_op0 rfl rfl (st_bm (by kernel_rfl) fun v39 h40 =>
  (go_op0 rfl rfl (st_bp (by kernel_rfl) fun v41 h42 =>
  (go_op0 rfl rfl (st_bm (by kernel_rfl) fun v43 h44 =>
  (go_end0 (by kernel_rfl)
  (go_cond (by kernel_rfl)
  (go_seq (go_reg1 xo10_4r
  (go_op1 xo10_4 xo10_4a rfl rfl rfl (st_no (by kernel_rfl) (st_bm (by kernel_rfl) fun v45 h46 =>
  (go_op1 xo10_4 xo10_4a rfl rfl rfl (st_no (by kernel_rfl) (st_bm (by kernel_rfl) fun v47 h48 =>
  (go_op1 xo10_4 xo10_4a rfl rfl rfl (st_no (by kernel_rfl) (st_id (v := v45) (H := h48) (by kernel_rfl)
  (go_op1 xo10_4 xo10_4a rfl rfl rfl (st_no (by kernel_rfl) (st_bs (by kernel_rfl) fun h49 =>
  (go_op1 xo10_4 xo10_4a rfl rfl rfl (st_no (by kernel_rfl) (st_bp (by kernel_rfl) fun v50 h51 =>
  (go_end1 xo10_4 (by kernel_rfl) xo10_4a
  (go_ret (rt_seq_ret (by kernel_rfl)))))))))))))))))))))
  (go_skip (go_seq (go_reg0
  (go_op0 rfl rfl (st_bp (by kernel_rfl) fun v52 h53 =>
  (go_end0 (by kernel_rfl)
  (go_seq (go_reg0
  (go_op0 rfl rfl (st_bm (by kernel_rfl) fun v54 h55 =>
  (go_op0 rfl rfl (st_bm (by kernel_rfl) fun v56 h57 =>
  (go_op0 rfl rfl (st_bm (by kernel_rfl) fun v58 h59 =>
  (go_op0 rfl rfl (st_bm (by kernel_rfl) fun v60 h61 =>
  (go_op0 rfl rfl (st_bp (by kernel_rfl) fun v62 h63 =>
  (go_op0 rfl rfl (st_bs (by kernel_rfl) fun h64 =>
  (go_end0 (by kernel_rfl)
  (go_seq (go_reg0
  (go_op0 rfl rfl (st_id (v := (.fn (.func 23) [] [v52,v3])) (H := h64) (by kernel_rfl)
  (go_op0 rfl rfl (st_bp (by kernel_rfl) fun v65 h66 =>
  (go_op0 rfl rfl (st_bs (by kernel_rfl) fun h67 =>
  (go_end0 (by kernel_rfl)
  (go_seq (go_reg0
  (go_op0 rfl rfl (st_id (v := (.fn (.func 24) [] [v18])) (H := h67) (by kernel_rfl)
  (go_op0 rfl rfl (st_bp (by kernel_rfl) fun v68 h69 =>
  (go_op0 rfl rfl (st_bs (by kernel_rfl) fun h70 =>
  (go_end0 (by kernel_rfl)
  (go_seq (go_reg0
  (go_op0 rfl rfl (st_id (v := (.fn (.func 25) [] [v18,v1,v15])) (H := h70) (by kernel_rfl)
  (go_op0 rfl rfl (st_bp (by kernel_rfl) fun v71 h72 =>
  (go_op0 rfl rfl (st_bs (by kernel_rfl) fun h73 =>
  (go_end0 (by kernel_rfl)
  (go_seq (go_reg0
  (go_op0 rfl rfl (st_id (v := (.fn (.func 29) [] [v18,v15,v65,v62,v68])) (H := h73) (by kernel_rfl)
  (go_op0 rfl rfl (st_id (v := (.fn (.func 30) [] [v15,v3,v62,v18])) (H := h73) (by kernel_rfl)
  (go_op0 rfl rfl (st_id (v := (.fn (.func 33) [] [v71,v18,v65,v62])) (H := h73) (by kernel_rfl)
  (go_op0 rfl rfl (st_id (v := (.fn (.func 34) [] [v15,v68,v3,v18])) (H := h73) (by kernel_rfl)
  (go_op0 rfl rfl (st_id (v := (.fn (.func 35) [] [v71,v68])) (H := h73) (by kernel_rfl)
  (go_op0 rfl rfl (st_id (v := (.fn (.func 36) [] [v15,v65,v62,v68])) (H := h73) (by kernel_rfl)
  (go_op0 rfl rfl (st_bm (by kernel_rfl) fun v74 h75 =>
  (go_op0 rfl rfl (st_bp (by kernel_rfl) fun v76 h77 =>
  (go_op0 rfl rfl (st_bs (by kernel_rfl) fun h78 =>
  (go_end0 (by kernel_rfl)
  (go_seq (go_reg0
  (go_op0 rfl rfl (st_bm (by kernel_rfl) fun v79 h80 =>
  (go_op0 rfl rfl (st_bm (by kernel_rfl) fun v81 h82 =>
  (go_op0 rfl rfl (st_bm (by kernel_rfl) fun v83 h84 =>
  (go_op0 rfl rfl (st_bm (by kernel_rfl) fun v85 h86 =>
  (go_op0 rfl rfl (st_bp (by kernel_rfl) fun v87 h88 =>
  (go_end0 (by kernel_rfl)
  (go_seq (go_reg1 xo10_12r
  (go_op2 (a' := ([],[])) xo10_12 rfl rfl rfl (by kernel_rfl) (st_no (by kernel_rfl) (st_bm (by kernel_rfl) fun v89 h90 =>
  (go_op2 (a' := ([],[])) xo10_12 rfl rfl rfl (by kernel_rfl) (st_no (by kernel_rfl) (st_bm (by kernel_rfl) fun v91 h92 =>
  (go_op2 (a' := (lgR v52 ([],[]))) xo10_12 rfl rfl rfl (by kernel_rfl) (st_yes (by kernel_rfl) (st_bm (by kernel_rfl) fun v93 h94 =>
  (go_op2 (a' := (lgR v52 ([],[]))) xo10_12 rfl rfl rfl (by kernel_rfl) (st_no (by kernel_rfl) (st_id (v := v89) (H := h94) (by kernel_rfl)
  (go_op2 (a' := (lgW v9 (lgR v52 ([],[])))) xo10_12 rfl rfl rfl (by kernel_rfl) (st_no (by kernel_rfl) (st_bs (by kernel_rfl) fun h95 =>
  (go_op2 (a' := (lgW v9 (lgR v52 ([],[])))) xo10_12 rfl rfl rfl (by kernel_rfl) (st_no (by kernel_rfl) (st_id (v := v93) (H := h95) (by kernel_rfl)
  (go_end2 xo10_12 (by kernel_rfl) xo10_12a
  (go_ret (by kernel_rfl)))))))))))))))))))))))))))))))))))))))))))))))))))))))))))))))))))))))))))))))))))))))))))))))))))))))))))))))))))))))))))))))))))))))))))))))))))))))))))))))))))))))))))))))))))))
theorem xe10 (k wl : Nat) (h : Hp) : evF Try.prog xM (k + 1) wl 10 [t0,t1,t2,t3,t4] h = bodyV (xX (xS k) 10 wl k false) Try.f10 [t0,t1,t2,t3,t4] h := by kernel_rfl
-- names: xb10,
noncomputable def xg11_0 : Code := codeAt (bodyOf Try.f11) [1,0]
noncomputable def xk11_0 : List Fr := [.seq (codeAt (bodyOf Try.f11) [1,1])]
theorem xb11 (s : Sys) (k wl : Nat) (h : Hp) : bodyV (xX s 11 wl k false) Try.f11 [t0,t1,t2,t3] h =
  bp (opBox t0 h) fun v1 h2 =>
  bp (opBox t3 h2) fun v3 h4 =>
  bm (vLoad s.P 23 v1 h4) h4 fun v5 h6 =>
  bp (callV (xX s 11 wl k false) false true (.fn (.func 14) [] []) [v5] h6) fun v7 h8 =>
  gd v7 (
  bp (opLen s.P 26 t2 h8) fun v9 h10 =>
  bm (vLoad s.P 23 v1 h10) h10 fun v11 h12 =>
  bp (callV (xX s 11 wl k false) false true (.fn (.func 37) [] []) [v11] h12) fun v13 h14 =>
  bm (vBin s.P .eql 3 v9 v13) h14 fun v15 h16 =>
  opsP (xX s 11 wl k false) xg11_0 8 h4.length ([],[]) (runK (xX s 11 wl k false) (bodyK s.P Try.f11) xk11_0) ⟨[t0,t1,t2,t3,v1,uu,uu,v3,(V.lit (Value.bool false)),v5,v7,(V.lit (Value.bool true)),t2,v9,v11,v13,v15,uu,uu,uu,uu,uu,uu,uu,uu,uu,uu,uu,uu,uu,uu,uu,uu,uu,uu,uu,uu,uu,uu,uu,uu,uu,uu,uu,uu,uu,uu,uu,uu,uu,uu,uu,uu,uu],h16⟩) (
  opsP (xX s 11 wl k false) xg11_0 8 h4.length ([],[]) (runK (xX s 11 wl k false) (bodyK s.P Try.f11) xk11_0) ⟨[t0,t1,t2,t3,v1,uu,uu,v3,(V.lit (Value.bool false)),v5,v7,(V.lit (Value.bool false)),uu,uu,uu,uu,uu,uu,uu,uu,uu,uu,uu,uu,uu,uu,uu,uu,uu,uu,uu,uu,uu,uu,uu,uu,uu,uu,uu,uu,uu,uu,uu,uu,uu,uu,uu,uu,uu,uu,uu,uu,uu,uu],h8⟩) (
  opsP (xX s 11 wl k false) xg11_0 4 h4.length ([],[]) (runK (xX s 11 wl k false) (bodyK s.P Try.f11) xk11_0) ⟨[t0,t1,t2,t3,v1,uu,uu,v3,(V.lit (Value.bool false)),v5,v7,v7,uu,uu,uu,uu,uu,uu,uu,uu,uu,uu,uu,uu,uu,uu,uu,uu,uu,uu,uu,uu,uu,uu,uu,uu,uu,uu,uu,uu,uu,uu,uu,uu,uu,uu,uu,uu,uu,uu,uu,uu,uu,uu],h8⟩) :=
  bodyV_run rfl (go_seq (go_reg0
  (go_op0 rfl rfl (st_bp (by kernel_rfl) fun v1 h2 =>
  (go_op0 rfl rfl (st_bp (by kernel_rfl) fun v3 h4 =>
  (go_op0 rfl rfl (st_id (v := (V.lit (Value.bool false))) (H := h4) (by kernel_rfl)
  (go_end0 (by kernel_rfl)
  (go_seq (go_reg0
  (go_op0 rfl rfl (st_bm (by kernel_rfl) fun v5 h6 =>
  (go_op0 rfl rfl (st_bp (by kernel_rfl) fun v7 h8 =>
  (go_op0 rfl rfl (st_id (v := v7) (H := h8) (by kernel_rfl)
  (go_gdT0 rfl rfl rfl (by kernel_rfl)
  (st_id (v := t2) (H := h8) (by kernel_rfl)
  (go_run0 rfl rfl rfl (by kernel_rfl) (st_bp (by kernel_rfl) fun v9 h10 =>
  (go_run0 rfl rfl rfl (by kernel_rfl) (st_bm (by kernel_rfl) fun v11 h12 =>
  (go_run0 rfl rfl rfl (by kernel_rfl) (st_bp (by kernel_rfl) fun v13 h14 =>
  (go_run0 rfl rfl rfl (by kernel_rfl) (st_bm (by kernel_rfl) fun v15 h16 =>
  (by kernel_rfl))))))))))
  (go_skip0 rfl rfl rfl (by kernel_rfl)
  (go_skip0 rfl rfl rfl (by kernel_rfl)
  (go_skip0 rfl rfl rfl (by kernel_rfl)
  (go_skip0 rfl rfl rfl (by kernel_rfl)
  (by kernel_rfl)))))
  (by kernel_rfl)))))))))))))))))))
theorem xe11 (k wl : Nat) (h : Hp) : evF Try.prog xM (k + 1) wl 11 [t0,t1,t2,t3] h = bodyV (xX (xS k) 11 wl k false) Try.f11 [t0,t1,t2,t3] h := by kernel_rfl
theorem xm11_0 (s : Sys) (k wl : Nat) (m0 : Nat) (ac : List Nat × List Nat) (h : Hp) : opsP (xX s 11 wl k false) xg11_0 8 m0 ac (runK (xX s 11 wl k false) (bodyK s.P Try.f11) xk11_0) ⟨[t0,t1,t2,t3,t4,t5,t6,t7,t8,t9,ta,tb,tc,td,te,tf,tg,th,ti,tj,tk,tl,tm,tn,tp,tq,tr,ts,tt,tu,tv,tw,tx,ty,tz,tA,tB,tC,tD,tE,tF,tG,tH,tI,tJ,tK,tL,tM,tN,tO,tP,tQ,tR,tS],h⟩ =
  bm (vPick tb tg (V.lit (Value.bool false))) h fun v17 h18 =>
  gd v17 (
  bp (callV (xX s 11 wl k false) false true (.fn (.func 38) [] []) [t1] h18) fun v19 h20 =>
  opsP (xX s 11 wl k false) xg11_0 12 m0 ac (runK (xX s 11 wl k false) (bodyK s.P Try.f11) xk11_0) ⟨[t0,t1,t2,t3,t4,t5,t6,t7,t8,t9,ta,tb,tc,td,te,tf,tg,v17,(V.lit (Value.bool true)),t1,v19,tl,tm,tn,tp,tq,tr,ts,tt,tu,tv,tw,tx,ty,tz,tA,tB,tC,tD,tE,tF,tG,tH,tI,tJ,tK,tL,tM,tN,tO,tP,tQ,tR,tS],h20⟩) (
  opsP (xX s 11 wl k false) xg11_0 12 m0 ac (runK (xX s 11 wl k false) (bodyK s.P Try.f11) xk11_0) ⟨[t0,t1,t2,t3,t4,t5,t6,t7,t8,t9,ta,tb,tc,td,te,tf,tg,v17,(V.lit (Value.bool false)),uu,uu,tl,tm,tn,tp,tq,tr,ts,tt,tu,tv,tw,tx,ty,tz,tA,tB,tC,tD,tE,tF,tG,tH,tI,tJ,tK,tL,tM,tN,tO,tP,tQ,tR,tS],h18⟩) (
  opsP (xX s 11 wl k false) xg11_0 11 m0 ac (runK (xX s 11 wl k false) (bodyK s.P Try.f11) xk11_0) ⟨[t0,t1,t2,t3,t4,t5,t6,t7,t8,t9,ta,tb,tc,td,te,tf,tg,v17,v17,uu,tk,tl,tm,tn,tp,tq,tr,ts,tt,tu,tv,tw,tx,ty,tz,tA,tB,tC,tD,tE,tF,tG,tH,tI,tJ,tK,tL,tM,tN,tO,tP,tQ,tR,tS],h18⟩) :=
  (go_op0 rfl rfl (st_bm (by kernel_rfl) fun v17 h18 =>
  (go_op0 rfl rfl (st_id (v := v17) (H := h18) (by kernel_rfl)
  (go_gdT0 rfl rfl rfl (by kernel_rfl)
  (st_id (v := t1) (H := h18) (by kernel_rfl)
  (go_run0 rfl rfl rfl (by kernel_rfl) (st_bp (by kernel_rfl) fun v19 h20 =>
  (by kernel_rfl))))
  (go_skip0 rfl rfl rfl (by kernel_rfl)
  (by kernel_rfl))
  (by kernel_rfl))))))
theorem xm11_1 (s : Sys) (k wl : Nat) (m0 : Nat) (ac : List Nat × List Nat) (h : Hp) : opsP (xX s 11 wl k false) xg11_0 12 m0 ac (runK (xX s 11 wl k false) (bodyK s.P Try.f11) xk11_0) ⟨[t0,t1,t2,t3,t4,t5,t6,t7,t8,t9,ta,tb,tc,td,te,tf,tg,th,ti,tj,tk,tl,tm,tn,tp,tq,tr,ts,tt,tu,tv,tw,tx,ty,tz,tA,tB,tC,tD,tE,tF,tG,tH,tI,tJ,tK,tL,tM,tN,tO,tP,tQ,tR,tS],h⟩ =
  bm (vPick ti tk (V.lit (Value.bool false))) h fun v21 h22 =>
  gd v21 (
  bm (vFieldAddr s.P 32 t7 0) h22 fun v23 h24 =>
  bm (vLoad s.P 3 v23 h24) h24 fun v25 h26 =>
  bm (vBin s.P .geq 3 v25 (V.lit (Value.int .i64 0))) h26 fun v27 h28 =>
  opsP (xX s 11 wl k false) xg11_0 17 m0 ac (runK (xX s 11 wl k false) (bodyK s.P Try.f11) xk11_0) ⟨[t0,t1,t2,t3,t4,t5,t6,t7,t8,t9,ta,tb,tc,td,te,tf,tg,th,ti,tj,tk,v21,(V.lit (Value.bool true)),v23,v25,v27,tr,ts,tt,tu,tv,tw,tx,ty,tz,tA,tB,tC,tD,tE,tF,tG,tH,tI,tJ,tK,tL,tM,tN,tO,tP,tQ,tR,tS],h28⟩) (
  opsP (xX s 11 wl k false) xg11_0 17 m0 ac (runK (xX s 11 wl k false) (bodyK s.P Try.f11) xk11_0) ⟨[t0,t1,t2,t3,t4,t5,t6,t7,t8,t9,ta,tb,tc,td,te,tf,tg,th,ti,tj,tk,v21,(V.lit (Value.bool false)),uu,uu,uu,tr,ts,tt,tu,tv,tw,tx,ty,tz,tA,tB,tC,tD,tE,tF,tG,tH,tI,tJ,tK,tL,tM,tN,tO,tP,tQ,tR,tS],h22⟩) (
  opsP (xX s 11 wl k false) xg11_0 15 m0 ac (runK (xX s 11 wl k false) (bodyK s.P Try.f11) xk11_0) ⟨[t0,t1,t2,t3,t4,t5,t6,t7,t8,t9,ta,tb,tc,td,te,tf,tg,th,ti,tj,tk,v21,v21,uu,tp,tq,tr,ts,tt,tu,tv,tw,tx,ty,tz,tA,tB,tC,tD,tE,tF,tG,tH,tI,tJ,tK,tL,tM,tN,tO,tP,tQ,tR,tS],h22⟩) :=
  (go_op0 rfl rfl (st_bm (by kernel_rfl) fun v21 h22 =>
  (go_op0 rfl rfl (st_id (v := v21) (H := h22) (by kernel_rfl)
  (go_gdT0 rfl rfl rfl (by kernel_rfl)
  (st_bm (by kernel_rfl) fun v23 h24 =>
  (go_run0 rfl rfl rfl (by kernel_rfl) (st_bm (by kernel_rfl) fun v25 h26 =>
  (go_run0 rfl rfl rfl (by kernel_rfl) (st_bm (by kernel_rfl) fun v27 h28 =>
  (by kernel_rfl))))))
  (go_skip0 rfl rfl rfl (by kernel_rfl)
  (go_skip0 rfl rfl rfl (by kernel_rfl)
  (by kernel_rfl)))
  (by kernel_rfl))))))
theorem xm11_2 (s : Sys) (k wl : Nat) (m0 : Nat) (ac : List Nat × List Nat) (h : Hp) : opsP (xX s 11 wl k false) xg11_0 17 m0 ac (runK (xX s 11 wl k false) (bodyK s.P Try.f11) xk11_0) ⟨[t0,t1,t2,t3,t4,t5,t6,t7,t8,t9,ta,tb,tc,td,te,tf,tg,th,ti,tj,tk,tl,tm,tn,tp,tq,tr,ts,tt,tu,tv,tw,tx,ty,tz,tA,tB,tC,tD,tE,tF,tG,tH,tI,tJ,tK,tL,tM,tN,tO,tP,tQ,tR,tS],h⟩ =
  bm (vPick tm tq (V.lit (Value.bool false))) h fun v29 h30 =>
  gd v29 (
  bm (vFieldAddr s.P 32 t7 0) h30 fun v31 h32 =>
  bm (vLoad s.P 3 v31 h32) h32 fun v33 h34 =>
  bm (vBin s.P .lss 3 v33 (V.lit (Value.int .i64 6))) h34 fun v35 h36 =>
  opsP (xX s 11 wl k false) xg11_0 22 m0 ac (runK (xX s 11 wl k false) (bodyK s.P Try.f11) xk11_0) ⟨[t0,t1,t2,t3,t4,t5,t6,t7,t8,t9,ta,tb,tc,td,te,tf,tg,th,ti,tj,tk,tl,tm,tn,tp,tq,v29,(V.lit (Value.bool true)),v31,v33,v35,tw,tx,ty,tz,tA,tB,tC,tD,tE,tF,tG,tH,tI,tJ,tK,tL,tM,tN,tO,tP,tQ,tR,tS],h36⟩) (
  opsP (xX s 11 wl k false) xg11_0 22 m0 ac (runK (xX s 11 wl k false) (bodyK s.P Try.f11) xk11_0) ⟨[t0,t1,t2,t3,t4,t5,t6,t7,t8,t9,ta,tb,tc,td,te,tf,tg,th,ti,tj,tk,tl,tm,tn,tp,tq,v29,(V.lit (Value.bool false)),uu,uu,uu,tw,tx,ty,tz,tA,tB,tC,tD,tE,tF,tG,tH,tI,tJ,tK,tL,tM,tN,tO,tP,tQ,tR,tS],h30⟩) (
  opsP (xX s 11 wl k false) xg11_0 20 m0 ac (runK (xX s 11 wl k false) (bodyK s.P Try.f11) xk11_0) ⟨[t0,t1,t2,t3,t4,t5,t6,t7,t8,t9,ta,tb,tc,td,te,tf,tg,th,ti,tj,tk,tl,tm,tn,tp,tq,v29,v29,uu,tu,tv,tw,tx,ty,tz,tA,tB,tC,tD,tE,tF,tG,tH,tI,tJ,tK,tL,tM,tN,tO,tP,tQ,tR,tS],h30⟩) :=
  (go_op0 rfl rfl (st_bm (by kernel_rfl) fun v29 h30 =>
  (go_op0 rfl rfl (st_id (v := v29) (H := h30) (by kernel_rfl)
  (go_gdT0 rfl rfl rfl (by kernel_rfl)
  (st_bm (by kernel_rfl) fun v31 h32 =>
  (go_run0 rfl rfl rfl (by kernel_rfl) (st_bm (by kernel_rfl) fun v33 h34 =>
  (go_run0 rfl rfl rfl (by kernel_rfl) (st_bm (by kernel_rfl) fun v35 h36 =>
  (by kernel_rfl))))))
  (go_skip0 rfl rfl rfl (by kernel_rfl)
  (go_skip0 rfl rfl rfl (by kernel_rfl)
  (by kernel_rfl)))
  (by kernel_rfl))))))
theorem xm11_3 (s : Sys) (k wl : Nat) (m0 : Nat) (ac : List Nat × List Nat) (h : Hp) : opsP (xX s 11 wl k false) xg11_0 22 m0 ac (runK (xX s 11 wl k false) (bodyK s.P Try.f11) xk11_0) ⟨[t0,t1,t2,t3,t4,t5,t6,t7,t8,t9,ta,tb,tc,td,te,tf,tg,th,ti,tj,tk,tl,tm,tn,tp,tq,tr,ts,tt,tu,tv,tw,tx,ty,tz,tA,tB,tC,tD,tE,tF,tG,tH,tI,tJ,tK,tL,tM,tN,tO,tP,tQ,tR,tS],h⟩ =
  bm (vPick ts tv (V.lit (Value.bool false))) h fun v37 h38 =>
  gd v37 (
  bm (vFieldAddr s.P 32 t7 1) h38 fun v39 h40 =>
  bm (vLoad s.P 27 v39 h40) h40 fun v41 h42 =>
  bp (opLen s.P 27 v41 h42) fun v43 h44 =>
  bm (vBin s.P .gtr 3 v43 (V.lit (Value.int .i64 0))) h44 fun v45 h46 =>
  opsP (xX s 11 wl k false) xg11_0 28 m0 ac (runK (xX s 11 wl k false) (bodyK s.P Try.f11) xk11_0) ⟨[t0,t1,t2,t3,t4,t5,t6,t7,t8,t9,ta,tb,tc,td,te,tf,tg,th,ti,tj,tk,tl,tm,tn,tp,tq,tr,ts,tt,tu,tv,v37,(V.lit (Value.bool true)),v39,v41,v43,v45,tC,tD,tE,tF,tG,tH,tI,tJ,tK,tL,tM,tN,tO,tP,tQ,tR,tS],h46⟩) (
  opsP (xX s 11 wl k false) xg11_0 28 m0 ac (runK (xX s 11 wl k false) (bodyK s.P Try.f11) xk11_0) ⟨[t0,t1,t2,t3,t4,t5,t6,t7,t8,t9,ta,tb,tc,td,te,tf,tg,th,ti,tj,tk,tl,tm,tn,tp,tq,tr,ts,tt,tu,tv,v37,(V.lit (Value.bool false)),uu,uu,uu,uu,tC,tD,tE,tF,tG,tH,tI,tJ,tK,tL,tM,tN,tO,tP,tQ,tR,tS],h38⟩) (
  opsP (xX s 11 wl k false) xg11_0 25 m0 ac (runK (xX s 11 wl k false) (bodyK s.P Try.f11) xk11_0) ⟨[t0,t1,t2,t3,t4,t5,t6,t7,t8,t9,ta,tb,tc,td,te,tf,tg,th,ti,tj,tk,tl,tm,tn,tp,tq,tr,ts,tt,tu,tv,v37,v37,uu,tz,tA,tB,tC,tD,tE,tF,tG,tH,tI,tJ,tK,tL,tM,tN,tO,tP,tQ,tR,tS],h38⟩) :=
  (go_op0 rfl rfl (st_bm (by kernel_rfl) fun v37 h38 =>
  (go_op0 rfl rfl (st_id (v := v37) (H := h38) (by kernel_rfl)
  (go_gdT0 rfl rfl rfl (by kernel_rfl)
  (st_bm (by kernel_rfl) fun v39 h40 =>
  (go_run0 rfl rfl rfl (by kernel_rfl) (st_bm (by kernel_rfl) fun v41 h42 =>
  (go_run0 rfl rfl rfl (by kernel_rfl) (st_bp (by kernel_rfl) fun v43 h44 =>
  (go_run0 rfl rfl rfl (by kernel_rfl) (st_bm (by kernel_rfl) fun v45 h46 =>
  (by kernel_rfl))))))))
  (go_skip0 rfl rfl rfl (by kernel_rfl)
  (go_skip0 rfl rfl rfl (by kernel_rfl)
  (go_skip0 rfl rfl rfl (by kernel_rfl)
  (by kernel_rfl))))
  (by kernel_rfl))))))
theorem xm11_4 (s : Sys) (k wl : Nat) (m0 : Nat) (ac : List Nat × List Nat) (h : Hp) : opsP (xX s 11 wl k false) xg11_0 28 m0 ac (runK (xX s 11 wl k false) (bodyK s.P Try.f11) xk11_0) ⟨[t0,t1,t2,t3,t4,t5,t6,t7,t8,t9,ta,tb,tc,td,te,tf,tg,th,ti,tj,tk,tl,tm,tn,tp,tq,tr,ts,tt,tu,tv,tw,tx,ty,tz,tA,tB,tC,tD,tE,tF,tG,tH,tI,tJ,tK,tL,tM,tN,tO,tP,tQ,tR,tS],h⟩ =
  bm (vPick tx tB (V.lit (Value.bool false))) h fun v47 h48 =>
  gd v47 (
  bm (vFieldAddr s.P 32 t7 1) h48 fun v49 h50 =>
  bm (vLoad s.P 27 v49 h50) h50 fun v51 h52 =>
  bm (vIndexAddr s.P 27 v51 (V.lit (Value.int .i64 0)) h52) h52 fun v53 h54 =>
  bm (vLoad s.P 3 v53 h54) h54 fun v55 h56 =>
  bm (vBin s.P .geq 3 v55 (V.lit (Value.int .i64 0))) h56 fun v57 h58 =>
  opsP (xX s 11 wl k false) xg11_0 35 m0 ac (runK (xX s 11 wl k false) (bodyK s.P Try.f11) xk11_0) ⟨[t0,t1,t2,t3,t4,t5,t6,t7,t8,t9,ta,tb,tc,td,te,tf,tg,th,ti,tj,tk,tl,tm,tn,tp,tq,tr,ts,tt,tu,tv,tw,tx,ty,tz,tA,tB,v47,(V.lit (Value.bool true)),v49,v51,v53,v55,v57,tJ,tK,tL,tM,tN,tO,tP,tQ,tR,tS],h58⟩) (
  opsP (xX s 11 wl k false) xg11_0 35 m0 ac (runK (xX s 11 wl k false) (bodyK s.P Try.f11) xk11_0) ⟨[t0,t1,t2,t3,t4,t5,t6,t7,t8,t9,ta,tb,tc,td,te,tf,tg,th,ti,tj,tk,tl,tm,tn,tp,tq,tr,ts,tt,tu,tv,tw,tx,ty,tz,tA,tB,v47,(V.lit (Value.bool false)),uu,uu,uu,uu,uu,tJ,tK,tL,tM,tN,tO,tP,tQ,tR,tS],h48⟩) (
  opsP (xX s 11 wl k false) xg11_0 31 m0 ac (runK (xX s 11 wl k false) (bodyK s.P Try.f11) xk11_0) ⟨[t0,t1,t2,t3,t4,t5,t6,t7,t8,t9,ta,tb,tc,td,te,tf,tg,th,ti,tj,tk,tl,tm,tn,tp,tq,tr,ts,tt,tu,tv,tw,tx,ty,tz,tA,tB,v47,v47,uu,tF,tG,tH,tI,tJ,tK,tL,tM,tN,tO,tP,tQ,tR,tS],h48⟩) :=
  (go_op0 rfl rfl (st_bm (by kernel_rfl) fun v47 h48 =>
  (go_op0 rfl rfl (st_id (v := v47) (H := h48) (by kernel_rfl)
  (go_gdT0 rfl rfl rfl (by kernel_rfl)
  (st_bm (by kernel_rfl) fun v49 h50 =>
  (go_run0 rfl rfl rfl (by kernel_rfl) (st_bm (by kernel_rfl) fun v51 h52 =>
  (go_run0 rfl rfl rfl (by kernel_rfl) (st_bm (by kernel_rfl) fun v53 h54 =>
  (go_run0 rfl rfl rfl (by kernel_rfl) (st_bm (by kernel_rfl) fun v55 h56 =>
  (go_run0 rfl rfl rfl (by kernel_rfl) (st_bm (by kernel_rfl) fun v57 h58 =>
  (by kernel_rfl))))))))))
  (go_skip0 rfl rfl rfl (by kernel_rfl)
  (go_skip0 rfl rfl rfl (by kernel_rfl)
  (go_skip0 rfl rfl rfl (by kernel_rfl)
  (go_skip0 rfl rfl rfl (by kernel_rfl)
  (by kernel_rfl)))))
  (by kernel_rfl))))))
theorem xm11_5 (s : Sys) (k wl : Nat) (m0 : Nat) (ac : List Nat × List Nat) (h : Hp) : opsP (xX s 11 wl k false) xg11_0 35 m0 ac (runK (xX s 11 wl k false) (bodyK s.P Try.f11) xk11_0) ⟨[t0,t1,t2,t3,t4,t5,t6,t7,t8,t9,ta,tb,tc,td,te,tf,tg,th,ti,tj,tk,tl,tm,tn,tp,tq,tr,ts,tt,tu,tv,tw,tx,ty,tz,tA,tB,tC,tD,tE,tF,tG,tH,tI,tJ,tK,tL,tM,tN,tO,tP,tQ,tR,tS],h⟩ =
  bm (vPick tD tI (V.lit (Value.bool false))) h fun v59 h60 =>
  gd v59 (
  bm (vFieldAddr s.P 32 t7 1) h60 fun v61 h62 =>
  bm (vLoad s.P 27 v61 h62) h62 fun v63 h64 =>
  bm (vIndexAddr s.P 27 v63 (V.lit (Value.int .i64 0)) h64) h64 fun v65 h66 =>
  bm (vLoad s.P 3 v65 h66) h66 fun v67 h68 =>
  bp (opLen s.P 24 t1 h68) fun v69 h70 =>
  bm (vBin s.P .lss 3 v67 v69) h70 fun v71 h72 =>
  opsP (xX s 11 wl k false) xg11_0 44 m0 ac (runK (xX s 11 wl k false) (bodyK s.P Try.f11) xk11_0) ⟨[t0,t1,t2,t3,t4,t5,t6,t7,t8,t9,ta,tb,tc,td,te,tf,tg,th,ti,tj,tk,tl,tm,tn,tp,tq,tr,ts,tt,tu,tv,tw,tx,ty,tz,tA,tB,tC,tD,tE,tF,tG,tH,tI,v59,(V.lit (Value.bool true)),v61,v63,v65,v67,t1,v69,v71,tS],h72⟩) (
  opsP (xX s 11 wl k false) xg11_0 44 m0 ac (runK (xX s 11 wl k false) (bodyK s.P Try.f11) xk11_0) ⟨[t0,t1,t2,t3,t4,t5,t6,t7,t8,t9,ta,tb,tc,td,te,tf,tg,th,ti,tj,tk,tl,tm,tn,tp,tq,tr,ts,tt,tu,tv,tw,tx,ty,tz,tA,tB,tC,tD,tE,tF,tG,tH,tI,v59,(V.lit (Value.bool false)),uu,uu,uu,uu,uu,uu,uu,tS],h60⟩) (
  opsP (xX s 11 wl k false) xg11_0 38 m0 ac (runK (xX s 11 wl k false) (bodyK s.P Try.f11) xk11_0) ⟨[t0,t1,t2,t3,t4,t5,t6,t7,t8,t9,ta,tb,tc,td,te,tf,tg,th,ti,tj,tk,tl,tm,tn,tp,tq,tr,ts,tt,tu,tv,tw,tx,ty,tz,tA,tB,tC,tD,tE,tF,tG,tH,tI,v59,v59,uu,tM,tN,tO,tP,tQ,tR,tS],h60⟩) :=
  (go_op0 rfl rfl (st_bm (by kernel_rfl) fun v59 h60 =>
  (go_op0 rfl rfl (st_id (v := v59) (H := h60) (by kernel_rfl)
  (go_gdT0 rfl rfl rfl (by kernel_rfl)
  (st_bm (by kernel_rfl) fun v61 h62 =>
  (go_run0 rfl rfl rfl (by kernel_rfl) (st_bm (by kernel_rfl) fun v63 h64 =>
  (go_run0 rfl rfl rfl (by kernel_rfl) (st_bm (by kernel_rfl) fun v65 h66 =>
  (go_run0 rfl rfl rfl (by kernel_rfl) (st_bm (by kernel_rfl) fun v67 h68 =>
  (go_run0 rfl rfl rfl (by kernel_rfl) (st_id (v := t1) (H := h68) (by kernel_rfl)
  (go_run0 rfl rfl rfl (by kernel_rfl) (st_bp (by kernel_rfl) fun v69 h70 =>
  (go_run0 rfl rfl rfl (by kernel_rfl) (st_bm (by kernel_rfl) fun v71 h72 =>
  (by kernel_rfl))))))))))))))
  (go_skip0 rfl rfl rfl (by kernel_rfl)
  (go_skip0 rfl rfl rfl (by kernel_rfl)
  (go_skip0 rfl rfl rfl (by kernel_rfl)
  (go_skip0 rfl rfl rfl (by kernel_rfl)
  (go_skip0 rfl rfl rfl (by kernel_rfl)
  (go_skip0 rfl rfl rfl (by kernel_rfl)
  (by kernel_rfl)))))))
  (by kernel_rfl))))))
theorem xm11_6 (s : Sys) (k wl : Nat) (m0 : Nat) (ac : List Nat × List Nat) (h : Hp) : opsP (xX s 11 wl k false) xg11_0 44 m0 ac (runK (xX s 11 wl k false) (bodyK s.P Try.f11) xk11_0) ⟨[t0,t1,t2,t3,t4,t5,t6,t7,t8,t9,ta,tb,tc,td,te,tf,tg,th,ti,tj,tk,tl,tm,tn,tp,tq,tr,ts,tt,tu,tv,tw,tx,ty,tz,tA,tB,tC,tD,tE,tF,tG,tH,tI,tJ,tK,tL,tM,tN,tO,tP,tQ,tR,tS],h⟩ =
  bm (vPick tK tR (V.lit (Value.bool false))) h fun v73 h74 =>
  some (v73,h74) :=
  (go_op0 rfl rfl (st_bm (by kernel_rfl) fun v73 h74 =>
  (go_op0 rfl rfl (st_id (v := v73) (H := h74) (by kernel_rfl)
  (go_end0 (by kernel_rfl)
  (go_ret (by kernel_rfl)))))))
theorem xk11_0_ret (cx : Cx) (K : Out → St → Option (V × Hp)) (s : St) : runK cx K xk11_0 .ret s = K .ret s := by kernel_rfl
-- names: xb11,xm11_0,xm11_1,xm11_2,xm11_3,xm11_4,xm11_5,xm11_6,xk11_0_ret
theorem xb13 (s : Sys) (k wl : Nat) (h : Hp) : bodyV (xX s 13 wl k false) Try.f13 [t0] h =
  bp (opBox t0 h) fun v1 h2 =>
  bm (vFieldAddr s.P 32 v1 0) h2 fun v3 h4 =>
  bm (vLoad s.P 3 v3 h4) h4 fun v5 h6 =>
  bm (vBin s.P .neq 3 v5 (V.lit (Value.int .i64 0))) h6 fun v7 h8 =>
  some (v7,h8) :=
  bodyV_run rfl (go_seq (go_reg0
  (go_op0 rfl rfl (st_bp (by kernel_rfl) fun v1 h2 =>
  (go_op0 rfl rfl (st_id (v := (V.lit (Value.bool false))) (H := h2) (by kernel_rfl)
  (go_end0 (by kernel_rfl)
  (go_seq (go_reg0
  (go_op0 rfl rfl (st_bm (by kernel_rfl) fun v3 h4 =>
  (go_op0 rfl rfl (st_bm (by kernel_rfl) fun v5 h6 =>
  (go_op0 rfl rfl (st_bm (by kernel_rfl) fun v7 h8 =>
  (go_op0 rfl rfl (st_id (v := v7) (H := h8) (by kernel_rfl)
  (go_end0 (by kernel_rfl)
  (go_ret (by kernel_rfl))))))))))))))))))))
theorem xe13 (k wl : Nat) (h : Hp) : evF Try.prog xM (k + 1) wl 13 [t0] h = bodyV (xX (xS k) 13 wl k false) Try.f13 [t0] h := by kernel_rfl
-- names: xb13,

theorem xb16 (s : Sys) (k wl : Nat) (h : Hp) : bodyV (xX s 16 wl k false) Try.f16 [t0] h =
  bp (opAlloc s.P 32 h) fun v1 h2 =>
  bp (callV (xX s 16 wl k false) false true (.fn (.func 22) [] []) [t0] h2) fun v3 h4 =>
  bm (vBuild s.P 32 [(1,v3)]) h4 fun v5 h6 =>
  bs (vStore s.P wl 32 v1 v5 h6) fun h7 =>
  resO [vLoad s.P 32 v1 h7] h7 :=
  bodyV_run rfl (go_seq (go_reg0
  (go_op0 rfl rfl (st_bp (by kernel_rfl) fun v1 h2 =>
  (go_end0 (by kernel_rfl)
  (go_seq (go_reg0
  (go_op0 rfl rfl (st_id (v := t0) (H := h2) (by kernel_rfl)
  (go_op0 rfl rfl (st_bp (by kernel_rfl) fun v3 h4 =>
  (go_op0 rfl rfl (st_bm (by kernel_rfl) fun v5 h6 =>
  (go_op0 rfl rfl (st_bs (by kernel_rfl) fun h7 =>
  (go_end0 (by kernel_rfl)
  (go_ret (by kernel_rfl))))))))))))))))))
theorem xe16 (k wl : Nat) (h : Hp) : evF Try.prog xM (k + 1) wl 16 [t0] h = bodyV (xX (xS k) 16 wl k false) Try.f16 [t0] h := by kernel_rfl
-- names: xb16,

theorem xb23 (s : Sys) (k wl : Nat) (h : Hp) : bodyV (xX s 23 wl k false) Try.f23 [t0,t1,t2,t3] h =
  bm (vLoad s.P 35 t2 h) h fun v1 h2 =>
  bm (vLoad s.P 3 t3 h2) h2 fun v3 h4 =>
  bm (vBuild s.P 41 [(0,t0),(1,t1),(2,v3)]) h4 fun v5 h6 =>
  bp (vBuildSlice s.P wl 35 1 [(0,v5)] h6) fun v7 h8 =>
  bp (opApp s.P wl 35 35 v1 v7 h8) fun v9 h10 =>
  bs (vStore s.P wl 35 t2 v9 h10) fun h11 =>
  some (.tup [],h11) :=
  bodyV_run rfl (go_reg0
  (go_op0 rfl rfl (st_bm (by kernel_rfl) fun v1 h2 =>
  (go_op0 rfl rfl (st_id (v := t0) (H := h2) (by kernel_rfl)
  (go_op0 rfl rfl (st_id (v := t1) (H := h2) (by kernel_rfl)
  (go_op0 rfl rfl (st_bm (by kernel_rfl) fun v3 h4 =>
  (go_op0 rfl rfl (st_bm (by kernel_rfl) fun v5 h6 =>
  (go_op0 rfl rfl (st_bp (by kernel_rfl) fun v7 h8 =>
  (go_op0 rfl rfl (st_bp (by kernel_rfl) fun v9 h10 =>
  (go_op0 rfl rfl (st_bs (by kernel_rfl) fun h11 =>
  (go_end0 (by kernel_rfl)
  (by kernel_rfl)))))))))))))))))))
theorem xe23 (k wl : Nat) (h : Hp) : evF Try.prog xM (k + 1) wl 23 [t0,t1,t2,t3] h = bodyV (xX (xS k) 23 wl k false) Try.f23 [t0,t1,t2,t3] h := by kernel_rfl
-- names: xb23,

theorem xb24 (s : Sys) (k wl : Nat) (h : Hp) : bodyV (xX s 24 wl k false) Try.f24 [t0] h =
  bm (vFieldAddr s.P 32 t0 1) h fun v1 h2 =>
  bm (vLoad s.P 27 v1 h2) h2 fun v3 h4 =>
  bp (vSlice s.P wl false 27 v3 (some (V.lit (Value.int .i64 1))) none none h4) fun v5 h6 =>
  bm (vBuild s.P 32 [(1,v5)]) h6 fun v7 h8 =>
  bs (vStore s.P wl 32 t0 v7 h8) fun h9 =>
  some (.tup [],h9) :=
  bodyV_run rfl (go_reg0
  (go_op0 rfl rfl (st_bm (by kernel_rfl) fun v1 h2 =>
  (go_op0 rfl rfl (st_bm (by kernel_rfl) fun v3 h4 =>
  (go_op0 rfl rfl (st_bp (by kernel_rfl) fun v5 h6 =>
  (go_op0 rfl rfl (st_bm (by kernel_rfl) fun v7 h8 =>
  (go_op0 rfl rfl (st_bs (by kernel_rfl) fun h9 =>
  (go_end0 (by kernel_rfl)
  (by kernel_rfl)))))))))))))
theorem xe24 (k wl : Nat) (h : Hp) : evF Try.prog xM (k + 1) wl 24 [t0] h = bodyV (xX (xS k) 24 wl k false) Try.f24 [t0] h := by kernel_rfl
-- names: xb24,
noncomputable def xg25_0 : Code := codeAt (bodyOf Try.f25) [1,1,0,0]
noncomputable def xk25_0 : List Fr := [.seq (codeAt (bodyOf Try.f25) [1,1,0,1]),.seq (codeAt (bodyOf Try.f25) [1,1,1])]
noncomputable def xk25_1 : List Fr := [.seq (codeAt (bodyOf Try.f25) [1,1,1])]
theorem xb25 (s : Sys) (k wl : Nat) (h : Hp) : bodyV (xX s 25 wl k false) Try.f25 [t0,t1,t2] h =
  bm (vFieldAddr s.P 32 t0 2) h fun v1 h2 =>
  bm (vFieldAddr s.P 30 v1 0) h2 fun v3 h4 =>
  bm (vLoad s.P 3 v3 h4) h4 fun v5 h6 =>
  bm (vBin s.P .eql 3 v5 (V.lit (Value.int .i64 3))) h6 fun v7 h8 =>
  gd v7 (
  opsP (xX s 25 wl k false) xg25_0 9 h.length ([],[]) (runK (xX s 25 wl k false) (bodyK s.P Try.f25) xk25_0) ⟨[t0,t1,t2,(V.lit (Value.bool false)),(.fn (.func 26) [] []),v1,v3,v5,v7,(V.lit (Value.bool true)),uu,uu,uu,uu,uu,uu,uu,uu,uu,uu,uu,uu,uu,uu,uu,uu,uu,uu],h8⟩) (
  bm (vFieldAddr s.P 32 t0 2) h8 fun v9 h10 =>
  bm (vFieldAddr s.P 30 v9 0) h10 fun v11 h12 =>
  bm (vLoad s.P 3 v11 h12) h12 fun v13 h14 =>
  bm (vBin s.P .eql 3 v13 (V.lit (Value.int .i64 4))) h14 fun v15 h16 =>
  opsP (xX s 25 wl k false) xg25_0 9 h.length ([],[]) (runK (xX s 25 wl k false) (bodyK s.P Try.f25) xk25_0) ⟨[t0,t1,t2,(V.lit (Value.bool false)),(.fn (.func 26) [] []),v1,v3,v5,v7,(V.lit (Value.bool false)),v9,v11,v13,v15,uu,uu,uu,uu,uu,uu,uu,uu,uu,uu,uu,uu,uu,uu],h16⟩) (
  opsP (xX s 25 wl k false) xg25_0 6 h.length ([],[]) (runK (xX s 25 wl k false) (bodyK s.P Try.f25) xk25_0) ⟨[t0,t1,t2,(V.lit (Value.bool false)),(.fn (.func 26) [] []),v1,v3,v5,v7,v7,uu,uu,uu,uu,uu,uu,uu,uu,uu,uu,uu,uu,uu,uu,uu,uu,uu,uu],h8⟩) :=
  bodyV_run rfl (go_seq (go_reg0
  (go_op0 rfl rfl (st_id (v := (V.lit (Value.bool false))) (H := h) (by kernel_rfl)
  (go_end0 (by kernel_rfl)
  (go_seq (go_reg0
  (go_op0 rfl rfl (st_id (v := (.fn (.func 26) [] [])) (H := h) (by kernel_rfl)
  (go_end0 (by kernel_rfl)
  (go_seq (go_seq (go_reg0
  (go_op0 rfl rfl (st_bm (by kernel_rfl) fun v1 h2 =>
  (go_op0 rfl rfl (st_bm (by kernel_rfl) fun v3 h4 =>
  (go_op0 rfl rfl (st_bm (by kernel_rfl) fun v5 h6 =>
  (go_op0 rfl rfl (st_bm (by kernel_rfl) fun v7 h8 =>
  (go_op0 rfl rfl (st_id (v := v7) (H := h8) (by kernel_rfl)
  (go_gdF0 rfl rfl rfl (by kernel_rfl)
  (go_skip0 rfl rfl rfl (by kernel_rfl)
  (go_skip0 rfl rfl rfl (by kernel_rfl)
  (go_skip0 rfl rfl rfl (by kernel_rfl)
  (by kernel_rfl))))
  (st_bm (by kernel_rfl) fun v9 h10 =>
  (go_run0 rfl rfl rfl (by kernel_rfl) (st_bm (by kernel_rfl) fun v11 h12 =>
  (go_run0 rfl rfl rfl (by kernel_rfl) (st_bm (by kernel_rfl) fun v13 h14 =>
  (go_run0 rfl rfl rfl (by kernel_rfl) (st_bm (by kernel_rfl) fun v15 h16 =>
  (by kernel_rfl))))))))
  (by kernel_rfl)))))))))))))))))))))))))
theorem xe25 (k wl : Nat) (h : Hp) : evF Try.prog xM (k + 1) wl 25 [t0,t1,t2] h = bodyV (xX (xS k) 25 wl k false) Try.f25 [t0,t1,t2] h := by kernel_rfl
theorem xm25_0 (s : Sys) (k wl : Nat) (m0 : Nat) (ac : List Nat × List Nat) (h : Hp) : opsP (xX s 25 wl k false) xg25_0 9 m0 ac (runK (xX s 25 wl k false) (bodyK s.P Try.f25) xk25_0) ⟨[t0,t1,t2,t3,t4,t5,t6,t7,t8,t9,ta,tb,tc,td,te,tf,tg,th,ti,tj,tk,tl,tm,tn,tp,tq,tr,ts],h⟩ =
  bm (vPick t9 (V.lit (Value.bool true)) td) h fun v17 h18 =>
  cnd v17 (
  runK (xX s 25 wl k false) (bodyK s.P Try.f25) xk25_1 .norm ⟨[t0,t1,t2,t3,(.fn (.func 27) [] []),t5,t6,t7,t8,t9,ta,tb,tc,td,v17,tf,tg,th,ti,tj,tk,tl,tm,tn,tp,tq,tr,ts],h18⟩) (
  runK (xX s 25 wl k false) (bodyK s.P Try.f25) xk25_1 .norm ⟨[t0,t1,t2,t3,t4,t5,t6,t7,t8,t9,ta,tb,tc,td,v17,tf,tg,th,ti,tj,tk,tl,tm,tn,tp,tq,tr,ts],h18⟩) :=
  (go_op0 rfl rfl (st_bm (by kernel_rfl) fun v17 h18 =>
  (go_end0 (by kernel_rfl)
  (go_cond (by kernel_rfl)
  (go_reg0
  (go_op0 rfl rfl (st_id (v := (.fn (.func 27) [] [])) (H := h18) (by kernel_rfl)
  (go_end0 (by kernel_rfl)
  (by kernel_rfl)))))
  (go_skip (by kernel_rfl))))))
theorem xj25_1 (s : Sys) (k wl : Nat) (h : Hp) : runK (xX s 25 wl k false) (bodyK s.P Try.f25) xk25_1 .norm ⟨[t0,t1,t2,t3,t4,t5,t6,t7,t8,t9,ta,tb,tc,td,te,tf,tg,th,ti,tj,tk,tl,tm,tn,tp,tq,tr,ts],h⟩ =
  bm (vLoad s.P 23 t1 h) h fun v19 h20 =>
  bm (vLoad s.P 26 t2 h20) h20 fun v21 h22 =>
  bm (vFieldAddr s.P 32 t0 2) h22 fun v23 h24 =>
  bm (vLoad s.P 30 v23 h24) h24 fun v25 h26 =>
  bp (callV (xX s 25 wl k false) false true t4 [v19,v21,v25] h26) fun v27 h28 =>
  bm (vExtract v27 0) h28 fun v29 h30 =>
  bm (vExtract v27 1) h30 fun v31 h32 =>
  bs (vStore s.P wl 26 t2 v29 h32) fun h33 =>
  bm (vFieldAddr s.P 32 t0 2) h33 fun v34 h35 =>
  bs (vStore s.P wl 30 v34 v31 h35) fun h36 =>
  bm (vFieldAddr s.P 32 t0 2) h36 fun v37 h38 =>
  bm (vLoad s.P 30 v37 h38) h38 fun v39 h40 =>
  bp (callV (xX s 25 wl k false) false true (.fn (.func 28) [] []) [v39] h40) fun v41 h42 =>
  some (v41,h42) :=
  (go_seq (go_reg0
  (go_op0 rfl rfl (st_id (v := t4) (H := h) (by kernel_rfl)
  (go_op0 rfl rfl (st_bm (by kernel_rfl) fun v19 h20 =>
  (go_op0 rfl rfl (st_bm (by kernel_rfl) fun v21 h22 =>
  (go_op0 rfl rfl (st_bm (by kernel_rfl) fun v23 h24 =>
  (go_op0 rfl rfl (st_bm (by kernel_rfl) fun v25 h26 =>
  (go_op0 rfl rfl (st_bp (by kernel_rfl) fun v27 h28 =>
  (go_op0 rfl rfl (st_id (v := v27) (H := h28) (by kernel_rfl)
  (go_op0 rfl rfl (st_bm (by kernel_rfl) fun v29 h30 =>
  (go_op0 rfl rfl (st_bm (by kernel_rfl) fun v31 h32 =>
  (go_op0 rfl rfl (st_bs (by kernel_rfl) fun h33 =>
  (go_op0 rfl rfl (st_bm (by kernel_rfl) fun v34 h35 =>
  (go_op0 rfl rfl (st_bs (by kernel_rfl) fun h36 =>
  (go_end0 (by kernel_rfl)
  (go_seq (go_reg0
  (go_op0 rfl rfl (st_bm (by kernel_rfl) fun v37 h38 =>
  (go_op0 rfl rfl (st_bm (by kernel_rfl) fun v39 h40 =>
  (go_op0 rfl rfl (st_bp (by kernel_rfl) fun v41 h42 =>
  (go_op0 rfl rfl (st_id (v := v41) (H := h42) (by kernel_rfl)
  (go_end0 (by kernel_rfl)
  (go_ret (by kernel_rfl))))))))))))))))))))))))))))))))))))))))
theorem xk25_0_ret (cx : Cx) (K : Out → St → Option (V × Hp)) (s : St) : runK cx K xk25_0 .ret s = K .ret s := by kernel_rfl
theorem xk25_1_ret (cx : Cx) (K : Out → St → Option (V × Hp)) (s : St) : runK cx K xk25_1 .ret s = K .ret s := by kernel_rfl
-- names: xb25,xm25_0,xj25_1,xk25_0_ret,xk25_1_ret

theorem xb29 (s : Sys) (k wl : Nat) (h : Hp) : bodyV (xX s 29 wl k false) Try.f29 [t0,t1,t2,t3,t4] h =
  bm (vFieldAddr s.P 32 t0 0) h fun v1 h2 =>
  bs (vStore s.P wl 3 v1 (V.lit (Value.int .i64 1)) h2) fun h3 =>
  bm (vLoad s.P 26 t1 h3) h3 fun v4 h5 =>
  bp (callV (xX s 29 wl k false) false true (.fn (.func 17) [] []) [v4,(V.lit (Value.int .i64 3))] h5) fun v6 h7 =>
  bm (vBin s.P .neq 28 v6 (V.lit (Value.int .u64 0))) h7 fun v8 h9 =>
  cnd v8 (
  bm (vLoad s.P 57 t2 h9) h9 fun v10 h11 =>
  bm (vLoad s.P 3 t3 h11) h11 fun v12 h13 =>
  bp (callV (xX s 29 wl k false) false true v10 [(V.lit (Value.int .i64 1)),v12] h13) fun v14 h15 =>
  bm (vLoad s.P 1 t4 h15) h15 fun v16 h17 =>
  bp (callV (xX s 29 wl k false) false true v16 [] h17) fun v18 h19 =>
  some (.tup [],h19)) (
  some (.tup [],h9)) :=
  bodyV_run rfl (go_seq (go_reg0
  (go_op0 rfl rfl (st_bm (by kernel_rfl) fun v1 h2 =>
  (go_op0 rfl rfl (st_bs (by kernel_rfl) fun h3 =>
  (go_end0 (by kernel_rfl)
  (go_seq (go_reg0
  (go_op0 rfl rfl (st_bm (by kernel_rfl) fun v4 h5 =>
  (go_op0 rfl rfl (st_bp (by kernel_rfl) fun v6 h7 =>
  (go_op0 rfl rfl (st_bm (by kernel_rfl) fun v8 h9 =>
  (go_end0 (by kernel_rfl)
  (go_cond (by kernel_rfl)
  (go_seq (go_reg0
  (go_op0 rfl rfl (st_bm (by kernel_rfl) fun v10 h11 =>
  (go_op0 rfl rfl (st_bm (by kernel_rfl) fun v12 h13 =>
  (go_op0 rfl rfl (st_bp (by kernel_rfl) fun v14 h15 =>
  (go_end0 (by kernel_rfl)
  (go_reg0
  (go_op0 rfl rfl (st_bm (by kernel_rfl) fun v16 h17 =>
  (go_op0 rfl rfl (st_bp (by kernel_rfl) fun v18 h19 =>
  (go_end0 (by kernel_rfl)
  (by kernel_rfl))))))))))))))))
  (go_skip (by kernel_rfl)))))))))))))))))))
theorem xe29 (k wl : Nat) (h : Hp) : evF Try.prog xM (k + 1) wl 29 [t0,t1,t2,t3,t4] h = bodyV (xX (xS k) 29 wl k false) Try.f29 [t0,t1,t2,t3,t4] h := by kernel_rfl
-- names: xb29,

theorem xb30 (s : Sys) (k wl : Nat) (h : Hp) : bodyV (xX s 30 wl k false) Try.f30 [t0,t1,t2,t3] h =
  bm (vLoad s.P 26 t0 h) h fun v1 h2 =>
  bp (callV (xX s 30 wl k false) false true (.fn (.func 31) [] []) [v1,(V.lit (Value.int .i64 0)),(V.lit (Value.int .u64 1))] h2) fun v3 h4 =>
  bm (vExtract v3 0) h4 fun v5 h6 =>
  bm (vExtract v3 1) h6 fun v7 h8 =>
  bs (vStore s.P wl 26 t0 v5 h8) fun h9 =>
  bm (vLoad s.P 3 t1 h9) h9 fun v10 h11 =>
  bm (vLoad s.P 3 t2 h11) h11 fun v12 h13 =>
  bm (vConv s.P 3 28 v12) h13 fun v14 h15 =>
  bp (callV (xX s 30 wl k false) false true (.fn (.func 32) [] []) [(V.lit (Value.int .i64 3)),v10,v14] h15) fun v16 h17 =>
  bm (vFieldAddr s.P 32 t3 0) h17 fun v18 h19 =>
  bs (vStore s.P wl 3 v18 (V.lit (Value.int .i64 2)) h19) fun h20 =>
  bm (vFieldAddr s.P 32 t3 2) h20 fun v21 h22 =>
  bs (vStore s.P wl 30 v21 v16 h22) fun h23 =>
  some (.tup [],h23) :=
  bodyV_run rfl (go_seq (go_reg0
  (go_op0 rfl rfl (st_bm (by kernel_rfl) fun v1 h2 =>
  (go_op0 rfl rfl (st_bp (by kernel_rfl) fun v3 h4 =>
  (go_op0 rfl rfl (st_id (v := v3) (H := h4) (by kernel_rfl)
  (go_op0 rfl rfl (st_bm (by kernel_rfl) fun v5 h6 =>
  (go_op0 rfl rfl (st_bm (by kernel_rfl) fun v7 h8 =>
  (go_op0 rfl rfl (st_bs (by kernel_rfl) fun h9 =>
  (go_end0 (by kernel_rfl)
  (go_reg0
  (go_op0 rfl rfl (st_bm (by kernel_rfl) fun v10 h11 =>
  (go_op0 rfl rfl (st_bm (by kernel_rfl) fun v12 h13 =>
  (go_op0 rfl rfl (st_bm (by kernel_rfl) fun v14 h15 =>
  (go_op0 rfl rfl (st_bp (by kernel_rfl) fun v16 h17 =>
  (go_op0 rfl rfl (st_bm (by kernel_rfl) fun v18 h19 =>
  (go_op0 rfl rfl (st_bs (by kernel_rfl) fun h20 =>
  (go_op0 rfl rfl (st_bm (by kernel_rfl) fun v21 h22 =>
  (go_op0 rfl rfl (st_bs (by kernel_rfl) fun h23 =>
  (go_end0 (by kernel_rfl)
  (by kernel_rfl))))))))))))))))))))))))))))))))))
theorem xe30 (k wl : Nat) (h : Hp) : evF Try.prog xM (k + 1) wl 30 [t0,t1,t2,t3] h = bodyV (xX (xS k) 30 wl k false) Try.f30 [t0,t1,t2,t3] h := by kernel_rfl
-- names: xb30,

theorem xb33 (s : Sys) (k wl : Nat) (h : Hp) : bodyV (xX s 33 wl k false) Try.f33 [t0,t1,t2,t3] h =
  bm (vLoad s.P 33 t0 h) h fun v1 h2 =>
  bp (callV (xX s 33 wl k false) false true v1 [] h2) fun v3 h4 =>
  bm (vUn .not v3) h4 fun v5 h6 =>
  cnd v5 (
  some (.tup [],h6)) (
  bm (vFieldAddr s.P 32 t1 0) h6 fun v7 h8 =>
  bs (vStore s.P wl 3 v7 (V.lit (Value.int .i64 5)) h8) fun h9 =>
  bm (vFieldAddr s.P 32 t1 2) h9 fun v10 h11 =>
  bm (vFieldAddr s.P 30 v10 6) h11 fun v12 h13 =>
  bm (vLoad s.P 3 v12 h13) h13 fun v14 h15 =>
  bm (vBin s.P .neq 3 v14 (V.lit (Value.int .i64 2))) h15 fun v16 h17 =>
  cnd v16 (
  bm (vLoad s.P 57 t2 h17) h17 fun v18 h19 =>
  bm (vLoad s.P 3 t3 h19) h19 fun v20 h21 =>
  bp (callV (xX s 33 wl k false) false true v18 [(V.lit (Value.int .i64 0)),v20] h21) fun v22 h23 =>
  bm (vFieldAddr s.P 32 t1 0) h23 fun v24 h25 =>
  bs (vStore s.P wl 3 v24 (V.lit (Value.int .i64 3)) h25) fun h26 =>
  some (.tup [],h26)) (
  some (.tup [],h17))) :=
  bodyV_run rfl (go_seq (go_seq (go_reg0
  (go_op0 rfl rfl (st_bm (by kernel_rfl) fun v1 h2 =>
  (go_op0 rfl rfl (st_bp (by kernel_rfl) fun v3 h4 =>
  (go_op0 rfl rfl (st_bm (by kernel_rfl) fun v5 h6 =>
  (go_end0 (by kernel_rfl)
  (go_cond (by kernel_rfl)
  (go_ret (rt_seq_ret (by kernel_rfl)))
  (go_skip (go_seq (go_reg0
  (go_op0 rfl rfl (st_bm (by kernel_rfl) fun v7 h8 =>
  (go_op0 rfl rfl (st_bs (by kernel_rfl) fun h9 =>
  (go_end0 (by kernel_rfl)
  (go_seq (go_reg0
  (go_op0 rfl rfl (st_bm (by kernel_rfl) fun v10 h11 =>
  (go_op0 rfl rfl (st_bm (by kernel_rfl) fun v12 h13 =>
  (go_op0 rfl rfl (st_bm (by kernel_rfl) fun v14 h15 =>
  (go_op0 rfl rfl (st_bm (by kernel_rfl) fun v16 h17 =>
  (go_end0 (by kernel_rfl)
  (go_cond (by kernel_rfl)
  (go_seq (go_reg0
  (go_op0 rfl rfl (st_bm (by kernel_rfl) fun v18 h19 =>
  (go_op0 rfl rfl (st_bm (by kernel_rfl) fun v20 h21 =>
  (go_op0 rfl rfl (st_bp (by kernel_rfl) fun v22 h23 =>
  (go_end0 (by kernel_rfl)
  (go_reg0
  (go_op0 rfl rfl (st_bm (by kernel_rfl) fun v24 h25 =>
  (go_op0 rfl rfl (st_bs (by kernel_rfl) fun h26 =>
  (go_end0 (by kernel_rfl)
  (by kernel_rfl))))))))))))))))
  (go_skip (by kernel_rfl)))))))))))))))))))))))))))))))))
theorem xe33 (k wl : Nat) (h : Hp) : evF Try.prog xM (k + 1) wl 33 [t0,t1,t2,t3] h = bodyV (xX (xS k) 33 wl k false) Try.f33 [t0,t1,t2,t3] h := by kernel_rfl
-- names: xb33,

theorem xb34 (s : Sys) (k wl : Nat) (h : Hp) : bodyV (xX s 34 wl k false) Try.f34 [t0,t1,t2,t3] h =
  bm (vLoad s.P 26 t0 h) h fun v1 h2 =>
  bp (callV (xX s 34 wl k false) false true (.fn (.func 17) [] []) [v1,(V.lit (Value.int .i64 1))] h2) fun v3 h4 =>
  bm (vBin s.P .neq 28 v3 (V.lit (Value.int .u64 0))) h4 fun v5 h6 =>
  cnd v5 (
  bm (vLoad s.P 1 t1 h6) h6 fun v7 h8 =>
  bp (callV (xX s 34 wl k false) false true v7 [] h8) fun v9 h10 =>
  some (.tup [],h10)) (
  bm (vLoad s.P 3 t2 h6) h6 fun v11 h12 =>
  bp (callV (xX s 34 wl k false) false true (.fn (.func 32) [] []) [(V.lit (Value.int .i64 6)),v11,(V.lit (Value.int .u64 0))] h12) fun v13 h14 =>
  bm (vFieldAddr s.P 32 t3 0) h14 fun v15 h16 =>
  bs (vStore s.P wl 3 v15 (V.lit (Value.int .i64 4)) h16) fun h17 =>
  bm (vFieldAddr s.P 32 t3 2) h17 fun v18 h19 =>
  bs (vStore s.P wl 30 v18 v13 h19) fun h20 =>
  some (.tup [],h20)) :=
  bodyV_run rfl (go_seq (go_seq (go_reg0
  (go_op0 rfl rfl (st_bm (by kernel_rfl) fun v1 h2 =>
  (go_op0 rfl rfl (st_bp (by kernel_rfl) fun v3 h4 =>
  (go_op0 rfl rfl (st_bm (by kernel_rfl) fun v5 h6 =>
  (go_end0 (by kernel_rfl)
  (go_cond (by kernel_rfl)
  (go_seq (go_reg0
  (go_op0 rfl rfl (st_bm (by kernel_rfl) fun v7 h8 =>
  (go_op0 rfl rfl (st_bp (by kernel_rfl) fun v9 h10 =>
  (go_end0 (by kernel_rfl)
  (go_ret (rt_seq_ret (by kernel_rfl))))))))))
  (go_skip (go_reg0
  (go_op0 rfl rfl (st_bm (by kernel_rfl) fun v11 h12 =>
  (go_op0 rfl rfl (st_bp (by kernel_rfl) fun v13 h14 =>
  (go_op0 rfl rfl (st_bm (by kernel_rfl) fun v15 h16 =>
  (go_op0 rfl rfl (st_bs (by kernel_rfl) fun h17 =>
  (go_op0 rfl rfl (st_bm (by kernel_rfl) fun v18 h19 =>
  (go_op0 rfl rfl (st_bs (by kernel_rfl) fun h20 =>
  (go_end0 (by kernel_rfl)
  (by kernel_rfl)))))))))))))))))))))))))))
theorem xe34 (k wl : Nat) (h : Hp) : evF Try.prog xM (k + 1) wl 34 [t0,t1,t2,t3] h = bodyV (xX (xS k) 34 wl k false) Try.f34 [t0,t1,t2,t3] h := by kernel_rfl
-- names: xb34,

theorem xb35 (s : Sys) (k wl : Nat) (h : Hp) : bodyV (xX s 35 wl k false) Try.f35 [t0,t1] h =
  bm (vLoad s.P 33 t0 h) h fun v1 h2 =>
  bp (callV (xX s 35 wl k false) false true v1 [] h2) fun v3 h4 =>
  cnd v3 (
  bm (vLoad s.P 1 t1 h4) h4 fun v5 h6 =>
  bp (callV (xX s 35 wl k false) false true v5 [] h6) fun v7 h8 =>
  some (.tup [],h8)) (
  some (.tup [],h4)) :=
  bodyV_run rfl (go_seq (go_reg0
  (go_op0 rfl rfl (st_bm (by kernel_rfl) fun v1 h2 =>
  (go_op0 rfl rfl (st_bp (by kernel_rfl) fun v3 h4 =>
  (go_end0 (by kernel_rfl)
  (go_cond (by kernel_rfl)
  (go_reg0
  (go_op0 rfl rfl (st_bm (by kernel_rfl) fun v5 h6 =>
  (go_op0 rfl rfl (st_bp (by kernel_rfl) fun v7 h8 =>
  (go_end0 (by kernel_rfl)
  (by kernel_rfl)))))))
  (go_skip (by kernel_rfl))))))))))
theorem xe35 (k wl : Nat) (h : Hp) : evF Try.prog xM (k + 1) wl 35 [t0,t1] h = bodyV (xX (xS k) 35 wl k false) Try.f35 [t0,t1] h := by kernel_rfl
-- names: xb35,

theorem xb36 (s : Sys) (k wl : Nat) (h : Hp) : bodyV (xX s 36 wl k false) Try.f36 [t0,t1,t2,t3] h =
  bm (vLoad s.P 26 t0 h) h fun v1 h2 =>
  bp (callV (xX s 36 wl k false) false true (.fn (.func 31) [] []) [v1,(V.lit (Value.int .i64 0)),(V.lit (Value.int .u64 18446744073709551615))] h2) fun v3 h4 =>
  bm (vExtract v3 0) h4 fun v5 h6 =>
  bm (vExtract v3 1) h6 fun v7 h8 =>
  bs (vStore s.P wl 26 t0 v5 h8) fun h9 =>
  bm (vLoad s.P 57 t1 h9) h9 fun v10 h11 =>
  bm (vLoad s.P 3 t2 h11) h11 fun v12 h13 =>
  bp (callV (xX s 36 wl k false) false true v10 [(V.lit (Value.int .i64 1)),v12] h13) fun v14 h15 =>
  bm (vBin s.P .eql 28 v7 (V.lit (Value.int .u64 1))) h15 fun v16 h17 =>
  cnd v16 (
  bm (vLoad s.P 57 t1 h17) h17 fun v18 h19 =>
  bp (callV (xX s 36 wl k false) false true v18 [(V.lit (Value.int .i64 5)),(V.lit (Value.int .i64 0))] h19) fun v20 h21 =>
  bm (vLoad s.P 1 t3 h21) h21 fun v22 h23 =>
  bp (callV (xX s 36 wl k false) false true v22 [] h23) fun v24 h25 =>
  some (.tup [],h25)) (
  bm (vLoad s.P 1 t3 h17) h17 fun v26 h27 =>
  bp (callV (xX s 36 wl k false) false true v26 [] h27) fun v28 h29 =>
  some (.tup [],h29)) :=
  bodyV_run rfl (go_seq (go_reg0
  (go_op0 rfl rfl (st_id (v := (V.lit (Value.int .u64 0))) (H := h) (by kernel_rfl)
  (go_end0 (by kernel_rfl)
  (go_seq (go_reg0
  (go_op0 rfl rfl (st_bm (by kernel_rfl) fun v1 h2 =>
  (go_op0 rfl rfl (st_bp (by kernel_rfl) fun v3 h4 =>
  (go_op0 rfl rfl (st_id (v := v3) (H := h4) (by kernel_rfl)
  (go_op0 rfl rfl (st_bm (by kernel_rfl) fun v5 h6 =>
  (go_op0 rfl rfl (st_bm (by kernel_rfl) fun v7 h8 =>
  (go_op0 rfl rfl (st_bs (by kernel_rfl) fun h9 =>
  (go_op0 rfl rfl (st_id (v := v7) (H := h9) (by kernel_rfl)
  (go_end0 (by kernel_rfl)
  (go_seq (go_reg0
  (go_op0 rfl rfl (st_bm (by kernel_rfl) fun v10 h11 =>
  (go_op0 rfl rfl (st_bm (by kernel_rfl) fun v12 h13 =>
  (go_op0 rfl rfl (st_bp (by kernel_rfl) fun v14 h15 =>
  (go_end0 (by kernel_rfl)
  (go_seq (go_seq (go_reg0
  (go_op0 rfl rfl (st_id (v := v7) (H := h15) (by kernel_rfl)
  (go_op0 rfl rfl (st_bm (by kernel_rfl) fun v16 h17 =>
  (go_end0 (by kernel_rfl)
  (go_cond (by kernel_rfl)
  (go_reg0
  (go_op0 rfl rfl (st_bm (by kernel_rfl) fun v18 h19 =>
  (go_op0 rfl rfl (st_bp (by kernel_rfl) fun v20 h21 =>
  (go_end0 (by kernel_rfl)
  (go_reg0
  (go_op0 rfl rfl (st_bm (by kernel_rfl) fun v22 h23 =>
  (go_op0 rfl rfl (st_bp (by kernel_rfl) fun v24 h25 =>
  (go_end0 (by kernel_rfl)
  (by kernel_rfl)))))))))))))
  (go_skip (go_reg0
  (go_op0 rfl rfl (st_bm (by kernel_rfl) fun v26 h27 =>
  (go_op0 rfl rfl (st_bp (by kernel_rfl) fun v28 h29 =>
  (go_end0 (by kernel_rfl)
  (by kernel_rfl))))))))))))))))))))))))))))))))))))))))))))))))
theorem xe36 (k wl : Nat) (h : Hp) : evF Try.prog xM (k + 1) wl 36 [t0,t1,t2,t3] h = bodyV (xX (xS k) 36 wl k false) Try.f36 [t0,t1,t2,t3] h := by kernel_rfl
-- names: xb36,
end Go.Ab
