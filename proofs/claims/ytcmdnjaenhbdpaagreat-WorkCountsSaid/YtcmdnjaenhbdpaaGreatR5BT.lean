/- The program's code,point by point: printed by gen.py. -/
import Derived.Test.YtcmdnjaenhbdpaaGreatR5Seat
import Derived.Test.YtcmdnjaenhbdpaaGreatAbLibC
set_option linter.unusedVariables false
set_option linter.unusedSimpArgs false
set_option maxRecDepth 100000
set_option linter.unusedVariables false
namespace Go.Ab
open Go.Proofs
variable (s : Sys) (k wl : Nat) (m0 : Nat) (ac : List Nat × List Nat) (t0 t1 t2 t3 t4 t5 t6 t7 t8 t9 ta tb tc td te tf tg th ti tj tk tl tm tn tp tq tr ts tt tu tv tw tx ty tz tA tB tC tD tE tF tG tH tI tJ tK tL tM tN tO tP tQ tR tS : V)
noncomputable def xg40_0 : Code := codeAt (bodyOf Tryz.f40) [1,0]
noncomputable def xk40_0 : List Fr := [.seq (codeAt (bodyOf Tryz.f40) [1,1])]
theorem xb40 (h : Hp) : bodyV (xX s 40 wl k false) Tryz.f40 [t0,t1] h =
  bp (opBox t0 h) fun v1 h2 =>
  bm (vLoad s.P 24 v1 h2) h2 fun v3 h4 =>
  bp (callV (xX s 40 wl k false) false true (.fn (.func 39) [] []) [v3] h4) fun v5 h6 =>
  gd v5 (
  bp (callV (xX s 40 wl k false) false true (.fn (.func 63) [] []) [t1,(.fn (.func 64) [] [v1])] h6) fun v7 h8 =>
  bm (vUn .not v7) h8 fun v9 h10 =>
  opsP (xX s 40 wl k false) xg40_0 7 h2.length ([],[]) (runK (xX s 40 wl k false) (bodyK s.P Tryz.f40) xk40_0) ⟨[t0,t1,v1,uu,(V.lit (Value.bool false)),v3,v5,(V.lit (Value.bool true)),t1,(.fn (.func 64) [] [v1]),v7,v9,uu],h10⟩) (
  opsP (xX s 40 wl k false) xg40_0 7 h2.length ([],[]) (runK (xX s 40 wl k false) (bodyK s.P Tryz.f40) xk40_0) ⟨[t0,t1,v1,uu,(V.lit (Value.bool false)),v3,v5,(V.lit (Value.bool false)),uu,uu,uu,uu,uu],h6⟩) (
  opsP (xX s 40 wl k false) xg40_0 4 h2.length ([],[]) (runK (xX s 40 wl k false) (bodyK s.P Tryz.f40) xk40_0) ⟨[t0,t1,v1,uu,(V.lit (Value.bool false)),v3,v5,v5,uu,uu,uu,uu,uu],h6⟩) :=
  bodyV_run rfl (go_seq (go_reg0
  (pP fun v1 h2 =>
  (go_op0 rfl rfl (st_id (v := (V.lit (Value.bool false))) (H := h2) (by kernel_rfl)
  (eN
  (go_seq (go_reg0
  (pM fun v3 h4 =>
  (pP fun v5 h6 =>
  (pI v5 h6
  (go_gdT0 rfl rfl rfl (by kernel_rfl)
  (st_id (v := t1) (H := h6) (by kernel_rfl)
  (rN (st_id (v := (.fn (.func 64) [] [v1])) (H := h6) (by kernel_rfl)
  (rN (st_bp (by kernel_rfl) fun v7 h8 =>
  (rN (st_bm (by kernel_rfl) fun v9 h10 =>
  (by kernel_rfl))))))))
  (sK
  (sK
  (sK
  (by kernel_rfl))))
  (by kernel_rfl)))))))))))))
theorem xe40 (k wl : Nat) (h : Hp) : evF Tryz.prog xM (k + 1) wl 40 [t0,t1] h = bodyV (xX (xS k) 40 wl k false) Tryz.f40 [t0,t1] h := by kernel_rfl
theorem xm40_0 (h : Hp) : opsP (xX s 40 wl k false) xg40_0 7 m0 ac (runK (xX s 40 wl k false) (bodyK s.P Tryz.f40) xk40_0) ⟨[t0,t1,t2,t3,t4,t5,t6,t7,t8,t9,ta,tb,tc],h⟩ =
  bm (vPick t7 tb (V.lit (Value.bool false))) h fun v11 h12 =>
  some (v11,h12) :=
  (pM fun v11 h12 =>
  (pI v11 h12
  (eN
  (go_ret (by kernel_rfl)))))
theorem xk40_0_ret (cx : Cx) (K : Out → St → Option (V × Hp)) (s : St) : runK cx K xk40_0 .ret s = K .ret s := by kernel_rfl
-- names: xb40,xm40_0,xk40_0_ret

noncomputable def xg55_0 : Code := codeAt (bodyOf Tryz.f55) [1,0,0]
noncomputable def xk55_0 : List Fr := [.seq (codeAt (bodyOf Tryz.f55) [1,0,1]),.seq (codeAt (bodyOf Tryz.f55) [1,1])]
theorem xb55 (h : Hp) : bodyV (xX s 55 wl k false) Tryz.f55 [t0,t1] h =
  bp (opAlloc s.P 78 h) fun v1 h2 =>
  bp (opLen s.P 27 t1 h2) fun v3 h4 =>
  bm (vBin s.P .eql 3 v3 (V.lit (Value.int .i64 0))) h4 fun v5 h6 =>
  gd v5 (
  opsP (xX s 55 wl k false) xg55_0 8 h2.length ([],[]) (runK (xX s 55 wl k false) (bodyK s.P Tryz.f55) xk55_0) ⟨[t0,t1,uu,uu,v1,uu,uu,t1,v3,v5,(V.lit (Value.bool true)),uu,uu,uu,uu,uu,uu,uu,uu,uu,uu,uu,uu,uu,uu,uu,uu,uu,uu,uu,uu,uu,uu,uu,uu,uu,uu,uu,uu,uu,uu,uu,uu,uu,uu,uu,uu,uu,uu,uu,uu,uu,uu,uu],h6⟩) (
  bp (callV (xX s 55 wl k false) false true (.fn (.func 40) [] []) [t0,t1] h6) fun v7 h8 =>
  bm (vUn .not v7) h8 fun v9 h10 =>
  opsP (xX s 55 wl k false) xg55_0 8 h2.length ([],[]) (runK (xX s 55 wl k false) (bodyK s.P Tryz.f55) xk55_0) ⟨[t0,t1,uu,uu,v1,uu,uu,t1,v3,v5,(V.lit (Value.bool false)),t0,t1,v7,v9,uu,uu,uu,uu,uu,uu,uu,uu,uu,uu,uu,uu,uu,uu,uu,uu,uu,uu,uu,uu,uu,uu,uu,uu,uu,uu,uu,uu,uu,uu,uu,uu,uu,uu,uu,uu,uu,uu,uu],h10⟩) (
  opsP (xX s 55 wl k false) xg55_0 5 h2.length ([],[]) (runK (xX s 55 wl k false) (bodyK s.P Tryz.f55) xk55_0) ⟨[t0,t1,uu,uu,v1,uu,uu,t1,v3,v5,v5,uu,uu,uu,uu,uu,uu,uu,uu,uu,uu,uu,uu,uu,uu,uu,uu,uu,uu,uu,uu,uu,uu,uu,uu,uu,uu,uu,uu,uu,uu,uu,uu,uu,uu,uu,uu,uu,uu,uu,uu,uu,uu,uu],h6⟩) :=
  bodyV_run rfl (go_seq (go_reg0
  (pP fun v1 h2 =>
  (eN
  (go_seq (go_seq (go_reg0
  (pI t1 h2
  (pP fun v3 h4 =>
  (pM fun v5 h6 =>
  (pI v5 h6
  (go_gdF0 rfl rfl rfl (by kernel_rfl)
  (sK
  (sK
  (sK
  (by kernel_rfl))))
  (st_id (v := t0) (H := h6) (by kernel_rfl)
  (rN (st_id (v := t1) (H := h6) (by kernel_rfl)
  (rN (st_bp (by kernel_rfl) fun v7 h8 =>
  (rN (st_bm (by kernel_rfl) fun v9 h10 =>
  (by kernel_rfl))))))))
  (by kernel_rfl)))))))))))))
theorem xe55 (k wl : Nat) (h : Hp) : evF Tryz.prog xM (k + 1) wl 55 [t0,t1] h = bodyV (xX (xS k) 55 wl k false) Tryz.f55 [t0,t1] h := by kernel_rfl
theorem xm55_0 (h : Hp) : opsP (xX s 55 wl k false) xg55_0 8 m0 ac (runK (xX s 55 wl k false) (bodyK s.P Tryz.f55) xk55_0) ⟨[t0,t1,t2,t3,t4,t5,t6,t7,t8,t9,ta,tb,tc,td,te,tf,tg,th,ti,tj,tk,tl,tm,tn,tp,tq,tr,ts,tt,tu,tv,tw,tx,ty,tz,tA,tB,tC,tD,tE,tF,tG,tH,tI,tJ,tK,tL,tM,tN,tO,tP,tQ,tR,tS],h⟩ =
  bm (vPick ta (V.lit (Value.bool true)) te) h fun v11 h12 =>
  cnd v11 (
  bm (vBuild s.P 78 []) h12 fun v13 h14 =>
  bs (vStore s.P wl 78 t4 v13 h14) fun h15 =>
  resO [vLoad s.P 78 t4 h15] h15) (
  bp (opLen s.P 27 t1 h12) fun v16 h17 =>
  bm (vBin s.P .sub 3 v16 (V.lit (Value.int .i64 1))) h17 fun v18 h19 =>
  bm (vIndexAddr s.P 27 t1 v18 h19) h19 fun v20 h21 =>
  bm (vLoad s.P 57 v20 h21) h21 fun v22 h23 =>
  bp (opAlloc s.P 57 h23) fun v24 h25 =>
  bs (vStore s.P wl 57 v24 v22 h25) fun h26 =>
  bm (vFieldAddr s.P 57 v24 0) h26 fun v27 h28 =>
  bm (vLoad s.P 3 v27 h28) h28 fun v29 h30 =>
  bm (vIndexAddr s.P 24 t0 v29 h30) h30 fun v31 h32 =>
  bm (vLoad s.P 69 v31 h32) h32 fun v33 h34 =>
  bp (opAlloc s.P 69 h34) fun v35 h36 =>
  bs (vStore s.P wl 69 v35 v33 h36) fun h37 =>
  bm (vFieldAddr s.P 57 v24 1) h37 fun v38 h39 =>
  bm (vLoad s.P 3 v38 h39) h39 fun v40 h41 =>
  bm (vFieldAddr s.P 69 v35 0) h41 fun v42 h43 =>
  bm (vLoad s.P 3 v42 h43) h43 fun v44 h45 =>
  bm (vBin s.P .lss 3 v40 v44) h45 fun v46 h47 =>
  cnd v46 (
  bm (vFieldAddr s.P 57 v24 0) h47 fun v48 h49 =>
  bm (vLoad s.P 3 v48 h49) h49 fun v50 h51 =>
  bm (vBuild s.P 78 [(0,(V.lit (Value.int .i64 1))),(1,v50)]) h51 fun v52 h53 =>
  bs (vStore s.P wl 78 t4 v52 h53) fun h54 =>
  resO [vLoad s.P 78 t4 h54] h54) (
  bm (vFieldAddr s.P 57 v24 2) h47 fun v55 h56 =>
  bm (vLoad s.P 3 v55 h56) h56 fun v57 h58 =>
  bm (vFieldAddr s.P 69 v35 1) h58 fun v59 h60 =>
  bm (vLoad s.P 65 v59 h60) h60 fun v61 h62 =>
  bp (opLen s.P 65 v61 h62) fun v63 h64 =>
  bm (vBin s.P .lss 3 v57 v63) h64 fun v65 h66 =>
  cnd v65 (
  bm (vFieldAddr s.P 69 v35 1) h66 fun v67 h68 =>
  bm (vLoad s.P 65 v67 h68) h68 fun v69 h70 =>
  bm (vFieldAddr s.P 57 v24 2) h70 fun v71 h72 =>
  bm (vLoad s.P 3 v71 h72) h72 fun v73 h74 =>
  bm (vIndexAddr s.P 65 v69 v73 h74) h74 fun v75 h76 =>
  bm (vLoad s.P 3 v75 h76) h76 fun v77 h78 =>
  bm (vBuild s.P 78 [(0,(V.lit (Value.int .i64 2))),(1,v77)]) h78 fun v79 h80 =>
  bs (vStore s.P wl 78 t4 v79 h80) fun h81 =>
  resO [vLoad s.P 78 t4 h81] h81) (
  bm (vFieldAddr s.P 57 v24 0) h66 fun v82 h83 =>
  bm (vLoad s.P 3 v82 h83) h83 fun v84 h85 =>
  bm (vBuild s.P 78 [(0,(V.lit (Value.int .i64 3))),(1,v84)]) h85 fun v86 h87 =>
  bs (vStore s.P wl 78 t4 v86 h87) fun h88 =>
  resO [vLoad s.P 78 t4 h88] h88))) :=
  (pM fun v11 h12 =>
  (eN
  (go_cond (by kernel_rfl)
  (go_seq (go_reg0
  (pM fun v13 h14 =>
  (pS fun h15 =>
  (eN
  (go_ret (rt_seq_ret (by kernel_rfl))))))))
  (go_skip (go_seq (go_reg0
  (pI t1 h12
  (pI t1 h12
  (pP fun v16 h17 =>
  (pM fun v18 h19 =>
  (pM fun v20 h21 =>
  (pM fun v22 h23 =>
  (pP fun v24 h25 =>
  (pS fun h26 =>
  (eN
  (go_seq (go_reg0
  (pI t0 h26
  (pM fun v27 h28 =>
  (pM fun v29 h30 =>
  (pM fun v31 h32 =>
  (pM fun v33 h34 =>
  (pP fun v35 h36 =>
  (pS fun h37 =>
  (eN
  (go_seq (go_block (go_seq (go_reg0
  (pM fun v38 h39 =>
  (pM fun v40 h41 =>
  (pM fun v42 h43 =>
  (pM fun v44 h45 =>
  (pM fun v46 h47 =>
  (pI v46 h47
  (eN
  (go_cond (by kernel_rfl)
  (go_seq (go_reg0
  (pM fun v48 h49 =>
  (pM fun v50 h51 =>
  (pM fun v52 h53 =>
  (pS fun h54 =>
  (eN
  (go_ret (rt_block_ret (rt_seq_ret (by kernel_rfl)))))))))))
  (go_seq (go_reg0
  (pM fun v55 h56 =>
  (pM fun v57 h58 =>
  (pM fun v59 h60 =>
  (pM fun v61 h62 =>
  (pP fun v63 h64 =>
  (pM fun v65 h66 =>
  (pI v65 h66
  (eN
  (go_cond (by kernel_rfl)
  (go_seq (go_reg0
  (pM fun v67 h68 =>
  (pM fun v69 h70 =>
  (pM fun v71 h72 =>
  (pM fun v73 h74 =>
  (pM fun v75 h76 =>
  (pM fun v77 h78 =>
  (pM fun v79 h80 =>
  (pS fun h81 =>
  (eN
  (go_ret (rt_block_ret (rt_seq_ret (by kernel_rfl)))))))))))))))
  (go_skip (rt_block_norm (go_seq (go_reg0
  (pM fun v82 h83 =>
  (pM fun v84 h85 =>
  (pM fun v86 h87 =>
  (pS fun h88 =>
  (eN
  (go_ret (by kernel_rfl)))))))))))))))))))))))))))))))))))))))))))))))))))))))))))
theorem xk55_0_ret (cx : Cx) (K : Out → St → Option (V × Hp)) (s : St) : runK cx K xk55_0 .ret s = K .ret s := by kernel_rfl
-- names: xb55,xm55_0,xk55_0_ret

theorem xb56 (h : Hp) : bodyV (xX s 56 wl k false) Tryz.f56 [t0,t1] h =
  bp (some (.own h.length 0 0,h ++ [.rows 0 [] 0 true])) fun v1 h2 =>
  bp (callV (xX s 56 wl k false) false true (.fn (.func 21) [] []) [t1] h2) fun v3 h4 =>
  bp (callV (xX s 56 wl k false) false true (.fn (.func 78) [] []) [] h4) fun v5 h6 =>
  bp (callV (xX s 56 wl k false) false true (.fn (.func 55) [] []) [t0,t1] h6) fun v7 h8 =>
  bm (vField s.P 78 v7 0) h8 fun v9 h10 =>
  bm (vLookup s.P 101 v5 v9 true h10) h10 fun v11 h12 =>
  bm (vExtract v11 0) h12 fun v13 h14 =>
  bm (vExtract v11 1) h14 fun v15 h16 =>
  cnd v15 (
  bp (callV (xX s 56 wl k false) false true v13 [v3] h16) fun v17 h18 =>
  some (v17,h18)) (
  some (v3,h16)) :=
  bodyV_run rfl (go_seq (go_reg0
  (pP fun v1 h2 =>
  (eN
  (go_seq (go_reg0
  (pI t1 h2
  (pP fun v3 h4 =>
  (pI v3 h4
  (eN
  (go_seq (go_seq (go_reg0
  (pP fun v5 h6 =>
  (pI t0 h6
  (pI t1 h6
  (pP fun v7 h8 =>
  (pM fun v9 h10 =>
  (pM fun v11 h12 =>
  (pI v11 h12
  (pM fun v13 h14 =>
  (pM fun v15 h16 =>
  (pI v13 h16
  (pI v15 h16
  (eN
  (go_seq (go_reg0
  (pI v15 h16
  (eN
  (go_cond (by kernel_rfl)
  (go_seq (go_reg0
  (pI v13 h16
  (pI v3 h16
  (pP fun v17 h18 =>
  (pI v17 h18
  (eN
  (go_ret (rt_seq_ret (by kernel_rfl))))))))))
  (go_skip (go_seq (go_reg0
  (pI v3 h16
  (pI v3 h16
  (eN
  (go_ret (by kernel_rfl))))))))))))))))))))))))))))))))))))))
theorem xe56 (k wl : Nat) (h : Hp) : evF Tryz.prog xM (k + 1) wl 56 [t0,t1] h = bodyV (xX (xS k) 56 wl k false) Tryz.f56 [t0,t1] h := by kernel_rfl
-- names: xb56,

theorem xb63 (h : Hp) : bodyV (xX s 63 wl k false) Tryz.f63 [t0,t1] h =
  bp (callV (xX s 63 wl k false) false true (.fn (.func 81) [] []) [t0,t1] h) fun v1 h2 =>
  bm (vBin s.P .geq 3 v1 (V.lit (Value.int .i64 0))) h2 fun v3 h4 =>
  some (v3,h4) :=
  bodyV_run rfl (go_seq (go_reg0
  (go_op0 rfl rfl (st_id (v := (V.lit (Value.bool false))) (H := h) (by kernel_rfl)
  (eN
  (go_seq (go_reg0
  (pI t0 h
  (pI t1 h
  (pP fun v1 h2 =>
  (pM fun v3 h4 =>
  (pI v3 h4
  (eN
  (go_ret (by kernel_rfl)))))))))))))))
theorem xe63 (k wl : Nat) (h : Hp) : evF Tryz.prog xM (k + 1) wl 63 [t0,t1] h = bodyV (xX (xS k) 63 wl k false) Tryz.f63 [t0,t1] h := by kernel_rfl
-- names: xb63,
noncomputable def xg64_0 : Code := codeAt (bodyOf Tryz.f64) [1,1,1,0]
noncomputable def xk64_0 : List Fr := [.seq (codeAt (bodyOf Tryz.f64) [1,1,1,1])]
theorem xb64 (h : Hp) : bodyV (xX s 64 wl k false) Tryz.f64 [t0,t1] h =
  bp (opBox t0 h) fun v1 h2 =>
  bm (vFieldAddr s.P 57 v1 0) h2 fun v3 h4 =>
  bm (vLoad s.P 3 v3 h4) h4 fun v5 h6 =>
  bm (vLoad s.P 24 t1 h6) h6 fun v7 h8 =>
  bp (opLen s.P 24 v7 h8) fun v9 h10 =>
  bm (vBin s.P .sub 3 v9 (V.lit (Value.int .i64 1))) h10 fun v11 h12 =>
  bp (callV (xX s 64 wl k false) false true (.fn (.func 65) [] []) [v5,v11] h12) fun v13 h14 =>
  bm (vUn .not v13) h14 fun v15 h16 =>
  cnd v15 (
  some ((V.lit (Value.bool true)),h16)) (
  bm (vLoad s.P 24 t1 h16) h16 fun v17 h18 =>
  bm (vFieldAddr s.P 57 v1 0) h18 fun v19 h20 =>
  bm (vLoad s.P 3 v19 h20) h20 fun v21 h22 =>
  bm (vIndexAddr s.P 24 v17 v21 h22) h22 fun v23 h24 =>
  bm (vLoad s.P 69 v23 h24) h24 fun v25 h26 =>
  bp (opAlloc s.P 69 h26) fun v27 h28 =>
  bs (vStore s.P wl 69 v27 v25 h28) fun h29 =>
  bm (vFieldAddr s.P 57 v1 1) h29 fun v30 h31 =>
  bm (vLoad s.P 3 v30 h31) h31 fun v32 h33 =>
  bm (vFieldAddr s.P 69 v27 0) h33 fun v34 h35 =>
  bm (vLoad s.P 3 v34 h35) h35 fun v36 h37 =>
  bp (callV (xX s 64 wl k false) false true (.fn (.func 65) [] []) [v32,v36] h37) fun v38 h39 =>
  bm (vUn .not v38) h39 fun v40 h41 =>
  gd v40 (
  opsP (xX s 64 wl k false) xg64_0 14 h29.length ([],[]) (runK (xX s 64 wl k false) (bodyK s.P Tryz.f64) xk64_0) ⟨[t0,t1,v1,(V.lit (Value.bool false)),v27,v3,v5,v7,v9,v11,v13,v15,v17,v19,v21,v23,v25,v30,v32,v34,v36,v38,v40,(V.lit (Value.bool true)),uu,uu,uu,uu,uu,uu,uu,uu,uu,uu,uu,uu,uu,uu,uu,uu,uu,uu,uu,uu],h41⟩) (
  bm (vFieldAddr s.P 57 v1 2) h41 fun v42 h43 =>
  bm (vLoad s.P 3 v42 h43) h43 fun v44 h45 =>
  bm (vFieldAddr s.P 69 v27 1) h45 fun v46 h47 =>
  bm (vLoad s.P 65 v46 h47) h47 fun v48 h49 =>
  bp (opLen s.P 65 v48 h49) fun v50 h51 =>
  bp (callV (xX s 64 wl k false) false true (.fn (.func 65) [] []) [v44,v50] h51) fun v52 h53 =>
  bm (vUn .not v52) h53 fun v54 h55 =>
  opsP (xX s 64 wl k false) xg64_0 14 h29.length ([],[]) (runK (xX s 64 wl k false) (bodyK s.P Tryz.f64) xk64_0) ⟨[t0,t1,v1,(V.lit (Value.bool false)),v27,v3,v5,v7,v9,v11,v13,v15,v17,v19,v21,v23,v25,v30,v32,v34,v36,v38,v40,(V.lit (Value.bool false)),v42,v44,v46,v48,v50,v52,v54,uu,uu,uu,uu,uu,uu,uu,uu,uu,uu,uu,uu,uu],h55⟩) (
  opsP (xX s 64 wl k false) xg64_0 8 h29.length ([],[]) (runK (xX s 64 wl k false) (bodyK s.P Tryz.f64) xk64_0) ⟨[t0,t1,v1,(V.lit (Value.bool false)),v27,v3,v5,v7,v9,v11,v13,v15,v17,v19,v21,v23,v25,v30,v32,v34,v36,v38,v40,v40,uu,uu,uu,uu,uu,uu,uu,uu,uu,uu,uu,uu,uu,uu,uu,uu,uu,uu,uu,uu],h41⟩)) :=
  bodyV_run rfl (go_seq (go_reg0
  (pP fun v1 h2 =>
  (go_op0 rfl rfl (st_id (v := (V.lit (Value.bool false))) (H := h2) (by kernel_rfl)
  (eN
  (go_seq (go_seq (go_reg0
  (pM fun v3 h4 =>
  (pM fun v5 h6 =>
  (pM fun v7 h8 =>
  (pP fun v9 h10 =>
  (pM fun v11 h12 =>
  (pP fun v13 h14 =>
  (pM fun v15 h16 =>
  (eN
  (go_cond (by kernel_rfl)
  (go_seq (go_reg0
  (go_op0 rfl rfl (st_id (v := (V.lit (Value.bool true))) (H := h16) (by kernel_rfl)
  (eN
  (go_ret (rt_seq_ret (by kernel_rfl))))))))
  (go_skip (go_seq (go_reg0
  (pM fun v17 h18 =>
  (pM fun v19 h20 =>
  (pM fun v21 h22 =>
  (pM fun v23 h24 =>
  (pM fun v25 h26 =>
  (pP fun v27 h28 =>
  (pS fun h29 =>
  (eN
  (go_seq (go_reg0
  (pM fun v30 h31 =>
  (pM fun v32 h33 =>
  (pM fun v34 h35 =>
  (pM fun v36 h37 =>
  (pP fun v38 h39 =>
  (pM fun v40 h41 =>
  (pI v40 h41
  (go_gdF0 rfl rfl rfl (by kernel_rfl)
  (sK
  (sK
  (sK
  (sK
  (sK
  (sK
  (by kernel_rfl)))))))
  (st_bm (by kernel_rfl) fun v42 h43 =>
  (rN (st_bm (by kernel_rfl) fun v44 h45 =>
  (rN (st_bm (by kernel_rfl) fun v46 h47 =>
  (rN (st_bm (by kernel_rfl) fun v48 h49 =>
  (rN (st_bp (by kernel_rfl) fun v50 h51 =>
  (rN (st_bp (by kernel_rfl) fun v52 h53 =>
  (rN (st_bm (by kernel_rfl) fun v54 h55 =>
  (by kernel_rfl))))))))))))))
  (by kernel_rfl))))))))))))))))))))))))))))))))))))))))
theorem xe64 (k wl : Nat) (h : Hp) : evF Tryz.prog xM (k + 1) wl 64 [t0,t1] h = bodyV (xX (xS k) 64 wl k false) Tryz.f64 [t0,t1] h := by kernel_rfl
theorem xm64_0 (h : Hp) : opsP (xX s 64 wl k false) xg64_0 14 m0 ac (runK (xX s 64 wl k false) (bodyK s.P Tryz.f64) xk64_0) ⟨[t0,t1,t2,t3,t4,t5,t6,t7,t8,t9,ta,tb,tc,td,te,tf,tg,th,ti,tj,tk,tl,tm,tn,tp,tq,tr,ts,tt,tu,tv,tw,tx,ty,tz,tA,tB,tC,tD,tE,tF,tG,tH,tI],h⟩ =
  bm (vPick tn (V.lit (Value.bool true)) tv) h fun v56 h57 =>
  gd v56 (
  opsP (xX s 64 wl k false) xg64_0 26 m0 ac (runK (xX s 64 wl k false) (bodyK s.P Tryz.f64) xk64_0) ⟨[t0,t1,t2,t3,t4,t5,t6,t7,t8,t9,ta,tb,tc,td,te,tf,tg,th,ti,tj,tk,tl,tm,tn,tp,tq,tr,ts,tt,tu,tv,v56,(V.lit (Value.bool true)),uu,uu,uu,uu,uu,uu,uu,uu,uu,uu,tI],h57⟩) (
  bm (vFieldAddr s.P 57 t2 1) h57 fun v58 h59 =>
  bm (vLoad s.P 3 v58 h59) h59 fun v60 h61 =>
  bm (vFieldAddr s.P 69 t4 0) h61 fun v62 h63 =>
  bm (vLoad s.P 3 v62 h63) h63 fun v64 h65 =>
  bm (vBin s.P .lss 3 v60 v64) h65 fun v66 h67 =>
  opsP (xX s 64 wl k false) xg64_0 22 m0 ac (runK (xX s 64 wl k false) (bodyK s.P Tryz.f64) xk64_0) ⟨[t0,t1,t2,t3,t4,t5,t6,t7,t8,t9,ta,tb,tc,td,te,tf,tg,th,ti,tj,tk,tl,tm,tn,tp,tq,tr,ts,tt,tu,tv,v56,(V.lit (Value.bool false)),v58,v60,v62,v64,v66,v66,tE,tF,tG,tH,tI],h67⟩) (
  opsP (xX s 64 wl k false) xg64_0 17 m0 ac (runK (xX s 64 wl k false) (bodyK s.P Tryz.f64) xk64_0) ⟨[t0,t1,t2,t3,t4,t5,t6,t7,t8,t9,ta,tb,tc,td,te,tf,tg,th,ti,tj,tk,tl,tm,tn,tp,tq,tr,ts,tt,tu,tv,v56,v56,uu,tz,tA,tB,tC,tD,tE,tF,tG,tH,tI],h57⟩) :=
  (pM fun v56 h57 =>
  (pI v56 h57
  (go_gdF0 rfl rfl rfl (by kernel_rfl)
  (sK
  (sK
  (sK
  (sK
  (sK
  (go_none0 (x := #[]) rfl rfl rfl (by kernel_rfl)
  (go_none0 (x := #[]) rfl rfl rfl (by kernel_rfl)
  (go_none0 (x := #[]) rfl rfl rfl (by kernel_rfl)
  (sK
  (by kernel_rfl))))))))))
  (st_bm (by kernel_rfl) fun v58 h59 =>
  (rN (st_bm (by kernel_rfl) fun v60 h61 =>
  (rN (st_bm (by kernel_rfl) fun v62 h63 =>
  (rN (st_bm (by kernel_rfl) fun v64 h65 =>
  (rN (st_bm (by kernel_rfl) fun v66 h67 =>
  (rN (st_id (v := v66) (H := h67) (by kernel_rfl)
  (by kernel_rfl))))))))))))
  (by kernel_rfl))))
theorem xm64_1 (h : Hp) : opsP (xX s 64 wl k false) xg64_0 26 m0 ac (runK (xX s 64 wl k false) (bodyK s.P Tryz.f64) xk64_0) ⟨[t0,t1,t2,t3,t4,t5,t6,t7,t8,t9,ta,tb,tc,td,te,tf,tg,th,ti,tj,tk,tl,tm,tn,tp,tq,tr,ts,tt,tu,tv,tw,tx,ty,tz,tA,tB,tC,tD,tE,tF,tG,tH,tI],h⟩ =
  bm (vPick tx (V.lit (Value.bool true)) tH) h fun v68 h69 =>
  some (v68,h69) :=
  (pM fun v68 h69 =>
  (pI v68 h69
  (eN
  (go_ret (by kernel_rfl)))))
theorem xm64_2 (h : Hp) : opsP (xX s 64 wl k false) xg64_0 22 m0 ac (runK (xX s 64 wl k false) (bodyK s.P Tryz.f64) xk64_0) ⟨[t0,t1,t2,t3,t4,t5,t6,t7,t8,t9,ta,tb,tc,td,te,tf,tg,th,ti,tj,tk,tl,tm,tn,tp,tq,tr,ts,tt,tu,tv,tw,tx,ty,tz,tA,tB,tC,tD,tE,tF,tG,tH,tI],h⟩ =
  gd tD (
  bm (vFieldAddr s.P 57 t2 2) h fun v70 h71 =>
  bm (vLoad s.P 3 v70 h71) h71 fun v72 h73 =>
  bm (vBin s.P .gtr 3 v72 (V.lit (Value.int .i64 0))) h73 fun v74 h75 =>
  opsP (xX s 64 wl k false) xg64_0 25 m0 ac (runK (xX s 64 wl k false) (bodyK s.P Tryz.f64) xk64_0) ⟨[t0,t1,t2,t3,t4,t5,t6,t7,t8,t9,ta,tb,tc,td,te,tf,tg,th,ti,tj,tk,tl,tm,tn,tp,tq,tr,ts,tt,tu,tv,tw,tx,ty,tz,tA,tB,tC,(V.lit (Value.bool true)),v70,v72,v74,tH,tI],h75⟩) (
  opsP (xX s 64 wl k false) xg64_0 25 m0 ac (runK (xX s 64 wl k false) (bodyK s.P Tryz.f64) xk64_0) ⟨[t0,t1,t2,t3,t4,t5,t6,t7,t8,t9,ta,tb,tc,td,te,tf,tg,th,ti,tj,tk,tl,tm,tn,tp,tq,tr,ts,tt,tu,tv,tw,tx,ty,tz,tA,tB,tC,(V.lit (Value.bool false)),uu,uu,uu,tH,tI],h⟩) (
  opsP (xX s 64 wl k false) xg64_0 23 m0 ac (runK (xX s 64 wl k false) (bodyK s.P Tryz.f64) xk64_0) ⟨[t0,t1,t2,t3,t4,t5,t6,t7,t8,t9,ta,tb,tc,td,te,tf,tg,th,ti,tj,tk,tl,tm,tn,tp,tq,tr,ts,tt,tu,tv,tw,tx,ty,tz,tA,tB,tC,tD,uu,tF,tG,tH,tI],h⟩) :=
  (go_gdT0 rfl rfl rfl (by kernel_rfl)
  (st_bm (by kernel_rfl) fun v70 h71 =>
  (rN (st_bm (by kernel_rfl) fun v72 h73 =>
  (rN (st_bm (by kernel_rfl) fun v74 h75 =>
  (by kernel_rfl))))))
  (sK
  (sK
  (by kernel_rfl)))
  (by kernel_rfl))
theorem xm64_3 (h : Hp) : opsP (xX s 64 wl k false) xg64_0 25 m0 ac (runK (xX s 64 wl k false) (bodyK s.P Tryz.f64) xk64_0) ⟨[t0,t1,t2,t3,t4,t5,t6,t7,t8,t9,ta,tb,tc,td,te,tf,tg,th,ti,tj,tk,tl,tm,tn,tp,tq,tr,ts,tt,tu,tv,tw,tx,ty,tz,tA,tB,tC,tD,tE,tF,tG,tH,tI],h⟩ =
  gd tx (
  opsP (xX s 64 wl k false) xg64_0 26 m0 ac (runK (xX s 64 wl k false) (bodyK s.P Tryz.f64) xk64_0) ⟨[t0,t1,t2,t3,t4,t5,t6,t7,t8,t9,ta,tb,tc,td,te,tf,tg,th,ti,tj,tk,tl,tm,tn,tp,tq,tr,ts,tt,tu,tv,tw,(V.lit (Value.bool true)),ty,tz,tA,tB,tC,tD,tE,tF,tG,uu,tI],h⟩) (
  bm (vPick tD tG (V.lit (Value.bool false))) h fun v76 h77 =>
  opsP (xX s 64 wl k false) xg64_0 26 m0 ac (runK (xX s 64 wl k false) (bodyK s.P Tryz.f64) xk64_0) ⟨[t0,t1,t2,t3,t4,t5,t6,t7,t8,t9,ta,tb,tc,td,te,tf,tg,th,ti,tj,tk,tl,tm,tn,tp,tq,tr,ts,tt,tu,tv,tw,(V.lit (Value.bool false)),ty,tz,tA,tB,tC,tD,tE,tF,tG,v76,tI],h77⟩) (
  opsP (xX s 64 wl k false) xg64_0 26 m0 ac (runK (xX s 64 wl k false) (bodyK s.P Tryz.f64) xk64_0) ⟨[t0,t1,t2,t3,t4,t5,t6,t7,t8,t9,ta,tb,tc,td,te,tf,tg,th,ti,tj,tk,tl,tm,tn,tp,tq,tr,ts,tt,tu,tv,tw,tx,ty,tz,tA,tB,tC,tD,tE,tF,tG,uu,tI],h⟩) :=
  (go_gdF0 rfl rfl rfl (by kernel_rfl)
  (by kernel_rfl)
  (st_bm (by kernel_rfl) fun v76 h77 =>
  (by kernel_rfl))
  (by kernel_rfl))
theorem xm64_4 (h : Hp) : opsP (xX s 64 wl k false) xg64_0 23 m0 ac (runK (xX s 64 wl k false) (bodyK s.P Tryz.f64) xk64_0) ⟨[t0,t1,t2,t3,t4,t5,t6,t7,t8,t9,ta,tb,tc,td,te,tf,tg,th,ti,tj,tk,tl,tm,tn,tp,tq,tr,ts,tt,tu,tv,tw,tx,ty,tz,tA,tB,tC,tD,tE,tF,tG,tH,tI],h⟩ =
  gd tD (
  bm (vLoad s.P 3 tE h) h fun v78 h79 =>
  bm (vBin s.P .gtr 3 v78 (V.lit (Value.int .i64 0))) h79 fun v80 h81 =>
  opsP (xX s 64 wl k false) xg64_0 25 m0 ac (runK (xX s 64 wl k false) (bodyK s.P Tryz.f64) xk64_0) ⟨[t0,t1,t2,t3,t4,t5,t6,t7,t8,t9,ta,tb,tc,td,te,tf,tg,th,ti,tj,tk,tl,tm,tn,tp,tq,tr,ts,tt,tu,tv,tw,tx,ty,tz,tA,tB,tC,(V.lit (Value.bool true)),tE,v78,v80,tH,tI],h81⟩) (
  opsP (xX s 64 wl k false) xg64_0 25 m0 ac (runK (xX s 64 wl k false) (bodyK s.P Tryz.f64) xk64_0) ⟨[t0,t1,t2,t3,t4,t5,t6,t7,t8,t9,ta,tb,tc,td,te,tf,tg,th,ti,tj,tk,tl,tm,tn,tp,tq,tr,ts,tt,tu,tv,tw,tx,ty,tz,tA,tB,tC,(V.lit (Value.bool false)),tE,uu,uu,tH,tI],h⟩) (
  opsP (xX s 64 wl k false) xg64_0 24 m0 ac (runK (xX s 64 wl k false) (bodyK s.P Tryz.f64) xk64_0) ⟨[t0,t1,t2,t3,t4,t5,t6,t7,t8,t9,ta,tb,tc,td,te,tf,tg,th,ti,tj,tk,tl,tm,tn,tp,tq,tr,ts,tt,tu,tv,tw,tx,ty,tz,tA,tB,tC,tD,tE,uu,tG,tH,tI],h⟩) :=
  (go_gdT0 rfl rfl rfl (by kernel_rfl)
  (st_bm (by kernel_rfl) fun v78 h79 =>
  (rN (st_bm (by kernel_rfl) fun v80 h81 =>
  (by kernel_rfl))))
  (sK
  (by kernel_rfl))
  (by kernel_rfl))
theorem xm64_5 (h : Hp) : opsP (xX s 64 wl k false) xg64_0 24 m0 ac (runK (xX s 64 wl k false) (bodyK s.P Tryz.f64) xk64_0) ⟨[t0,t1,t2,t3,t4,t5,t6,t7,t8,t9,ta,tb,tc,td,te,tf,tg,th,ti,tj,tk,tl,tm,tn,tp,tq,tr,ts,tt,tu,tv,tw,tx,ty,tz,tA,tB,tC,tD,tE,tF,tG,tH,tI],h⟩ =
  gd tD (
  bm (vBin s.P .gtr 3 tF (V.lit (Value.int .i64 0))) h fun v82 h83 =>
  opsP (xX s 64 wl k false) xg64_0 25 m0 ac (runK (xX s 64 wl k false) (bodyK s.P Tryz.f64) xk64_0) ⟨[t0,t1,t2,t3,t4,t5,t6,t7,t8,t9,ta,tb,tc,td,te,tf,tg,th,ti,tj,tk,tl,tm,tn,tp,tq,tr,ts,tt,tu,tv,tw,tx,ty,tz,tA,tB,tC,(V.lit (Value.bool true)),tE,tF,v82,tH,tI],h83⟩) (
  opsP (xX s 64 wl k false) xg64_0 25 m0 ac (runK (xX s 64 wl k false) (bodyK s.P Tryz.f64) xk64_0) ⟨[t0,t1,t2,t3,t4,t5,t6,t7,t8,t9,ta,tb,tc,td,te,tf,tg,th,ti,tj,tk,tl,tm,tn,tp,tq,tr,ts,tt,tu,tv,tw,tx,ty,tz,tA,tB,tC,(V.lit (Value.bool false)),tE,tF,uu,tH,tI],h⟩) (
  opsP (xX s 64 wl k false) xg64_0 25 m0 ac (runK (xX s 64 wl k false) (bodyK s.P Tryz.f64) xk64_0) ⟨[t0,t1,t2,t3,t4,t5,t6,t7,t8,t9,ta,tb,tc,td,te,tf,tg,th,ti,tj,tk,tl,tm,tn,tp,tq,tr,ts,tt,tu,tv,tw,tx,ty,tz,tA,tB,tC,tD,tE,tF,uu,tH,tI],h⟩) :=
  (go_gdT0 rfl rfl rfl (by kernel_rfl)
  (st_bm (by kernel_rfl) fun v82 h83 =>
  (by kernel_rfl))
  (by kernel_rfl)
  (by kernel_rfl))
theorem xk64_0_ret (cx : Cx) (K : Out → St → Option (V × Hp)) (s : St) : runK cx K xk64_0 .ret s = K .ret s := by kernel_rfl
-- names: xb64,xm64_0,xm64_1,xm64_2,xm64_3,xm64_4,xm64_5,xk64_0_ret
noncomputable def xg65_0 : Code := codeAt (bodyOf Tryz.f65) [1,0]
noncomputable def xk65_0 : List Fr := [.seq (codeAt (bodyOf Tryz.f65) [1,1])]
theorem xb65 (h : Hp) : bodyV (xX s 65 wl k false) Tryz.f65 [t0,t1] h =
  bm (vBin s.P .geq 3 t0 (V.lit (Value.int .i64 0))) h fun v1 h2 =>
  gd v1 (
  bm (vBin s.P .leq 3 t0 t1) h2 fun v3 h4 =>
  opsP (xX s 65 wl k false) xg65_0 6 h.length ([],[]) (runK (xX s 65 wl k false) (bodyK s.P Tryz.f65) xk65_0) ⟨[t0,t1,uu,uu,(V.lit (Value.bool false)),t0,v1,(V.lit (Value.bool true)),t0,t1,v3,uu],h4⟩) (
  opsP (xX s 65 wl k false) xg65_0 6 h.length ([],[]) (runK (xX s 65 wl k false) (bodyK s.P Tryz.f65) xk65_0) ⟨[t0,t1,uu,uu,(V.lit (Value.bool false)),t0,v1,(V.lit (Value.bool false)),uu,uu,uu,uu],h2⟩) (
  opsP (xX s 65 wl k false) xg65_0 4 h.length ([],[]) (runK (xX s 65 wl k false) (bodyK s.P Tryz.f65) xk65_0) ⟨[t0,t1,uu,uu,(V.lit (Value.bool false)),t0,v1,v1,uu,uu,uu,uu],h2⟩) :=
  bodyV_run rfl (go_seq (go_reg0
  (go_op0 rfl rfl (st_id (v := (V.lit (Value.bool false))) (H := h) (by kernel_rfl)
  (eN
  (go_seq (go_reg0
  (pI t0 h
  (pM fun v1 h2 =>
  (pI v1 h2
  (go_gdT0 rfl rfl rfl (by kernel_rfl)
  (st_id (v := t0) (H := h2) (by kernel_rfl)
  (rN (st_id (v := t1) (H := h2) (by kernel_rfl)
  (rN (st_bm (by kernel_rfl) fun v3 h4 =>
  (by kernel_rfl))))))
  (sK
  (sK
  (by kernel_rfl)))
  (by kernel_rfl))))))))))))
theorem xe65 (k wl : Nat) (h : Hp) : evF Tryz.prog xM (k + 1) wl 65 [t0,t1] h = bodyV (xX (xS k) 65 wl k false) Tryz.f65 [t0,t1] h := by kernel_rfl
theorem xm65_0 (h : Hp) : opsP (xX s 65 wl k false) xg65_0 6 m0 ac (runK (xX s 65 wl k false) (bodyK s.P Tryz.f65) xk65_0) ⟨[t0,t1,t2,t3,t4,t5,t6,t7,t8,t9,ta,tb],h⟩ =
  bm (vPick t7 ta (V.lit (Value.bool false))) h fun v5 h6 =>
  some (v5,h6) :=
  (pM fun v5 h6 =>
  (pI v5 h6
  (eN
  (go_ret (by kernel_rfl)))))
theorem xk65_0_ret (cx : Cx) (K : Out → St → Option (V × Hp)) (s : St) : runK cx K xk65_0 .ret s = K .ret s := by kernel_rfl
-- names: xb65,xm65_0,xk65_0_ret
noncomputable def xg72_0 : Code := codeAt (bodyOf Tryz.f72) [1,1,0,0]
noncomputable def xk72_0 : List Fr := [.seq (codeAt (bodyOf Tryz.f72) [1,1,0,1]),.seq (codeAt (bodyOf Tryz.f72) [1,1,1])]
theorem xb72 (h : Hp) : bodyV (xX s 72 wl k false) Tryz.f72 [t0,t1,t2] h =
  bp (some (.own h.length 0 0,h ++ [.rows 0 [] 0 true])) fun v1 h2 =>
  bp (callV (xX s 72 wl k false) false true (.fn (.func 21) [] []) [t1] h2) fun v3 h4 =>
  bp (callV (xX s 72 wl k false) false true (.fn (.func 40) [] []) [t0,t1] h4) fun v5 h6 =>
  bm (vUn .not v5) h6 fun v7 h8 =>
  gd v7 (
  opsP (xX s 72 wl k false) xg72_0 11 h4.length ([],[]) (runK (xX s 72 wl k false) (bodyK s.P Tryz.f72) xk72_0) ⟨[t0,t1,t2,uu,uu,uu,v1,v3,t1,v3,t0,t1,v5,v7,(V.lit (Value.bool true)),uu,uu,uu,uu,uu,uu,uu,uu,uu,uu,uu,uu,uu],h8⟩) (
  bp (opLen s.P 24 t0 h8) fun v9 h10 =>
  bm (vBin s.P .sub 3 v9 (V.lit (Value.int .i64 1))) h10 fun v11 h12 =>
  bp (callV (xX s 72 wl k false) false true (.fn (.func 65) [] []) [t2,v11] h12) fun v13 h14 =>
  bm (vUn .not v13) h14 fun v15 h16 =>
  opsP (xX s 72 wl k false) xg72_0 11 h4.length ([],[]) (runK (xX s 72 wl k false) (bodyK s.P Tryz.f72) xk72_0) ⟨[t0,t1,t2,uu,uu,uu,v1,v3,t1,v3,t0,t1,v5,v7,(V.lit (Value.bool false)),t2,t0,v9,v11,v13,v15,uu,uu,uu,uu,uu,uu,uu],h16⟩) (
  opsP (xX s 72 wl k false) xg72_0 6 h4.length ([],[]) (runK (xX s 72 wl k false) (bodyK s.P Tryz.f72) xk72_0) ⟨[t0,t1,t2,uu,uu,uu,v1,v3,t1,v3,t0,t1,v5,v7,v7,uu,uu,uu,uu,uu,uu,uu,uu,uu,uu,uu,uu,uu],h8⟩) :=
  bodyV_run rfl (go_seq (go_reg0
  (pP fun v1 h2 =>
  (eN
  (go_seq (go_reg0
  (pI t1 h2
  (pP fun v3 h4 =>
  (pI v3 h4
  (eN
  (go_seq (go_seq (go_reg0
  (pI t0 h4
  (pI t1 h4
  (pP fun v5 h6 =>
  (pM fun v7 h8 =>
  (pI v7 h8
  (go_gdF0 rfl rfl rfl (by kernel_rfl)
  (sK
  (sK
  (sK
  (sK
  (sK
  (by kernel_rfl))))))
  (st_id (v := t2) (H := h8) (by kernel_rfl)
  (rN (st_id (v := t0) (H := h8) (by kernel_rfl)
  (rN (st_bp (by kernel_rfl) fun v9 h10 =>
  (rN (st_bm (by kernel_rfl) fun v11 h12 =>
  (rN (st_bp (by kernel_rfl) fun v13 h14 =>
  (rN (st_bm (by kernel_rfl) fun v15 h16 =>
  (by kernel_rfl))))))))))))
  (by kernel_rfl))))))))))))))))))))
theorem xe72 (k wl : Nat) (h : Hp) : evF Tryz.prog xM (k + 1) wl 72 [t0,t1,t2] h = bodyV (xX (xS k) 72 wl k false) Tryz.f72 [t0,t1,t2] h := by kernel_rfl
theorem xm72_0 (h : Hp) : opsP (xX s 72 wl k false) xg72_0 11 m0 ac (runK (xX s 72 wl k false) (bodyK s.P Tryz.f72) xk72_0) ⟨[t0,t1,t2,t3,t4,t5,t6,t7,t8,t9,ta,tb,tc,td,te,tf,tg,th,ti,tj,tk,tl,tm,tn,tp,tq,tr,ts],h⟩ =
  bm (vPick te (V.lit (Value.bool true)) tk) h fun v17 h18 =>
  cnd v17 (
  some (t7,h18)) (
  bm (vBuild s.P 57 [(0,t2)]) h18 fun v19 h20 =>
  bp (vBuildSlice s.P wl 27 1 [(0,v19)] h20) fun v21 h22 =>
  bp (opApp s.P wl 27 27 t7 v21 h22) fun v23 h24 =>
  some (v23,h24)) :=
  (pM fun v17 h18 =>
  (eN
  (go_cond (by kernel_rfl)
  (go_seq (go_reg0
  (pI t7 h18
  (pI t7 h18
  (eN
  (go_ret (rt_seq_ret (by kernel_rfl))))))))
  (go_skip (go_seq (go_reg0
  (pI t7 h18
  (pI t2 h18
  (pM fun v19 h20 =>
  (pP fun v21 h22 =>
  (pP fun v23 h24 =>
  (pI v23 h24
  (eN
  (go_ret (by kernel_rfl)))))))))))))))
theorem xk72_0_ret (cx : Cx) (K : Out → St → Option (V × Hp)) (s : St) : runK cx K xk72_0 .ret s = K .ret s := by kernel_rfl
-- names: xb72,xm72_0,xk72_0_ret

theorem xb78 (h : Hp) : bodyV (xX s 78 wl k false) Tryz.f78 [] h =
  bp (some (.map h.length,h ++ [.map []])) fun v1 h2 =>
  bs (vInsert s.P wl 101 v1 (V.lit (Value.int .i64 1)) (.fn (.func 91) [] []) h2) fun h3 =>
  bs (vInsert s.P wl 101 v1 (V.lit (Value.int .i64 2)) (.fn (.func 92) [] []) h3) fun h4 =>
  bs (vInsert s.P wl 101 v1 (V.lit (Value.int .i64 3)) (.fn (.func 93) [] []) h4) fun h5 =>
  some (v1,h5) :=
  bodyV_run rfl (go_seq (go_reg0
  (go_op0 rfl rfl (st_id (v := (constV (Value.map none))) (H := h) (by kernel_rfl)
  (eN
  (go_seq (go_reg0
  (pP fun v1 h2 =>
  (pS fun h3 =>
  (pS fun h4 =>
  (pS fun h5 =>
  (pI v1 h5
  (pI v1 h5
  (eN
  (go_ret (by kernel_rfl))))))))))))))))
theorem xe78 (k wl : Nat) (h : Hp) : evF Tryz.prog xM (k + 1) wl 78 [] h = bodyV (xX (xS k) 78 wl k false) Tryz.f78 [] h := by kernel_rfl
-- names: xb78,
noncomputable def xl81_0 : Code := codeAt (bodyOf Tryz.f81) [1,0,1,0,0]
noncomputable def xk81_0 : List Fr := [.block 0,.seq (codeAt (bodyOf Tryz.f81) [1,1])]
theorem xb81 (h : Hp) : bodyV (xX s 81 wl k false) Tryz.f81 [t0,t1] h =
  bp (opLen s.P 27 t0 h) fun v1 h2 =>
  itX (xX s 81 wl k false) xl81_0 h2.length (runK (xX s 81 wl k false) (bodyK s.P Tryz.f81) xk81_0) k ⟨[(V.kill h2.length t0),(V.kill h2.length t1),(V.kill h2.length uu),(V.kill h2.length uu),(V.lit (Value.int .i64 0)),(V.kill h2.length uu),(V.kill h2.length t0),(V.kill h2.length v1),(V.lit (Value.int .i64 0)),.junk,.junk,.junk,.junk,.junk,.junk,.junk,.junk,.junk,.junk],cutH h2.length h2⟩ :=
  bodyV_run rfl (go_seq (go_reg0
  (go_op0 rfl rfl (st_id (v := (V.lit (Value.int .i64 0))) (H := h) (by kernel_rfl)
  (eN
  (go_seq (go_seq (go_reg0
  (pI t0 h
  (pP fun v1 h2 =>
  (go_op0 rfl rfl (st_id (v := (V.lit (Value.int .i64 0))) (H := h2) (by kernel_rfl)
  (eN
  (go_block (by kernel_rfl)))))))))))))))
theorem xe81 (k wl : Nat) (h : Hp) : evF Tryz.prog xM (k + 1) wl 81 [t0,t1] h = bodyV (xX (xS k) 81 wl k false) Tryz.f81 [t0,t1] h := by kernel_rfl
theorem xz81 (P : Program) (h : Hp) : bodyK P Tryz.f81 .ret ⟨[t0,t1,t2,t3,t4,t5,t6,t7,t8,t9,ta,tb,tc,td,te,tf,tg,th,ti],h⟩ = some (t4,h) := by kernel_rfl
theorem xr81_0 (s : Sys) (K : Out → St → Option (V × Hp)) (k wl : Nat) (rd : Bool) (n n0 : Nat) (h : Hp) : itX (xX s 81 wl k rd) xl81_0 n0 K (n + 1) ⟨[t0,t1,t2,t3,t4,t5,t6,t7,t8,t9,ta,tb,tc,td,te,tf,tg,th,ti],h⟩ =
  bm (vBin s.P .lss 3 t8 t7) h fun v3 h4 =>
  cnd v3 (
  bm (vIndexAddr s.P 27 t0 t8 h4) h4 fun v5 h6 =>
  bm (vLoad s.P 57 v5 h6) h6 fun v7 h8 =>
  bp (callV (xX s 81 wl k rd) false true t1 [v7] h8) fun v9 h10 =>
  cnd v9 (
  K .ret ⟨[t0,t1,t2,t3,t8,t8,t6,t7,t8,v3,t8,t1,t0,t8,v5,v7,v9,t8,ti],h10⟩) (
  bm (vBin s.P .add 3 t8 (V.lit (Value.int .i64 1))) h10 fun v11 h12 =>
  itX (xX s 81 wl k rd) xl81_0 n0 K n ⟨[(V.kill n0 t0),(V.kill n0 t1),(V.kill n0 t2),(V.kill n0 t3),(V.kill n0 t4),(V.kill n0 t8),(V.kill n0 t6),(V.kill n0 t7),(V.kill n0 v11),.junk,.junk,.junk,.junk,.junk,.junk,.junk,.junk,.junk,.junk],cutH n0 h12⟩)) (
  K (.exit 0) ⟨[(V.kill n0 t0),(V.kill n0 t1),(V.kill n0 t2),(V.kill n0 t3),(V.kill n0 t4),(V.kill n0 t5),(V.kill n0 t6),(V.kill n0 t7),.junk,.junk,.junk,.junk,.junk,.junk,.junk,.junk,.junk,.junk,.junk],cutH n0 h4⟩) :=
  itX_step (go_seq (go_reg0
  (pM fun v3 h4 =>
  (eN
  (go_seq (go_cond (by kernel_rfl)
  (go_skip (go_seq (go_block (go_seq (go_reg0
  (pI t8 h4
  (pI t8 h4
  (eN
  (go_seq (go_reg0
  (pI t1 h4
  (pI t0 h4
  (pI t8 h4
  (pM fun v5 h6 =>
  (pM fun v7 h8 =>
  (pP fun v9 h10 =>
  (eN
  (go_cond (by kernel_rfl)
  (go_seq (go_reg0
  (pI t8 h10
  (pI t8 h10
  (eN
  (go_ret (rt_block_ret (rt_seq_ret (by kernel_rfl)))))))))
  (go_skip (rt_block_norm (go_reg0
  (pM fun v11 h12 =>
  (pI v11 h12
  (eN
  (by kernel_rfl)))))))))))))))))))))))))
  (go_exit (rt_seq_exit (by kernel_rfl)))))))))
theorem xj81_0 (h : Hp) : runK (xX s 81 wl k false) (bodyK s.P Tryz.f81) xk81_0 (.exit 0) ⟨[t0,t1,t2,t3,t4,t5,t6,t7,t8,t9,ta,tb,tc,td,te,tf,tg,th,ti],h⟩ =
  some ((V.lit (Value.int .i64 (-1))),h) :=
  (rt_block_eq (go_seq (go_reg0
  (go_op0 rfl rfl (st_id (v := (V.lit (Value.int .i64 (-1)))) (H := h) (by kernel_rfl)
  (eN
  (go_ret (by kernel_rfl))))))))
theorem xk81_0_ret (cx : Cx) (K : Out → St → Option (V × Hp)) (s : St) : runK cx K xk81_0 .ret s = K .ret s := by kernel_rfl
-- names: xb81,xz81,xr81_0,xj81_0,xk81_0_ret

theorem xb91 (h : Hp) : bodyV (xX s 91 wl k false) Tryz.f91 [t0] h =
  bp (some (.own h.length 0 0,h ++ [.rows 0 [] 0 true])) fun v1 h2 =>
  bp (opLen s.P 27 t0 h2) fun v3 h4 =>
  bm (vBin s.P .sub 3 v3 (V.lit (Value.int .i64 1))) h4 fun v5 h6 =>
  bm (vIndexAddr s.P 27 t0 v5 h6) h6 fun v7 h8 =>
  bm (vFieldAddr s.P 57 v7 1) h8 fun v9 h10 =>
  bm (vLoad s.P 3 v9 h10) h10 fun v11 h12 =>
  bm (vBin s.P .add 3 v11 (V.lit (Value.int .i64 1))) h12 fun v13 h14 =>
  bm (vIndexAddr s.P 27 t0 v5 h14) h14 fun v15 h16 =>
  bm (vFieldAddr s.P 57 v15 1) h16 fun v17 h18 =>
  bs (vStore s.P wl 3 v17 v13 h18) fun h19 =>
  some (t0,h19) :=
  bodyV_run rfl (go_seq (go_reg0
  (pP fun v1 h2 =>
  (eN
  (go_seq (go_reg0
  (pI t0 h2
  (pI t0 h2
  (pP fun v3 h4 =>
  (pM fun v5 h6 =>
  (pM fun v7 h8 =>
  (pM fun v9 h10 =>
  (pM fun v11 h12 =>
  (pM fun v13 h14 =>
  (pM fun v15 h16 =>
  (pM fun v17 h18 =>
  (pS fun h19 =>
  (eN
  (go_seq (go_reg0
  (pI t0 h19
  (pI t0 h19
  (eN
  (go_ret (by kernel_rfl)))))))))))))))))))))))))
theorem xe91 (k wl : Nat) (h : Hp) : evF Tryz.prog xM (k + 1) wl 91 [t0] h = bodyV (xX (xS k) 91 wl k false) Tryz.f91 [t0] h := by kernel_rfl
-- names: xb91,

theorem xb92 (h : Hp) : bodyV (xX s 92 wl k false) Tryz.f92 [t0] h =
  bp (some (.own h.length 0 0,h ++ [.rows 0 [] 0 true])) fun v1 h2 =>
  bp (opLen s.P 27 t0 h2) fun v3 h4 =>
  bm (vBin s.P .sub 3 v3 (V.lit (Value.int .i64 1))) h4 fun v5 h6 =>
  bm (vIndexAddr s.P 27 t0 v5 h6) h6 fun v7 h8 =>
  bm (vFieldAddr s.P 57 v7 2) h8 fun v9 h10 =>
  bm (vLoad s.P 3 v9 h10) h10 fun v11 h12 =>
  bm (vBin s.P .add 3 v11 (V.lit (Value.int .i64 1))) h12 fun v13 h14 =>
  bm (vIndexAddr s.P 27 t0 v5 h14) h14 fun v15 h16 =>
  bm (vFieldAddr s.P 57 v15 2) h16 fun v17 h18 =>
  bs (vStore s.P wl 3 v17 v13 h18) fun h19 =>
  some (t0,h19) :=
  bodyV_run rfl (go_seq (go_reg0
  (pP fun v1 h2 =>
  (eN
  (go_seq (go_reg0
  (pI t0 h2
  (pI t0 h2
  (pP fun v3 h4 =>
  (pM fun v5 h6 =>
  (pM fun v7 h8 =>
  (pM fun v9 h10 =>
  (pM fun v11 h12 =>
  (pM fun v13 h14 =>
  (pM fun v15 h16 =>
  (pM fun v17 h18 =>
  (pS fun h19 =>
  (eN
  (go_seq (go_reg0
  (pI t0 h19
  (pI t0 h19
  (eN
  (go_ret (by kernel_rfl)))))))))))))))))))))))))
theorem xe92 (k wl : Nat) (h : Hp) : evF Tryz.prog xM (k + 1) wl 92 [t0] h = bodyV (xX (xS k) 92 wl k false) Tryz.f92 [t0] h := by kernel_rfl
-- names: xb92,

theorem xb93 (h : Hp) : bodyV (xX s 93 wl k false) Tryz.f93 [t0] h =
  bp (some (.own h.length 0 0,h ++ [.rows 0 [] 0 true])) fun v1 h2 =>
  bp (opLen s.P 27 t0 h2) fun v3 h4 =>
  bm (vBin s.P .sub 3 v3 (V.lit (Value.int .i64 1))) h4 fun v5 h6 =>
  bp (vSlice s.P wl false 27 t0 none (some v5) none h6) fun v7 h8 =>
  some (v7,h8) :=
  bodyV_run rfl (go_seq (go_reg0
  (pP fun v1 h2 =>
  (eN
  (go_seq (go_reg0
  (pI t0 h2
  (pI t0 h2
  (pP fun v3 h4 =>
  (pM fun v5 h6 =>
  (pP fun v7 h8 =>
  (pI v7 h8
  (eN
  (go_ret (by kernel_rfl)))))))))))))))
theorem xe93 (k wl : Nat) (h : Hp) : evF Tryz.prog xM (k + 1) wl 93 [t0] h = bodyV (xX (xS k) 93 wl k false) Tryz.f93 [t0] h := by kernel_rfl
-- names: xb93,
end Go.Ab
