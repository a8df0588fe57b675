/- The program's code,point by point: printed by gen.py. -/
import Derived.Test.YtcmdnjaenhbdpaaGreatR5Seat
import Derived.Test.YtcmdnjaenhbdpaaGreatAbLibC
set_option linter.unusedVariables false
set_option linter.unusedSimpArgs false
set_option maxRecDepth 100000
set_option linter.unusedVariables false
namespace Go.Ab
open Go.Proofs

variable (s : Sys) (k wl : Nat) (m0 : Nat) (ac : List Nat × List Nat) (t0 t1 t2 t3 t4 t5 t6 t7 t8 t9 ta tb tc td te tf tg th ti tj tk tl tm tn tp tq tr ts tt tu : V)
theorem xb13 (h : Hp) : bodyV (xX s 13 wl k false) Tryz.f13 [t0,t1] h =
  bp (callV (xX s 13 wl k false) false true (.fn (.func 42) [] []) [t0,t1] h) fun v1 h2 =>
  bm (vUn .not v1) h2 fun v3 h4 =>
  cnd v3 (
  some ((V.lit (Value.int .u64 0)),h4)) (
  bm (vIndexAddr s.P 26 t0 t1 h4) h4 fun v5 h6 =>
  bm (vLoad s.P 28 v5 h6) h6 fun v7 h8 =>
  some (v7,h8)) :=
  bodyV_run rfl (go_seq (go_reg0
  (go_op0 rfl rfl (st_id (v := (V.lit (Value.int .u64 0))) (H := h) (by kernel_rfl)
  (eN
  (go_seq (go_seq (go_reg0
  (pI t0 h
  (pI t1 h
  (pP fun v1 h2 =>
  (pM fun v3 h4 =>
  (eN
  (go_cond (by kernel_rfl)
  (go_seq (go_reg0
  (go_op0 rfl rfl (st_id (v := (V.lit (Value.int .u64 0))) (H := h4) (by kernel_rfl)
  (eN
  (go_ret (rt_seq_ret (by kernel_rfl))))))))
  (go_skip (go_seq (go_reg0
  (pI t0 h4
  (pI t1 h4
  (pM fun v5 h6 =>
  (pM fun v7 h8 =>
  (pI v7 h8
  (eN
  (go_ret (by kernel_rfl)))))))))))))))))))))))))
theorem xe13 (k wl : Nat) (h : Hp) : evF Tryz.prog xM (k + 1) wl 13 [t0,t1] h = bodyV (xX (xS k) 13 wl k false) Tryz.f13 [t0,t1] h := by kernel_rfl
-- names: xb13,
noncomputable def xg37_0 : Code := codeAt (bodyOf Tryz.f37) [1,0]
noncomputable def xk37_0 : List Fr := [.seq (codeAt (bodyOf Tryz.f37) [1,1])]
theorem xb37 (h : Hp) : bodyV (xX s 37 wl k false) Tryz.f37 [t0] h =
  bp (opBox t0 h) fun v1 h2 =>
  bm (vFieldAddr s.P 23 v1 0) h2 fun v3 h4 =>
  bm (vLoad s.P 3 v3 h4) h4 fun v5 h6 =>
  bp (callV (xX s 37 wl k false) false true (.fn (.func 58) [] []) [v5,(V.lit (Value.int .i64 1)),(V.lit (Value.int .i64 8))] h6) fun v7 h8 =>
  gd v7 (
  bm (vFieldAddr s.P 23 v1 1) h8 fun v9 h10 =>
  bm (vLoad s.P 3 v9 h10) h10 fun v11 h12 =>
  bp (callV (xX s 37 wl k false) false true (.fn (.func 58) [] []) [v11,(V.lit (Value.int .i64 1)),(V.lit (Value.int .i64 16))] h12) fun v13 h14 =>
  opsP (xX s 37 wl k false) xg37_0 7 h2.length ([],[]) (runK (xX s 37 wl k false) (bodyK s.P Tryz.f37) xk37_0) ⟨[t0,v1,(V.lit (Value.bool false)),v3,v5,v7,(V.lit (Value.bool true)),v9,v11,v13,uu,uu,uu,uu,uu,uu,uu,uu,uu,uu,uu,uu,uu,uu,uu,uu,uu,uu,uu,uu],h14⟩) (
  opsP (xX s 37 wl k false) xg37_0 7 h2.length ([],[]) (runK (xX s 37 wl k false) (bodyK s.P Tryz.f37) xk37_0) ⟨[t0,v1,(V.lit (Value.bool false)),v3,v5,v7,(V.lit (Value.bool false)),uu,uu,uu,uu,uu,uu,uu,uu,uu,uu,uu,uu,uu,uu,uu,uu,uu,uu,uu,uu,uu,uu,uu],h8⟩) (
  opsP (xX s 37 wl k false) xg37_0 5 h2.length ([],[]) (runK (xX s 37 wl k false) (bodyK s.P Tryz.f37) xk37_0) ⟨[t0,v1,(V.lit (Value.bool false)),v3,v5,v7,v7,uu,uu,uu,uu,uu,uu,uu,uu,uu,uu,uu,uu,uu,uu,uu,uu,uu,uu,uu,uu,uu,uu,uu],h8⟩) :=
  bodyV_run rfl (go_seq (go_reg0
  (pP fun v1 h2 =>
  (go_op0 rfl rfl (st_id (v := (V.lit (Value.bool false))) (H := h2) (by kernel_rfl)
  (eN
  (go_seq (go_reg0
  (pM fun v3 h4 =>
  (pM fun v5 h6 =>
  (pP fun v7 h8 =>
  (pI v7 h8
  (go_gdT0 rfl rfl rfl (by kernel_rfl)
  (st_bm (by kernel_rfl) fun v9 h10 =>
  (rN (st_bm (by kernel_rfl) fun v11 h12 =>
  (rN (st_bp (by kernel_rfl) fun v13 h14 =>
  (by kernel_rfl))))))
  (sK
  (sK
  (by kernel_rfl)))
  (by kernel_rfl))))))))))))))
theorem xe37 (k wl : Nat) (h : Hp) : evF Tryz.prog xM (k + 1) wl 37 [t0] h = bodyV (xX (xS k) 37 wl k false) Tryz.f37 [t0] h := by kernel_rfl
theorem xm37_0 (h : Hp) : opsP (xX s 37 wl k false) xg37_0 7 m0 ac (runK (xX s 37 wl k false) (bodyK s.P Tryz.f37) xk37_0) ⟨[t0,t1,t2,t3,t4,t5,t6,t7,t8,t9,ta,tb,tc,td,te,tf,tg,th,ti,tj,tk,tl,tm,tn,tp,tq,tr,ts,tt,tu],h⟩ =
  bm (vPick t6 t9 (V.lit (Value.bool false))) h fun v15 h16 =>
  gd v15 (
  bm (vFieldAddr s.P 23 t1 1) h16 fun v17 h18 =>
  bm (vLoad s.P 3 v17 h18) h18 fun v19 h20 =>
  bm (vFieldAddr s.P 23 t1 1) h20 fun v21 h22 =>
  bm (vLoad s.P 3 v21 h22) h22 fun v23 h24 =>
  bm (vBin s.P .sub 3 v23 (V.lit (Value.int .i64 1))) h24 fun v25 h26 =>
  bm (vBin s.P .and 3 v19 v25) h26 fun v27 h28 =>
  bm (vBin s.P .eql 3 v27 (V.lit (Value.int .i64 0))) h28 fun v29 h30 =>
  opsP (xX s 37 wl k false) xg37_0 16 m0 ac (runK (xX s 37 wl k false) (bodyK s.P Tryz.f37) xk37_0) ⟨[t0,t1,t2,t3,t4,t5,t6,t7,t8,t9,v15,(V.lit (Value.bool true)),v17,v19,v21,v23,v25,v27,v29,tj,tk,tl,tm,tn,tp,tq,tr,ts,tt,tu],h30⟩) (
  opsP (xX s 37 wl k false) xg37_0 16 m0 ac (runK (xX s 37 wl k false) (bodyK s.P Tryz.f37) xk37_0) ⟨[t0,t1,t2,t3,t4,t5,t6,t7,t8,t9,v15,(V.lit (Value.bool false)),uu,uu,uu,uu,uu,uu,uu,tj,tk,tl,tm,tn,tp,tq,tr,ts,tt,tu],h16⟩) (
  opsP (xX s 37 wl k false) xg37_0 10 m0 ac (runK (xX s 37 wl k false) (bodyK s.P Tryz.f37) xk37_0) ⟨[t0,t1,t2,t3,t4,t5,t6,t7,t8,t9,v15,v15,uu,td,te,tf,tg,th,ti,tj,tk,tl,tm,tn,tp,tq,tr,ts,tt,tu],h16⟩) :=
  (pM fun v15 h16 =>
  (pI v15 h16
  (go_gdT0 rfl rfl rfl (by kernel_rfl)
  (st_bm (by kernel_rfl) fun v17 h18 =>
  (rN (st_bm (by kernel_rfl) fun v19 h20 =>
  (rN (st_bm (by kernel_rfl) fun v21 h22 =>
  (rN (st_bm (by kernel_rfl) fun v23 h24 =>
  (rN (st_bm (by kernel_rfl) fun v25 h26 =>
  (rN (st_bm (by kernel_rfl) fun v27 h28 =>
  (rN (st_bm (by kernel_rfl) fun v29 h30 =>
  (by kernel_rfl))))))))))))))
  (sK
  (sK
  (sK
  (sK
  (sK
  (sK
  (by kernel_rfl)))))))
  (by kernel_rfl))))
theorem xm37_1 (h : Hp) : opsP (xX s 37 wl k false) xg37_0 16 m0 ac (runK (xX s 37 wl k false) (bodyK s.P Tryz.f37) xk37_0) ⟨[t0,t1,t2,t3,t4,t5,t6,t7,t8,t9,ta,tb,tc,td,te,tf,tg,th,ti,tj,tk,tl,tm,tn,tp,tq,tr,ts,tt,tu],h⟩ =
  bm (vPick tb ti (V.lit (Value.bool false))) h fun v31 h32 =>
  gd v31 (
  bm (vFieldAddr s.P 23 t1 2) h32 fun v33 h34 =>
  bm (vLoad s.P 3 v33 h34) h34 fun v35 h36 =>
  bp (callV (xX s 37 wl k false) false true (.fn (.func 58) [] []) [v35,(V.lit (Value.int .i64 1)),(V.lit (Value.int .i64 16))] h36) fun v37 h38 =>
  opsP (xX s 37 wl k false) xg37_0 21 m0 ac (runK (xX s 37 wl k false) (bodyK s.P Tryz.f37) xk37_0) ⟨[t0,t1,t2,t3,t4,t5,t6,t7,t8,t9,ta,tb,tc,td,te,tf,tg,th,ti,v31,(V.lit (Value.bool true)),v33,v35,v37,tp,tq,tr,ts,tt,tu],h38⟩) (
  opsP (xX s 37 wl k false) xg37_0 21 m0 ac (runK (xX s 37 wl k false) (bodyK s.P Tryz.f37) xk37_0) ⟨[t0,t1,t2,t3,t4,t5,t6,t7,t8,t9,ta,tb,tc,td,te,tf,tg,th,ti,v31,(V.lit (Value.bool false)),uu,uu,uu,tp,tq,tr,ts,tt,tu],h32⟩) (
  opsP (xX s 37 wl k false) xg37_0 19 m0 ac (runK (xX s 37 wl k false) (bodyK s.P Tryz.f37) xk37_0) ⟨[t0,t1,t2,t3,t4,t5,t6,t7,t8,t9,ta,tb,tc,td,te,tf,tg,th,ti,v31,v31,uu,tm,tn,tp,tq,tr,ts,tt,tu],h32⟩) :=
  (pM fun v31 h32 =>
  (pI v31 h32
  (go_gdT0 rfl rfl rfl (by kernel_rfl)
  (st_bm (by kernel_rfl) fun v33 h34 =>
  (rN (st_bm (by kernel_rfl) fun v35 h36 =>
  (rN (st_bp (by kernel_rfl) fun v37 h38 =>
  (by kernel_rfl))))))
  (sK
  (sK
  (by kernel_rfl)))
  (by kernel_rfl))))
theorem xm37_2 (h : Hp) : opsP (xX s 37 wl k false) xg37_0 21 m0 ac (runK (xX s 37 wl k false) (bodyK s.P Tryz.f37) xk37_0) ⟨[t0,t1,t2,t3,t4,t5,t6,t7,t8,t9,ta,tb,tc,td,te,tf,tg,th,ti,tj,tk,tl,tm,tn,tp,tq,tr,ts,tt,tu],h⟩ =
  bm (vPick tk tn (V.lit (Value.bool false))) h fun v39 h40 =>
  gd v39 (
  bm (vFieldAddr s.P 23 t1 3) h40 fun v41 h42 =>
  bm (vLoad s.P 3 v41 h42) h42 fun v43 h44 =>
  bp (callV (xX s 37 wl k false) false true (.fn (.func 58) [] []) [v43,(V.lit (Value.int .i64 0)),(V.lit (Value.int .i64 4))] h44) fun v45 h46 =>
  opsP (xX s 37 wl k false) xg37_0 26 m0 ac (runK (xX s 37 wl k false) (bodyK s.P Tryz.f37) xk37_0) ⟨[t0,t1,t2,t3,t4,t5,t6,t7,t8,t9,ta,tb,tc,td,te,tf,tg,th,ti,tj,tk,tl,tm,tn,v39,(V.lit (Value.bool true)),v41,v43,v45,tu],h46⟩) (
  opsP (xX s 37 wl k false) xg37_0 26 m0 ac (runK (xX s 37 wl k false) (bodyK s.P Tryz.f37) xk37_0) ⟨[t0,t1,t2,t3,t4,t5,t6,t7,t8,t9,ta,tb,tc,td,te,tf,tg,th,ti,tj,tk,tl,tm,tn,v39,(V.lit (Value.bool false)),uu,uu,uu,tu],h40⟩) (
  opsP (xX s 37 wl k false) xg37_0 24 m0 ac (runK (xX s 37 wl k false) (bodyK s.P Tryz.f37) xk37_0) ⟨[t0,t1,t2,t3,t4,t5,t6,t7,t8,t9,ta,tb,tc,td,te,tf,tg,th,ti,tj,tk,tl,tm,tn,v39,v39,uu,ts,tt,tu],h40⟩) :=
  (pM fun v39 h40 =>
  (pI v39 h40
  (go_gdT0 rfl rfl rfl (by kernel_rfl)
  (st_bm (by kernel_rfl) fun v41 h42 =>
  (rN (st_bm (by kernel_rfl) fun v43 h44 =>
  (rN (st_bp (by kernel_rfl) fun v45 h46 =>
  (by kernel_rfl))))))
  (sK
  (sK
  (by kernel_rfl)))
  (by kernel_rfl))))
theorem xm37_3 (h : Hp) : opsP (xX s 37 wl k false) xg37_0 26 m0 ac (runK (xX s 37 wl k false) (bodyK s.P Tryz.f37) xk37_0) ⟨[t0,t1,t2,t3,t4,t5,t6,t7,t8,t9,ta,tb,tc,td,te,tf,tg,th,ti,tj,tk,tl,tm,tn,tp,tq,tr,ts,tt,tu],h⟩ =
  bm (vPick tq tt (V.lit (Value.bool false))) h fun v47 h48 =>
  some (v47,h48) :=
  (pM fun v47 h48 =>
  (pI v47 h48
  (eN
  (go_ret (by kernel_rfl)))))
theorem xk37_0_ret (cx : Cx) (K : Out → St → Option (V × Hp)) (s : St) : runK cx K xk37_0 .ret s = K .ret s := by kernel_rfl
-- names: xb37,xm37_0,xm37_1,xm37_2,xm37_3,xk37_0_ret

theorem xb38 (h : Hp) : bodyV (xX s 38 wl k false) Tryz.f38 [t0] h =
  bp (opBox t0 h) fun v1 h2 =>
  bm (vLoad s.P 23 v1 h2) h2 fun v3 h4 =>
  bp (callV (xX s 38 wl k false) false true (.fn (.func 37) [] []) [v3] h4) fun v5 h6 =>
  bm (vUn .not v5) h6 fun v7 h8 =>
  cnd v7 (
  some ((V.lit (Value.int .i64 0)),h8)) (
  bm (vLoad s.P 23 v1 h8) h8 fun v9 h10 =>
  bm (vFieldAddr s.P 23 v1 0) h10 fun v11 h12 =>
  bm (vLoad s.P 3 v11 h12) h12 fun v13 h14 =>
  bp (callV (xX s 38 wl k false) false true (.fn (.func 59) [] []) [v9,v13] h14) fun v15 h16 =>
  some (v15,h16)) :=
  bodyV_run rfl (go_seq (go_reg0
  (pP fun v1 h2 =>
  (go_op0 rfl rfl (st_id (v := (V.lit (Value.int .i64 0))) (H := h2) (by kernel_rfl)
  (eN
  (go_seq (go_seq (go_reg0
  (pM fun v3 h4 =>
  (pP fun v5 h6 =>
  (pM fun v7 h8 =>
  (eN
  (go_cond (by kernel_rfl)
  (go_seq (go_reg0
  (go_op0 rfl rfl (st_id (v := (V.lit (Value.int .i64 0))) (H := h8) (by kernel_rfl)
  (eN
  (go_ret (rt_seq_ret (by kernel_rfl))))))))
  (go_skip (go_seq (go_reg0
  (pM fun v9 h10 =>
  (pM fun v11 h12 =>
  (pM fun v13 h14 =>
  (pP fun v15 h16 =>
  (pI v15 h16
  (eN
  (go_ret (by kernel_rfl)))))))))))))))))))))))))
theorem xe38 (k wl : Nat) (h : Hp) : evF Tryz.prog xM (k + 1) wl 38 [t0] h = bodyV (xX (xS k) 38 wl k false) Tryz.f38 [t0] h := by kernel_rfl
-- names: xb38,
noncomputable def xg42_0 : Code := codeAt (bodyOf Tryz.f42) [1,0]
noncomputable def xk42_0 : List Fr := [.seq (codeAt (bodyOf Tryz.f42) [1,1])]
theorem xb42 (h : Hp) : bodyV (xX s 42 wl k false) Tryz.f42 [t0,t1] h =
  bm (vBin s.P .geq 3 t1 (V.lit (Value.int .i64 0))) h fun v1 h2 =>
  gd v1 (
  bp (opLen s.P 26 t0 h2) fun v3 h4 =>
  bm (vBin s.P .lss 3 t1 v3) h4 fun v5 h6 =>
  opsP (xX s 42 wl k false) xg42_0 7 h.length ([],[]) (runK (xX s 42 wl k false) (bodyK s.P Tryz.f42) xk42_0) ⟨[t0,t1,uu,uu,(V.lit (Value.bool false)),t1,v1,(V.lit (Value.bool true)),t1,t0,v3,v5,uu],h6⟩) (
  opsP (xX s 42 wl k false) xg42_0 7 h.length ([],[]) (runK (xX s 42 wl k false) (bodyK s.P Tryz.f42) xk42_0) ⟨[t0,t1,uu,uu,(V.lit (Value.bool false)),t1,v1,(V.lit (Value.bool false)),uu,uu,uu,uu,uu],h2⟩) (
  opsP (xX s 42 wl k false) xg42_0 4 h.length ([],[]) (runK (xX s 42 wl k false) (bodyK s.P Tryz.f42) xk42_0) ⟨[t0,t1,uu,uu,(V.lit (Value.bool false)),t1,v1,v1,uu,uu,uu,uu,uu],h2⟩) :=
  bodyV_run rfl (go_seq (go_reg0
  (go_op0 rfl rfl (st_id (v := (V.lit (Value.bool false))) (H := h) (by kernel_rfl)
  (eN
  (go_seq (go_reg0
  (pI t1 h
  (pM fun v1 h2 =>
  (pI v1 h2
  (go_gdT0 rfl rfl rfl (by kernel_rfl)
  (st_id (v := t1) (H := h2) (by kernel_rfl)
  (rN (st_id (v := t0) (H := h2) (by kernel_rfl)
  (rN (st_bp (by kernel_rfl) fun v3 h4 =>
  (rN (st_bm (by kernel_rfl) fun v5 h6 =>
  (by kernel_rfl))))))))
  (sK
  (sK
  (sK
  (by kernel_rfl))))
  (by kernel_rfl))))))))))))
theorem xe42 (k wl : Nat) (h : Hp) : evF Tryz.prog xM (k + 1) wl 42 [t0,t1] h = bodyV (xX (xS k) 42 wl k false) Tryz.f42 [t0,t1] h := by kernel_rfl
theorem xm42_0 (h : Hp) : opsP (xX s 42 wl k false) xg42_0 7 m0 ac (runK (xX s 42 wl k false) (bodyK s.P Tryz.f42) xk42_0) ⟨[t0,t1,t2,t3,t4,t5,t6,t7,t8,t9,ta,tb,tc],h⟩ =
  bm (vPick t7 tb (V.lit (Value.bool false))) h fun v7 h8 =>
  some (v7,h8) :=
  (pM fun v7 h8 =>
  (pI v7 h8
  (eN
  (go_ret (by kernel_rfl)))))
theorem xk42_0_ret (cx : Cx) (K : Out → St → Option (V × Hp)) (s : St) : runK cx K xk42_0 .ret s = K .ret s := by kernel_rfl
-- names: xb42,xm42_0,xk42_0_ret
noncomputable def xg58_0 : Code := codeAt (bodyOf Tryz.f58) [1,0]
noncomputable def xk58_0 : List Fr := [.seq (codeAt (bodyOf Tryz.f58) [1,1])]
theorem xb58 (h : Hp) : bodyV (xX s 58 wl k false) Tryz.f58 [t0,t1,t2] h =
  bm (vBin s.P .geq 3 t0 t1) h fun v1 h2 =>
  gd v1 (
  bm (vBin s.P .leq 3 t0 t2) h2 fun v3 h4 =>
  opsP (xX s 58 wl k false) xg58_0 7 h.length ([],[]) (runK (xX s 58 wl k false) (bodyK s.P Tryz.f58) xk58_0) ⟨[t0,t1,t2,uu,uu,uu,(V.lit (Value.bool false)),t0,t1,v1,(V.lit (Value.bool true)),t0,t2,v3,uu],h4⟩) (
  opsP (xX s 58 wl k false) xg58_0 7 h.length ([],[]) (runK (xX s 58 wl k false) (bodyK s.P Tryz.f58) xk58_0) ⟨[t0,t1,t2,uu,uu,uu,(V.lit (Value.bool false)),t0,t1,v1,(V.lit (Value.bool false)),uu,uu,uu,uu],h2⟩) (
  opsP (xX s 58 wl k false) xg58_0 5 h.length ([],[]) (runK (xX s 58 wl k false) (bodyK s.P Tryz.f58) xk58_0) ⟨[t0,t1,t2,uu,uu,uu,(V.lit (Value.bool false)),t0,t1,v1,v1,uu,uu,uu,uu],h2⟩) :=
  bodyV_run rfl (go_seq (go_reg0
  (go_op0 rfl rfl (st_id (v := (V.lit (Value.bool false))) (H := h) (by kernel_rfl)
  (eN
  (go_seq (go_reg0
  (pI t0 h
  (pI t1 h
  (pM fun v1 h2 =>
  (pI v1 h2
  (go_gdT0 rfl rfl rfl (by kernel_rfl)
  (st_id (v := t0) (H := h2) (by kernel_rfl)
  (rN (st_id (v := t2) (H := h2) (by kernel_rfl)
  (rN (st_bm (by kernel_rfl) fun v3 h4 =>
  (by kernel_rfl))))))
  (sK
  (sK
  (by kernel_rfl)))
  (by kernel_rfl)))))))))))))
theorem xe58 (k wl : Nat) (h : Hp) : evF Tryz.prog xM (k + 1) wl 58 [t0,t1,t2] h = bodyV (xX (xS k) 58 wl k false) Tryz.f58 [t0,t1,t2] h := by kernel_rfl
theorem xm58_0 (h : Hp) : opsP (xX s 58 wl k false) xg58_0 7 m0 ac (runK (xX s 58 wl k false) (bodyK s.P Tryz.f58) xk58_0) ⟨[t0,t1,t2,t3,t4,t5,t6,t7,t8,t9,ta,tb,tc,td,te],h⟩ =
  bm (vPick ta td (V.lit (Value.bool false))) h fun v5 h6 =>
  some (v5,h6) :=
  (pM fun v5 h6 =>
  (pI v5 h6
  (eN
  (go_ret (by kernel_rfl)))))
theorem xk58_0_ret (cx : Cx) (K : Out → St → Option (V × Hp)) (s : St) : runK cx K xk58_0 .ret s = K .ret s := by kernel_rfl
-- names: xb58,xm58_0,xk58_0_ret

theorem xb59 (h : Hp) : bodyV (xX s 59 wl k false) Tryz.f59 [t0,t1] h =
  bp (opBox t0 h) fun v1 h2 =>
  bm (vFieldAddr s.P 23 v1 2) h2 fun v3 h4 =>
  bm (vLoad s.P 3 v3 h4) h4 fun v5 h6 =>
  bm (vBin s.P .mul 3 (V.lit (Value.int .i64 2)) v5) h6 fun v7 h8 =>
  bm (vBin s.P .add 3 (V.lit (Value.int .i64 6)) v7) h8 fun v9 h10 =>
  bm (vFieldAddr s.P 23 v1 1) h10 fun v11 h12 =>
  bm (vLoad s.P 3 v11 h12) h12 fun v13 h14 =>
  bm (vBin s.P .add 3 (V.lit (Value.int .i64 3)) v13) h14 fun v15 h16 =>
  bm (vBin s.P .mul 3 t1 v15) h16 fun v17 h18 =>
  bm (vBin s.P .add 3 v9 v17) h18 fun v19 h20 =>
  some (v19,h20) :=
  bodyV_run rfl (go_seq (go_reg0
  (pP fun v1 h2 =>
  (go_op0 rfl rfl (st_id (v := (V.lit (Value.int .i64 0))) (H := h2) (by kernel_rfl)
  (eN
  (go_seq (go_reg0
  (pM fun v3 h4 =>
  (pM fun v5 h6 =>
  (pM fun v7 h8 =>
  (pM fun v9 h10 =>
  (pI t1 h10
  (pM fun v11 h12 =>
  (pM fun v13 h14 =>
  (pM fun v15 h16 =>
  (pM fun v17 h18 =>
  (pM fun v19 h20 =>
  (pI v19 h20
  (eN
  (go_ret (by kernel_rfl))))))))))))))))))))))
theorem xe59 (k wl : Nat) (h : Hp) : evF Tryz.prog xM (k + 1) wl 59 [t0,t1] h = bodyV (xX (xS k) 59 wl k false) Tryz.f59 [t0,t1] h := by kernel_rfl
-- names: xb59,
noncomputable def xg75_0 : Code := codeAt (bodyOf Tryz.f75) [1,0,0]
noncomputable def xk75_0 : List Fr := [.seq (codeAt (bodyOf Tryz.f75) [1,0,1]),.seq (codeAt (bodyOf Tryz.f75) [1,1])]
theorem xb75 (h : Hp) : bodyV (xX s 75 wl k false) Tryz.f75 [t0,t1,t2] h =
  bp (opBox t0 h) fun v1 h2 =>
  bm (vLoad s.P 23 v1 h2) h2 fun v3 h4 =>
  bp (callV (xX s 75 wl k false) false true (.fn (.func 37) [] []) [v3] h4) fun v5 h6 =>
  bm (vUn .not v5) h6 fun v7 h8 =>
  gd v7 (
  opsP (xX s 75 wl k false) xg75_0 10 h2.length ([],[]) (runK (xX s 75 wl k false) (bodyK s.P Tryz.f75) xk75_0) ⟨[t0,t1,t2,v1,uu,uu,(V.lit (Value.int .i64 0)),v3,v5,v7,(V.lit (Value.bool true)),uu,uu,uu,uu,uu,uu,uu,uu,uu],h8⟩) (
  bm (vFieldAddr s.P 23 v1 0) h8 fun v9 h10 =>
  bm (vLoad s.P 3 v9 h10) h10 fun v11 h12 =>
  bm (vBin s.P .sub 3 v11 (V.lit (Value.int .i64 1))) h12 fun v13 h14 =>
  bp (callV (xX s 75 wl k false) false true (.fn (.func 58) [] []) [t1,(V.lit (Value.int .i64 0)),v13] h14) fun v15 h16 =>
  bm (vUn .not v15) h16 fun v17 h18 =>
  opsP (xX s 75 wl k false) xg75_0 10 h2.length ([],[]) (runK (xX s 75 wl k false) (bodyK s.P Tryz.f75) xk75_0) ⟨[t0,t1,t2,v1,uu,uu,(V.lit (Value.int .i64 0)),v3,v5,v7,(V.lit (Value.bool false)),t1,v9,v11,v13,v15,v17,uu,uu,uu],h18⟩) (
  opsP (xX s 75 wl k false) xg75_0 5 h2.length ([],[]) (runK (xX s 75 wl k false) (bodyK s.P Tryz.f75) xk75_0) ⟨[t0,t1,t2,v1,uu,uu,(V.lit (Value.int .i64 0)),v3,v5,v7,v7,uu,uu,uu,uu,uu,uu,uu,uu,uu],h8⟩) :=
  bodyV_run rfl (go_seq (go_reg0
  (pP fun v1 h2 =>
  (go_op0 rfl rfl (st_id (v := (V.lit (Value.int .i64 0))) (H := h2) (by kernel_rfl)
  (eN
  (go_seq (go_seq (go_reg0
  (pM fun v3 h4 =>
  (pP fun v5 h6 =>
  (pM fun v7 h8 =>
  (pI v7 h8
  (go_gdF0 rfl rfl rfl (by kernel_rfl)
  (sK
  (sK
  (sK
  (sK
  (sK
  (by kernel_rfl))))))
  (st_id (v := t1) (H := h8) (by kernel_rfl)
  (rN (st_bm (by kernel_rfl) fun v9 h10 =>
  (rN (st_bm (by kernel_rfl) fun v11 h12 =>
  (rN (st_bm (by kernel_rfl) fun v13 h14 =>
  (rN (st_bp (by kernel_rfl) fun v15 h16 =>
  (rN (st_bm (by kernel_rfl) fun v17 h18 =>
  (by kernel_rfl))))))))))))
  (by kernel_rfl)))))))))))))))
theorem xe75 (k wl : Nat) (h : Hp) : evF Tryz.prog xM (k + 1) wl 75 [t0,t1,t2] h = bodyV (xX (xS k) 75 wl k false) Tryz.f75 [t0,t1,t2] h := by kernel_rfl
theorem xm75_0 (h : Hp) : opsP (xX s 75 wl k false) xg75_0 10 m0 ac (runK (xX s 75 wl k false) (bodyK s.P Tryz.f75) xk75_0) ⟨[t0,t1,t2,t3,t4,t5,t6,t7,t8,t9,ta,tb,tc,td,te,tf,tg,th,ti,tj],h⟩ =
  bm (vPick ta (V.lit (Value.bool true)) tg) h fun v19 h20 =>
  cnd v19 (
  some ((V.lit (Value.int .i64 (-1))),h20)) (
  bp (callV (xX s 75 wl k false) false true t2 [] h20) fun v21 h22 =>
  some (v21,h22)) :=
  (pM fun v19 h20 =>
  (eN
  (go_cond (by kernel_rfl)
  (go_seq (go_reg0
  (go_op0 rfl rfl (st_id (v := (V.lit (Value.int .i64 (-1)))) (H := h20) (by kernel_rfl)
  (eN
  (go_ret (rt_seq_ret (by kernel_rfl))))))))
  (go_skip (go_seq (go_reg0
  (pI t2 h20
  (pP fun v21 h22 =>
  (pI v21 h22
  (eN
  (go_ret (by kernel_rfl))))))))))))
theorem xk75_0_ret (cx : Cx) (K : Out → St → Option (V × Hp)) (s : St) : runK cx K xk75_0 .ret s = K .ret s := by kernel_rfl
-- names: xb75,xm75_0,xk75_0_ret
noncomputable def xg89_0 : Code := codeAt (bodyOf Tryz.f89) [1,1,1,1,0]
theorem xo89_5 : orderIx (opsOf xg89_0) = [0,1,2,3,4,5,6] := by kernel_rfl
theorem xo89_5a : (rgOf (opsOf xg89_0)).any = false := by kernel_rfl
theorem xo89_5r : regOk (opsOf xg89_0) = true := by kernel_rfl
theorem xb89 (h : Hp) : bodyV (xX s 89 wl k false) Tryz.f89 [t0,t1,t2] h =
  bp (some (.own h.length 0 0,h ++ [.rows 0 [] 0 true])) fun v1 h2 =>
  bp (callV (xX s 89 wl k false) false true (.fn (.func 20) [] []) [t0] h2) fun v3 h4 =>
  bp (callV (xX s 89 wl k false) false true (.fn (.func 42) [] []) [t0,t1] h4) fun v5 h6 =>
  bm (vUn .not v5) h6 fun v7 h8 =>
  cnd v7 (
  some (.tup [v3,(V.lit (Value.int .u64 0))],h8)) (
  bm (vIndexAddr s.P 26 t0 t1 h8) h8 fun v9 h10 =>
  bm (vLoad s.P 28 v9 h10) h10 fun v11 h12 =>
  bp (callV (xX s 89 wl k false) false true t2 [v11] h12) fun v13 h14 =>
  bm (vIndexAddr s.P 26 v3 t1 h14) h14 fun v15 h16 =>
  bs (vStore s.P wl 28 v15 v13 h16) fun h17 =>
  bm (vIndexAddr s.P 26 t0 t1 h17) h17 fun v18 h19 =>
  bm (vLoad s.P 28 v18 h19) h19 fun v20 h21 =>
  some (.tup [v3,v20],h21)) :=
  bodyV_run rfl (go_seq (go_reg0
  (pP fun v1 h2 =>
  (go_op0 rfl rfl (st_id (v := (V.lit (Value.int .u64 0))) (H := h2) (by kernel_rfl)
  (eN
  (go_seq (go_reg0
  (pI t0 h2
  (pP fun v3 h4 =>
  (pI v3 h4
  (eN
  (go_seq (go_seq (go_reg0
  (pI t0 h4
  (pI t1 h4
  (pP fun v5 h6 =>
  (pM fun v7 h8 =>
  (eN
  (go_cond (by kernel_rfl)
  (go_seq (go_reg0
  (pI v3 h8
  (pI v3 h8
  (go_op0 rfl rfl (st_id (v := (V.lit (Value.int .u64 0))) (H := h8) (by kernel_rfl)
  (eN
  (go_ret (rt_seq_ret (by kernel_rfl))))))))))
  (go_skip (go_seq (go_reg0
  (pI v3 h8
  (pI t1 h8
  (pI t2 h8
  (pI t0 h8
  (pI t1 h8
  (pM fun v9 h10 =>
  (pM fun v11 h12 =>
  (pP fun v13 h14 =>
  (pM fun v15 h16 =>
  (pS fun h17 =>
  (eN
  (go_seq (go_reg1 xo89_5r
  (qI xo89_5 xo89_5a v3 h17
  (qI xo89_5 xo89_5a t0 h17
  (qI xo89_5 xo89_5a t1 h17
  (qM xo89_5 xo89_5a fun v18 h19 =>
  (qM xo89_5 xo89_5a fun v20 h21 =>
  (qI xo89_5 xo89_5a v3 h21
  (qI xo89_5 xo89_5a v20 h21
  (go_end1 xo89_5 (by kernel_rfl) xo89_5a
  (go_ret (by kernel_rfl)))))))))))))))))))))))))))))))))))))))))))))))
theorem xe89 (k wl : Nat) (h : Hp) : evF Tryz.prog xM (k + 1) wl 89 [t0,t1,t2] h = bodyV (xX (xS k) 89 wl k false) Tryz.f89 [t0,t1,t2] h := by kernel_rfl
-- names: xb89,

theorem xb44 (h : Hp) : bodyV (xX s 44 wl k false) Tryz.f44 [t0,t1,t2] h =
  bp (opAlloc s.P 30 h) fun v1 h2 =>
  bm (vBuild s.P 30 [(0,t0),(2,t1),(3,t2)]) h2 fun v3 h4 =>
  bs (vStore s.P wl 30 v1 v3 h4) fun h5 =>
  resO [vLoad s.P 30 v1 h5] h5 :=
  bodyV_run rfl (go_seq (go_reg0
  (pP fun v1 h2 =>
  (eN
  (go_seq (go_reg0
  (pI t0 h2
  (pI t1 h2
  (pI t2 h2
  (pM fun v3 h4 =>
  (pS fun h5 =>
  (eN
  (go_ret (by kernel_rfl))))))))))))))
theorem xe44 (k wl : Nat) (h : Hp) : evF Tryz.prog xM (k + 1) wl 44 [t0,t1,t2] h = bodyV (xX (xS k) 44 wl k false) Tryz.f44 [t0,t1,t2] h := by kernel_rfl
-- names: xb44,

theorem xb68 (h : Hp) : bodyV (xX s 68 wl k false) Tryz.f68 [t0] h =
  bp (opBox t0 h) fun v1 h2 =>
  bm (vFieldAddr s.P 30 v1 6) h2 fun v3 h4 =>
  bm (vLoad s.P 3 v3 h4) h4 fun v5 h6 =>
  bm (vBin s.P .neq 3 v5 (V.lit (Value.int .i64 0))) h6 fun v7 h8 =>
  some (v7,h8) :=
  bodyV_run rfl (go_seq (go_reg0
  (pP fun v1 h2 =>
  (go_op0 rfl rfl (st_id (v := (V.lit (Value.bool false))) (H := h2) (by kernel_rfl)
  (eN
  (go_seq (go_reg0
  (pM fun v3 h4 =>
  (pM fun v5 h6 =>
  (pM fun v7 h8 =>
  (pI v7 h8
  (eN
  (go_ret (by kernel_rfl)))))))))))))))
theorem xe68 (k wl : Nat) (h : Hp) : evF Tryz.prog xM (k + 1) wl 68 [t0] h = bodyV (xX (xS k) 68 wl k false) Tryz.f68 [t0] h := by kernel_rfl
-- names: xb68,

theorem xb104 (h : Hp) : bodyV (xX s 104 wl k false) Tryz.f104 [t0,t1,t2] h =
  bp (opBox t0 h) fun v1 h2 =>
  bp (opAlloc s.P 30 h2) fun v3 h4 =>
  bm (vFieldAddr s.P 30 v1 0) h4 fun v5 h6 =>
  bm (vLoad s.P 3 v5 h6) h6 fun v7 h8 =>
  bm (vFieldAddr s.P 30 v1 2) h8 fun v9 h10 =>
  bm (vLoad s.P 3 v9 h10) h10 fun v11 h12 =>
  bm (vBuild s.P 30 [(0,v7),(2,v11),(3,t2),(6,t1)]) h12 fun v13 h14 =>
  bs (vStore s.P wl 30 v3 v13 h14) fun h15 =>
  resO [vLoad s.P 30 v3 h15] h15 :=
  bodyV_run rfl (go_seq (go_reg0
  (pP fun v1 h2 =>
  (pP fun v3 h4 =>
  (eN
  (go_seq (go_reg0
  (pM fun v5 h6 =>
  (pM fun v7 h8 =>
  (pM fun v9 h10 =>
  (pM fun v11 h12 =>
  (pI t2 h12
  (pI t1 h12
  (pM fun v13 h14 =>
  (pS fun h15 =>
  (eN
  (go_ret (by kernel_rfl))))))))))))))))))
theorem xe104 (k wl : Nat) (h : Hp) : evF Tryz.prog xM (k + 1) wl 104 [t0,t1,t2] h = bodyV (xX (xS k) 104 wl k false) Tryz.f104 [t0,t1,t2] h := by kernel_rfl
-- names: xb104,

theorem xb73 (h : Hp) : bodyV (xX s 73 wl k false) Tryz.f73 [t0,t1,t2] h =
  bp (opBox t2 h) fun v1 h2 =>
  bp (some (.own h2.length 0 0,h2 ++ [.rows 0 [] 0 true])) fun v3 h4 =>
  bp (callV (xX s 73 wl k false) false true (.fn (.func 89) [] []) [t0,t1,(.fn (.func 90) [] [v1])] h4) fun v5 h6 =>
  bm (vExtract v5 0) h6 fun v7 h8 =>
  bm (vExtract v5 1) h8 fun v9 h10 =>
  some (.tup [v7,v9],h10) :=
  bodyV_run rfl (go_seq (go_reg0
  (pP fun v1 h2 =>
  (pP fun v3 h4 =>
  (go_op0 rfl rfl (st_id (v := (V.lit (Value.int .u64 0))) (H := h4) (by kernel_rfl)
  (eN
  (go_seq (go_reg0
  (pI t0 h4
  (pI t1 h4
  (go_op0 rfl rfl (st_id (v := (.fn (.func 90) [] [v1])) (H := h4) (by kernel_rfl)
  (pP fun v5 h6 =>
  (pM fun v7 h8 =>
  (pM fun v9 h10 =>
  (pI v7 h10
  (pI v9 h10
  (eN
  (go_ret (by kernel_rfl)))))))))))))))))))))
theorem xe73 (k wl : Nat) (h : Hp) : evF Tryz.prog xM (k + 1) wl 73 [t0,t1,t2] h = bodyV (xX (xS k) 73 wl k false) Tryz.f73 [t0,t1,t2] h := by kernel_rfl
-- names: xb73,

theorem xb90 (h : Hp) : bodyV (xX s 90 wl k false) Tryz.f90 [t0,t1] h =
  bm (vLoad s.P 28 t1 h) h fun v1 h2 =>
  bm (vBin s.P .add 28 t0 v1) h2 fun v3 h4 =>
  some (v3,h4) :=
  bodyV_run rfl (go_seq (go_reg0
  (go_op0 rfl rfl (st_id (v := (V.lit (Value.int .u64 0))) (H := h) (by kernel_rfl)
  (eN
  (go_seq (go_reg0
  (pI t0 h
  (pM fun v1 h2 =>
  (pM fun v3 h4 =>
  (pI v3 h4
  (eN
  (go_ret (by kernel_rfl))))))))))))))
theorem xe90 (k wl : Nat) (h : Hp) : evF Tryz.prog xM (k + 1) wl 90 [t0,t1] h = bodyV (xX (xS k) 90 wl k false) Tryz.f90 [t0,t1] h := by kernel_rfl
-- names: xb90,
noncomputable def xg102_0 : Code := codeAt (bodyOf Tryz.f102) [1,1,1,0]
theorem xo102_3 : orderIx (opsOf xg102_0) = [0,1,2,3] := by kernel_rfl
theorem xo102_3a : (rgOf (opsOf xg102_0)).any = false := by kernel_rfl
theorem xo102_3r : regOk (opsOf xg102_0) = true := by kernel_rfl
theorem xb102 (h : Hp) : bodyV (xX s 102 wl k false) Tryz.f102 [t0,t1,t2,t3] h =
  bp (opBox t2 h) fun v1 h2 =>
  bp (opBox t3 h2) fun v3 h4 =>
  bp (some (.own h4.length 0 0,h4 ++ [.rows 0 [] 0 true])) fun v5 h6 =>
  bp (opAlloc s.P 4 h6) fun v7 h8 =>
  bs (vStore s.P wl 4 v7 (V.lit (Value.bool false)) h8) fun h9 =>
  bp (callV (xX s 102 wl k false) false true (.fn (.func 89) [] []) [t0,t1,(.fn (.func 135) [] [v1,v7,v3])] h9) fun v10 h11 =>
  bm (vExtract v10 0) h11 fun v12 h13 =>
  bm (vExtract v10 1) h13 fun v14 h15 =>
  bm (vLoad s.P 4 v7 h15) h15 fun v16 h17 =>
  some (.tup [v12,v16],h17) :=
  bodyV_run rfl (go_seq (go_reg0
  (pP fun v1 h2 =>
  (pP fun v3 h4 =>
  (pP fun v5 h6 =>
  (go_op0 rfl rfl (st_id (v := (V.lit (Value.bool false))) (H := h6) (by kernel_rfl)
  (eN
  (go_seq (go_reg0
  (pP fun v7 h8 =>
  (pS fun h9 =>
  (eN
  (go_seq (go_reg0
  (pI t0 h9
  (pI t1 h9
  (go_op0 rfl rfl (st_id (v := (.fn (.func 135) [] [v1,v7,v3])) (H := h9) (by kernel_rfl)
  (pP fun v10 h11 =>
  (pI v10 h11
  (pM fun v12 h13 =>
  (pM fun v14 h15 =>
  (pI v12 h15
  (pI v14 h15
  (eN
  (go_seq (go_reg1 xo102_3r
  (qI xo102_3 xo102_3a v12 h15
  (qM xo102_3 xo102_3a fun v16 h17 =>
  (qI xo102_3 xo102_3a v12 h17
  (qI xo102_3 xo102_3a v16 h17
  (go_end1 xo102_3 (by kernel_rfl) xo102_3a
  (go_ret (by kernel_rfl)))))))))))))))))))))))))))))))))))
theorem xe102 (k wl : Nat) (h : Hp) : evF Tryz.prog xM (k + 1) wl 102 [t0,t1,t2,t3] h = bodyV (xX (xS k) 102 wl k false) Tryz.f102 [t0,t1,t2,t3] h := by kernel_rfl
-- names: xb102,

theorem xb135 (h : Hp) : bodyV (xX s 135 wl k false) Tryz.f135 [t0,t1,t2,t3] h =
  bm (vLoad s.P 28 t1 h) h fun v1 h2 =>
  bm (vBin s.P .neq 28 t0 v1) h2 fun v3 h4 =>
  cnd v3 (
  some (t0,h4)) (
  bs (vStore s.P wl 4 t2 (V.lit (Value.bool true)) h4) fun h5 =>
  bm (vLoad s.P 28 t3 h5) h5 fun v6 h7 =>
  some (v6,h7)) :=
  bodyV_run rfl (go_seq (go_reg0
  (go_op0 rfl rfl (st_id (v := (V.lit (Value.int .u64 0))) (H := h) (by kernel_rfl)
  (eN
  (go_seq (go_seq (go_reg0
  (pI t0 h
  (pM fun v1 h2 =>
  (pM fun v3 h4 =>
  (eN
  (go_cond (by kernel_rfl)
  (go_seq (go_reg0
  (pI t0 h4
  (pI t0 h4
  (eN
  (go_ret (rt_seq_ret (by kernel_rfl))))))))
  (go_skip (go_seq (go_reg0
  (pS fun h5 =>
  (eN
  (go_seq (go_reg0
  (pM fun v6 h7 =>
  (pI v6 h7
  (eN
  (go_ret (by kernel_rfl)))))))))))))))))))))))))
theorem xe135 (k wl : Nat) (h : Hp) : evF Tryz.prog xM (k + 1) wl 135 [t0,t1,t2,t3] h = bodyV (xX (xS k) 135 wl k false) Tryz.f135 [t0,t1,t2,t3] h := by kernel_rfl
-- names: xb135,

theorem xb112 (h : Hp) : bodyV (xX s 112 wl k false) Tryz.f112 [t0,t1,t2] h =
  bp (opBox t2 h) fun v1 h2 =>
  bp (some (.own h2.length 0 0,h2 ++ [.rows 0 [] 0 true])) fun v3 h4 =>
  bp (callV (xX s 112 wl k false) false true (.fn (.func 89) [] []) [t0,t1,(.fn (.func 137) [] [v1])] h4) fun v5 h6 =>
  bm (vExtract v5 0) h6 fun v7 h8 =>
  bm (vExtract v5 1) h8 fun v9 h10 =>
  some (v7,h10) :=
  bodyV_run rfl (go_seq (go_reg0
  (pP fun v1 h2 =>
  (pP fun v3 h4 =>
  (eN
  (go_seq (go_reg0
  (pI t0 h4
  (pI t1 h4
  (go_op0 rfl rfl (st_id (v := (.fn (.func 137) [] [v1])) (H := h4) (by kernel_rfl)
  (pP fun v5 h6 =>
  (pI v5 h6
  (pM fun v7 h8 =>
  (pM fun v9 h10 =>
  (pI v7 h10
  (pI v9 h10
  (eN
  (go_seq (go_reg0
  (pI v7 h10
  (pI v7 h10
  (eN
  (go_ret (by kernel_rfl)))))))))))))))))))))))))
theorem xe112 (k wl : Nat) (h : Hp) : evF Tryz.prog xM (k + 1) wl 112 [t0,t1,t2] h = bodyV (xX (xS k) 112 wl k false) Tryz.f112 [t0,t1,t2] h := by kernel_rfl
-- names: xb112,

theorem xb137 (h : Hp) : bodyV (xX s 137 wl k false) Tryz.f137 [t0,t1] h =
  bm (vLoad s.P 28 t1 h) h fun v1 h2 =>
  some (v1,h2) :=
  bodyV_run rfl (go_seq (go_reg0
  (go_op0 rfl rfl (st_id (v := (V.lit (Value.int .u64 0))) (H := h) (by kernel_rfl)
  (eN
  (go_seq (go_reg0
  (pM fun v1 h2 =>
  (pI v1 h2
  (eN
  (go_ret (by kernel_rfl))))))))))))
theorem xe137 (k wl : Nat) (h : Hp) : evF Tryz.prog xM (k + 1) wl 137 [t0,t1] h = bodyV (xX (xS k) 137 wl k false) Tryz.f137 [t0,t1] h := by kernel_rfl
-- names: xb137,
end Go.Ab
