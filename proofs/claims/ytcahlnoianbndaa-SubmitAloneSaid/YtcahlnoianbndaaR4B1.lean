/- The program's code,point by point: printed by gen.py. -/
import Derived.Test.YtcahlnoianbndaaR4Seat
set_option linter.unusedVariables false
set_option linter.unusedSimpArgs false
set_option maxRecDepth 100000
set_option linter.unusedVariables false
namespace Go.Ab
open Go.Proofs
variable (t0 t1 t2 t3 t4 t5 t6 t7 t8 t9 ta tb tc td te tf tg th ti tj tk tl tm tn tp tq tr ts tt tu : V)
noncomputable def xg14_0 : Code := codeAt (bodyOf Try.f14) [1,0]
noncomputable def xk14_0 : List Fr := [.seq (codeAt (bodyOf Try.f14) [1,1])]
theorem xb14 (s : Sys) (k wl : Nat) (h : Hp) : bodyV (xX s 14 wl k false) Try.f14 [t0] h =
  bp (opBox t0 h) fun v1 h2 =>
  bm (vFieldAddr s.P 23 v1 0) h2 fun v3 h4 =>
  bm (vLoad s.P 3 v3 h4) h4 fun v5 h6 =>
  bp (callV (xX s 14 wl k false) false true (.fn (.func 40) [] []) [v5,(V.lit (Value.int .i64 1)),(V.lit (Value.int .i64 8))] h6) fun v7 h8 =>
  gd v7 (
  bm (vFieldAddr s.P 23 v1 1) h8 fun v9 h10 =>
  bm (vLoad s.P 3 v9 h10) h10 fun v11 h12 =>
  bp (callV (xX s 14 wl k false) false true (.fn (.func 40) [] []) [v11,(V.lit (Value.int .i64 1)),(V.lit (Value.int .i64 16))] h12) fun v13 h14 =>
  opsP (xX s 14 wl k false) xg14_0 7 h2.length ([],[]) (runK (xX s 14 wl k false) (bodyK s.P Try.f14) xk14_0) ⟨[t0,v1,(V.lit (Value.bool false)),v3,v5,v7,(V.lit (Value.bool true)),v9,v11,v13,uu,uu,uu,uu,uu,uu,uu,uu,uu,uu,uu,uu,uu,uu,uu,uu,uu,uu,uu,uu],h14⟩) (
  opsP (xX s 14 wl k false) xg14_0 7 h2.length ([],[]) (runK (xX s 14 wl k false) (bodyK s.P Try.f14) xk14_0) ⟨[t0,v1,(V.lit (Value.bool false)),v3,v5,v7,(V.lit (Value.bool false)),uu,uu,uu,uu,uu,uu,uu,uu,uu,uu,uu,uu,uu,uu,uu,uu,uu,uu,uu,uu,uu,uu,uu],h8⟩) (
  opsP (xX s 14 wl k false) xg14_0 5 h2.length ([],[]) (runK (xX s 14 wl k false) (bodyK s.P Try.f14) xk14_0) ⟨[t0,v1,(V.lit (Value.bool false)),v3,v5,v7,v7,uu,uu,uu,uu,uu,uu,uu,uu,uu,uu,uu,uu,uu,uu,uu,uu,uu,uu,uu,uu,uu,uu,uu],h8⟩) :=
  bodyV_run rfl (go_seq (go_reg0
  (go_op0 rfl rfl (st_bp (by kernel_rfl) fun v1 h2 =>
  (go_op0 rfl rfl (st_id (v := (V.lit (Value.bool false))) (H := h2) (by kernel_rfl)
  (go_end0 (by kernel_rfl)
  (go_seq (go_reg0
  (go_op0 rfl rfl (st_bm (by kernel_rfl) fun v3 h4 =>
  (go_op0 rfl rfl (st_bm (by kernel_rfl) fun v5 h6 =>
  (go_op0 rfl rfl (st_bp (by kernel_rfl) fun v7 h8 =>
  (go_op0 rfl rfl (st_id (v := v7) (H := h8) (by kernel_rfl)
  (go_gdT0 rfl rfl rfl (by kernel_rfl)
  (st_bm (by kernel_rfl) fun v9 h10 =>
  (go_run0 rfl rfl rfl (by kernel_rfl) (st_bm (by kernel_rfl) fun v11 h12 =>
  (go_run0 rfl rfl rfl (by kernel_rfl) (st_bp (by kernel_rfl) fun v13 h14 =>
  (by kernel_rfl))))))
  (go_skip0 rfl rfl rfl (by kernel_rfl)
  (go_skip0 rfl rfl rfl (by kernel_rfl)
  (by kernel_rfl)))
  (by kernel_rfl)))))))))))))))))))
theorem xe14 (k wl : Nat) (h : Hp) : evF Try.prog xM (k + 1) wl 14 [t0] h = bodyV (xX (xS k) 14 wl k false) Try.f14 [t0] h := by kernel_rfl
theorem xm14_0 (s : Sys) (k wl : Nat) (m0 : Nat) (ac : List Nat × List Nat) (h : Hp) : opsP (xX s 14 wl k false) xg14_0 7 m0 ac (runK (xX s 14 wl k false) (bodyK s.P Try.f14) xk14_0) ⟨[t0,t1,t2,t3,t4,t5,t6,t7,t8,t9,ta,tb,tc,td,te,tf,tg,th,ti,tj,tk,tl,tm,tn,tp,tq,tr,ts,tt,tu],h⟩ =
  bm (vPick t6 t9 (V.lit (Value.bool false))) h fun v15 h16 =>
  gd v15 (
  bm (vFieldAddr s.P 23 t1 1) h16 fun v17 h18 =>
  bm (vLoad s.P 3 v17 h18) h18 fun v19 h20 =>
  bm (vFieldAddr s.P 23 t1 1) h20 fun v21 h22 =>
  bm (vLoad s.P 3 v21 h22) h22 fun v23 h24 =>
  bm (vBin s.P .sub 3 v23 (V.lit (Value.int .i64 1))) h24 fun v25 h26 =>
  bm (vBin s.P .and 3 v19 v25) h26 fun v27 h28 =>
  bm (vBin s.P .eql 3 v27 (V.lit (Value.int .i64 0))) h28 fun v29 h30 =>
  opsP (xX s 14 wl k false) xg14_0 16 m0 ac (runK (xX s 14 wl k false) (bodyK s.P Try.f14) xk14_0) ⟨[t0,t1,t2,t3,t4,t5,t6,t7,t8,t9,v15,(V.lit (Value.bool true)),v17,v19,v21,v23,v25,v27,v29,tj,tk,tl,tm,tn,tp,tq,tr,ts,tt,tu],h30⟩) (
  opsP (xX s 14 wl k false) xg14_0 16 m0 ac (runK (xX s 14 wl k false) (bodyK s.P Try.f14) xk14_0) ⟨[t0,t1,t2,t3,t4,t5,t6,t7,t8,t9,v15,(V.lit (Value.bool false)),uu,uu,uu,uu,uu,uu,uu,tj,tk,tl,tm,tn,tp,tq,tr,ts,tt,tu],h16⟩) (
  opsP (xX s 14 wl k false) xg14_0 10 m0 ac (runK (xX s 14 wl k false) (bodyK s.P Try.f14) xk14_0) ⟨[t0,t1,t2,t3,t4,t5,t6,t7,t8,t9,v15,v15,uu,td,te,tf,tg,th,ti,tj,tk,tl,tm,tn,tp,tq,tr,ts,tt,tu],h16⟩) :=
  (go_op0 rfl rfl (st_bm (by kernel_rfl) fun v15 h16 =>
  (go_op0 rfl rfl (st_id (v := v15) (H := h16) (by kernel_rfl)
  (go_gdT0 rfl rfl rfl (by kernel_rfl)
  (st_bm (by kernel_rfl) fun v17 h18 =>
  (go_run0 rfl rfl rfl (by kernel_rfl) (st_bm (by kernel_rfl) fun v19 h20 =>
  (go_run0 rfl rfl rfl (by kernel_rfl) (st_bm (by kernel_rfl) fun v21 h22 =>
  (go_run0 rfl rfl rfl (by kernel_rfl) (st_bm (by kernel_rfl) fun v23 h24 =>
  (go_run0 rfl rfl rfl (by kernel_rfl) (st_bm (by kernel_rfl) fun v25 h26 =>
  (go_run0 rfl rfl rfl (by kernel_rfl) (st_bm (by kernel_rfl) fun v27 h28 =>
  (go_run0 rfl rfl rfl (by kernel_rfl) (st_bm (by kernel_rfl) fun v29 h30 =>
  (by kernel_rfl))))))))))))))
  (go_skip0 rfl rfl rfl (by kernel_rfl)
  (go_skip0 rfl rfl rfl (by kernel_rfl)
  (go_skip0 rfl rfl rfl (by kernel_rfl)
  (go_skip0 rfl rfl rfl (by kernel_rfl)
  (go_skip0 rfl rfl rfl (by kernel_rfl)
  (go_skip0 rfl rfl rfl (by kernel_rfl)
  (by kernel_rfl)))))))
  (by kernel_rfl))))))
theorem xm14_1 (s : Sys) (k wl : Nat) (m0 : Nat) (ac : List Nat × List Nat) (h : Hp) : opsP (xX s 14 wl k false) xg14_0 16 m0 ac (runK (xX s 14 wl k false) (bodyK s.P Try.f14) xk14_0) ⟨[t0,t1,t2,t3,t4,t5,t6,t7,t8,t9,ta,tb,tc,td,te,tf,tg,th,ti,tj,tk,tl,tm,tn,tp,tq,tr,ts,tt,tu],h⟩ =
  bm (vPick tb ti (V.lit (Value.bool false))) h fun v31 h32 =>
  gd v31 (
  bm (vFieldAddr s.P 23 t1 2) h32 fun v33 h34 =>
  bm (vLoad s.P 3 v33 h34) h34 fun v35 h36 =>
  bp (callV (xX s 14 wl k false) false true (.fn (.func 40) [] []) [v35,(V.lit (Value.int .i64 1)),(V.lit (Value.int .i64 16))] h36) fun v37 h38 =>
  opsP (xX s 14 wl k false) xg14_0 21 m0 ac (runK (xX s 14 wl k false) (bodyK s.P Try.f14) xk14_0) ⟨[t0,t1,t2,t3,t4,t5,t6,t7,t8,t9,ta,tb,tc,td,te,tf,tg,th,ti,v31,(V.lit (Value.bool true)),v33,v35,v37,tp,tq,tr,ts,tt,tu],h38⟩) (
  opsP (xX s 14 wl k false) xg14_0 21 m0 ac (runK (xX s 14 wl k false) (bodyK s.P Try.f14) xk14_0) ⟨[t0,t1,t2,t3,t4,t5,t6,t7,t8,t9,ta,tb,tc,td,te,tf,tg,th,ti,v31,(V.lit (Value.bool false)),uu,uu,uu,tp,tq,tr,ts,tt,tu],h32⟩) (
  opsP (xX s 14 wl k false) xg14_0 19 m0 ac (runK (xX s 14 wl k false) (bodyK s.P Try.f14) xk14_0) ⟨[t0,t1,t2,t3,t4,t5,t6,t7,t8,t9,ta,tb,tc,td,te,tf,tg,th,ti,v31,v31,uu,tm,tn,tp,tq,tr,ts,tt,tu],h32⟩) :=
  (go_op0 rfl rfl (st_bm (by kernel_rfl) fun v31 h32 =>
  (go_op0 rfl rfl (st_id (v := v31) (H := h32) (by kernel_rfl)
  (go_gdT0 rfl rfl rfl (by kernel_rfl)
  (st_bm (by kernel_rfl) fun v33 h34 =>
  (go_run0 rfl rfl rfl (by kernel_rfl) (st_bm (by kernel_rfl) fun v35 h36 =>
  (go_run0 rfl rfl rfl (by kernel_rfl) (st_bp (by kernel_rfl) fun v37 h38 =>
  (by kernel_rfl))))))
  (go_skip0 rfl rfl rfl (by kernel_rfl)
  (go_skip0 rfl rfl rfl (by kernel_rfl)
  (by kernel_rfl)))
  (by kernel_rfl))))))
theorem xm14_2 (s : Sys) (k wl : Nat) (m0 : Nat) (ac : List Nat × List Nat) (h : Hp) : opsP (xX s 14 wl k false) xg14_0 21 m0 ac (runK (xX s 14 wl k false) (bodyK s.P Try.f14) xk14_0) ⟨[t0,t1,t2,t3,t4,t5,t6,t7,t8,t9,ta,tb,tc,td,te,tf,tg,th,ti,tj,tk,tl,tm,tn,tp,tq,tr,ts,tt,tu],h⟩ =
  bm (vPick tk tn (V.lit (Value.bool false))) h fun v39 h40 =>
  gd v39 (
  bm (vFieldAddr s.P 23 t1 3) h40 fun v41 h42 =>
  bm (vLoad s.P 3 v41 h42) h42 fun v43 h44 =>
  bp (callV (xX s 14 wl k false) false true (.fn (.func 40) [] []) [v43,(V.lit (Value.int .i64 0)),(V.lit (Value.int .i64 4))] h44) fun v45 h46 =>
  opsP (xX s 14 wl k false) xg14_0 26 m0 ac (runK (xX s 14 wl k false) (bodyK s.P Try.f14) xk14_0) ⟨[t0,t1,t2,t3,t4,t5,t6,t7,t8,t9,ta,tb,tc,td,te,tf,tg,th,ti,tj,tk,tl,tm,tn,v39,(V.lit (Value.bool true)),v41,v43,v45,tu],h46⟩) (
  opsP (xX s 14 wl k false) xg14_0 26 m0 ac (runK (xX s 14 wl k false) (bodyK s.P Try.f14) xk14_0) ⟨[t0,t1,t2,t3,t4,t5,t6,t7,t8,t9,ta,tb,tc,td,te,tf,tg,th,ti,tj,tk,tl,tm,tn,v39,(V.lit (Value.bool false)),uu,uu,uu,tu],h40⟩) (
  opsP (xX s 14 wl k false) xg14_0 24 m0 ac (runK (xX s 14 wl k false) (bodyK s.P Try.f14) xk14_0) ⟨[t0,t1,t2,t3,t4,t5,t6,t7,t8,t9,ta,tb,tc,td,te,tf,tg,th,ti,tj,tk,tl,tm,tn,v39,v39,uu,ts,tt,tu],h40⟩) :=
  (go_op0 rfl rfl (st_bm (by kernel_rfl) fun v39 h40 =>
  (go_op0 rfl rfl (st_id (v := v39) (H := h40) (by kernel_rfl)
  (go_gdT0 rfl rfl rfl (by kernel_rfl)
  (st_bm (by kernel_rfl) fun v41 h42 =>
  (go_run0 rfl rfl rfl (by kernel_rfl) (st_bm (by kernel_rfl) fun v43 h44 =>
  (go_run0 rfl rfl rfl (by kernel_rfl) (st_bp (by kernel_rfl) fun v45 h46 =>
  (by kernel_rfl))))))
  (go_skip0 rfl rfl rfl (by kernel_rfl)
  (go_skip0 rfl rfl rfl (by kernel_rfl)
  (by kernel_rfl)))
  (by kernel_rfl))))))
theorem xm14_3 (s : Sys) (k wl : Nat) (m0 : Nat) (ac : List Nat × List Nat) (h : Hp) : opsP (xX s 14 wl k false) xg14_0 26 m0 ac (runK (xX s 14 wl k false) (bodyK s.P Try.f14) xk14_0) ⟨[t0,t1,t2,t3,t4,t5,t6,t7,t8,t9,ta,tb,tc,td,te,tf,tg,th,ti,tj,tk,tl,tm,tn,tp,tq,tr,ts,tt,tu],h⟩ =
  bm (vPick tq tt (V.lit (Value.bool false))) h fun v47 h48 =>
  some (v47,h48) :=
  (go_op0 rfl rfl (st_bm (by kernel_rfl) fun v47 h48 =>
  (go_op0 rfl rfl (st_id (v := v47) (H := h48) (by kernel_rfl)
  (go_end0 (by kernel_rfl)
  (go_ret (by kernel_rfl)))))))
theorem xk14_0_ret (cx : Cx) (K : Out → St → Option (V × Hp)) (s : St) : runK cx K xk14_0 .ret s = K .ret s := by kernel_rfl
-- names: xb14,xm14_0,xm14_1,xm14_2,xm14_3,xk14_0_ret
noncomputable def xl15_0 : Code := codeAt (bodyOf Try.f15) [1,1,0,1,0,0]
noncomputable def xk15_0 : List Fr := [.block 0,.seq (codeAt (bodyOf Try.f15) [1,1,1])]
theorem xb15 (s : Sys) (k wl : Nat) (h : Hp) : bodyV (xX s 15 wl k false) Try.f15 [t0] h =
  bp (opBox t0 h) fun v1 h2 =>
  bp (some (.own h2.length 0 0,h2 ++ [.rows 0 [] 0 true])) fun v3 h4 =>
  bp (some (.own h4.length 0 0,h4 ++ [.rows 0 [] 0 true])) fun v5 h6 =>
  bm (vLoad s.P 23 v1 h6) h6 fun v7 h8 =>
  bp (callV (xX s 15 wl k false) false true (.fn (.func 37) [] []) [v7] h8) fun v9 h10 =>
  itX (xX s 15 wl k false) xl15_0 h10.length (runK (xX s 15 wl k false) (bodyK s.P Try.f15) xk15_0) k ⟨[(V.kill h10.length t0),(V.kill h10.length v1),(V.kill h10.length v3),(V.kill h10.length v5),(V.kill h10.length v7),(V.kill h10.length v9),(V.lit (Value.int .i64 0)),.junk,.junk,.junk,.junk,.junk,(V.kill h10.length uu)],cutH h10.length h10⟩ :=
  bodyV_run rfl (go_seq (go_reg0
  (go_op0 rfl rfl (st_bp (by kernel_rfl) fun v1 h2 =>
  (go_op0 rfl rfl (st_bp (by kernel_rfl) fun v3 h4 =>
  (go_end0 (by kernel_rfl)
  (go_seq (go_reg0
  (go_op0 rfl rfl (st_bp (by kernel_rfl) fun v5 h6 =>
  (go_end0 (by kernel_rfl)
  (go_seq (go_seq (go_reg0
  (go_op0 rfl rfl (st_bm (by kernel_rfl) fun v7 h8 =>
  (go_op0 rfl rfl (st_bp (by kernel_rfl) fun v9 h10 =>
  (go_op0 rfl rfl (st_id (v := (V.lit (Value.int .i64 0))) (H := h10) (by kernel_rfl)
  (go_end0 (by kernel_rfl)
  (go_block (by kernel_rfl))))))))))))))))))))))))
theorem xe15 (k wl : Nat) (h : Hp) : evF Try.prog xM (k + 1) wl 15 [t0] h = bodyV (xX (xS k) 15 wl k false) Try.f15 [t0] h := by kernel_rfl
theorem xz15 (P : Program) (h : Hp) : bodyK P Try.f15 .ret ⟨[t0,t1,t2,t3,t4,t5,t6,t7,t8,t9,ta,tb,tc],h⟩ = some (t2,h) := by kernel_rfl
theorem xr15_0 (s : Sys) (K : Out → St → Option (V × Hp)) (k wl : Nat) (rd : Bool) (n n0 : Nat) (h : Hp) : itX (xX s 15 wl k rd) xl15_0 n0 K (n + 1) ⟨[t0,t1,t2,t3,t4,t5,t6,t7,t8,t9,ta,tb,tc],h⟩ =
  bm (vBin s.P .lss 3 t6 t5) h fun v11 h12 =>
  cnd v11 (
  bp (vBuildSlice s.P wl 26 1 [(0,(V.lit (Value.int .u64 0)))] h12) fun v13 h14 =>
  bp (opApp s.P wl 26 26 t3 v13 h14) fun v15 h16 =>
  bm (vBin s.P .add 3 t6 (V.lit (Value.int .i64 1))) h16 fun v17 h18 =>
  itX (xX s 15 wl k rd) xl15_0 n0 K n ⟨[(V.kill n0 t0),(V.kill n0 t1),(V.kill n0 t2),(V.kill n0 v15),(V.kill n0 t4),(V.kill n0 t5),(V.kill n0 v17),.junk,.junk,.junk,.junk,.junk,(V.kill n0 tc)],cutH n0 h18⟩) (
  K (.exit 0) ⟨[(V.kill n0 t0),(V.kill n0 t1),(V.kill n0 t2),(V.kill n0 t3),(V.kill n0 t4),(V.kill n0 t5),.junk,.junk,.junk,.junk,.junk,.junk,(V.kill n0 tc)],cutH n0 h12⟩) :=
  itX_step (go_seq (go_reg0
  (go_op0 rfl rfl (st_bm (by kernel_rfl) fun v11 h12 =>
  (go_end0 (by kernel_rfl)
  (go_seq (go_cond (by kernel_rfl)
  (go_skip (go_seq (go_block (go_reg0
  (go_op0 rfl rfl (st_id (v := t3) (H := h12) (by kernel_rfl)
  (go_op0 rfl rfl (st_bp (by kernel_rfl) fun v13 h14 =>
  (go_op0 rfl rfl (st_bp (by kernel_rfl) fun v15 h16 =>
  (go_op0 rfl rfl (st_id (v := v15) (H := h16) (by kernel_rfl)
  (go_end0 (by kernel_rfl)
  (rt_block_norm (go_reg0
  (go_op0 rfl rfl (st_bm (by kernel_rfl) fun v17 h18 =>
  (go_op0 rfl rfl (st_id (v := v17) (H := h18) (by kernel_rfl)
  (go_end0 (by kernel_rfl)
  (by kernel_rfl)))))))))))))))))))))
  (go_exit (rt_seq_exit (by kernel_rfl))))))))))
theorem xj15_0 (s : Sys) (k wl : Nat) (h : Hp) : runK (xX s 15 wl k false) (bodyK s.P Try.f15) xk15_0 (.exit 0) ⟨[t0,t1,t2,t3,t4,t5,t6,t7,t8,t9,ta,tb,tc],h⟩ =
  some (t3,h) :=
  (rt_block_eq (go_seq (go_reg0
  (go_op0 rfl rfl (st_id (v := t3) (H := h) (by kernel_rfl)
  (go_op0 rfl rfl (st_id (v := t3) (H := h) (by kernel_rfl)
  (go_end0 (by kernel_rfl)
  (go_ret (by kernel_rfl))))))))))
theorem xk15_0_ret (cx : Cx) (K : Out → St → Option (V × Hp)) (s : St) : runK cx K xk15_0 .ret s = K .ret s := by kernel_rfl
-- names: xb15,xz15,xr15_0,xj15_0,xk15_0_ret

theorem xb17 (s : Sys) (k wl : Nat) (h : Hp) : bodyV (xX s 17 wl k false) Try.f17 [t0,t1] h =
  bp (callV (xX s 17 wl k false) false true (.fn (.func 41) [] []) [t0,t1] h) fun v1 h2 =>
  bm (vUn .not v1) h2 fun v3 h4 =>
  cnd v3 (
  some ((V.lit (Value.int .u64 0)),h4)) (
  bm (vIndexAddr s.P 26 t0 t1 h4) h4 fun v5 h6 =>
  bm (vLoad s.P 28 v5 h6) h6 fun v7 h8 =>
  some (v7,h8)) :=
  bodyV_run rfl (go_seq (go_reg0
  (go_op0 rfl rfl (st_id (v := (V.lit (Value.int .u64 0))) (H := h) (by kernel_rfl)
  (go_end0 (by kernel_rfl)
  (go_seq (go_seq (go_reg0
  (go_op0 rfl rfl (st_id (v := t0) (H := h) (by kernel_rfl)
  (go_op0 rfl rfl (st_id (v := t1) (H := h) (by kernel_rfl)
  (go_op0 rfl rfl (st_bp (by kernel_rfl) fun v1 h2 =>
  (go_op0 rfl rfl (st_bm (by kernel_rfl) fun v3 h4 =>
  (go_end0 (by kernel_rfl)
  (go_cond (by kernel_rfl)
  (go_seq (go_reg0
  (go_op0 rfl rfl (st_id (v := (V.lit (Value.int .u64 0))) (H := h4) (by kernel_rfl)
  (go_end0 (by kernel_rfl)
  (go_ret (rt_seq_ret (by kernel_rfl))))))))
  (go_skip (go_seq (go_reg0
  (go_op0 rfl rfl (st_id (v := t0) (H := h4) (by kernel_rfl)
  (go_op0 rfl rfl (st_id (v := t1) (H := h4) (by kernel_rfl)
  (go_op0 rfl rfl (st_bm (by kernel_rfl) fun v5 h6 =>
  (go_op0 rfl rfl (st_bm (by kernel_rfl) fun v7 h8 =>
  (go_op0 rfl rfl (st_id (v := v7) (H := h8) (by kernel_rfl)
  (go_end0 (by kernel_rfl)
  (go_ret (by kernel_rfl))))))))))))))))))))))))))))))))))
theorem xe17 (k wl : Nat) (h : Hp) : evF Try.prog xM (k + 1) wl 17 [t0,t1] h = bodyV (xX (xS k) 17 wl k false) Try.f17 [t0,t1] h := by kernel_rfl
-- names: xb17,

theorem xb18 (s : Sys) (k wl : Nat) (h : Hp) : bodyV (xX s 18 wl k false) Try.f18 [t0,t1,t2] h =
  bp (opBox t2 h) fun v1 h2 =>
  bp (some (.own h2.length 0 0,h2 ++ [.rows 0 [] 0 true])) fun v3 h4 =>
  bp (callV (xX s 18 wl k false) false true (.fn (.func 42) [] []) [t0,t1,(.fn (.func 43) [] [v1])] h4) fun v5 h6 =>
  bm (vExtract v5 0) h6 fun v7 h8 =>
  bm (vExtract v5 1) h8 fun v9 h10 =>
  some (v7,h10) :=
  bodyV_run rfl (go_seq (go_reg0
  (go_op0 rfl rfl (st_bp (by kernel_rfl) fun v1 h2 =>
  (go_op0 rfl rfl (st_bp (by kernel_rfl) fun v3 h4 =>
  (go_end0 (by kernel_rfl)
  (go_seq (go_reg0
  (go_op0 rfl rfl (st_id (v := t0) (H := h4) (by kernel_rfl)
  (go_op0 rfl rfl (st_id (v := t1) (H := h4) (by kernel_rfl)
  (go_op0 rfl rfl (st_id (v := (.fn (.func 43) [] [v1])) (H := h4) (by kernel_rfl)
  (go_op0 rfl rfl (st_bp (by kernel_rfl) fun v5 h6 =>
  (go_op0 rfl rfl (st_id (v := v5) (H := h6) (by kernel_rfl)
  (go_op0 rfl rfl (st_bm (by kernel_rfl) fun v7 h8 =>
  (go_op0 rfl rfl (st_bm (by kernel_rfl) fun v9 h10 =>
  (go_op0 rfl rfl (st_id (v := v7) (H := h10) (by kernel_rfl)
  (go_op0 rfl rfl (st_id (v := v9) (H := h10) (by kernel_rfl)
  (go_end0 (by kernel_rfl)
  (go_seq (go_reg0
  (go_op0 rfl rfl (st_id (v := v7) (H := h10) (by kernel_rfl)
  (go_op0 rfl rfl (st_id (v := v7) (H := h10) (by kernel_rfl)
  (go_end0 (by kernel_rfl)
  (go_ret (by kernel_rfl)))))))))))))))))))))))))))))))))))))
theorem xe18 (k wl : Nat) (h : Hp) : evF Try.prog xM (k + 1) wl 18 [t0,t1,t2] h = bodyV (xX (xS k) 18 wl k false) Try.f18 [t0,t1,t2] h := by kernel_rfl
-- names: xb18,

theorem xb28 (s : Sys) (k wl : Nat) (h : Hp) : bodyV (xX s 28 wl k false) Try.f28 [t0] h =
  bp (opBox t0 h) fun v1 h2 =>
  bm (vFieldAddr s.P 30 v1 6) h2 fun v3 h4 =>
  bm (vLoad s.P 3 v3 h4) h4 fun v5 h6 =>
  bm (vBin s.P .neq 3 v5 (V.lit (Value.int .i64 0))) h6 fun v7 h8 =>
  some (v7,h8) :=
  bodyV_run rfl (go_seq (go_reg0
  (go_op0 rfl rfl (st_bp (by kernel_rfl) fun v1 h2 =>
  (go_op0 rfl rfl (st_id (v := (V.lit (Value.bool false))) (H := h2) (by kernel_rfl)
  (go_end0 (by kernel_rfl)
  (go_seq (go_reg0
  (go_op0 rfl rfl (st_bm (by kernel_rfl) fun v3 h4 =>
  (go_op0 rfl rfl (st_bm (by kernel_rfl) fun v5 h6 =>
  (go_op0 rfl rfl (st_bm (by kernel_rfl) fun v7 h8 =>
  (go_op0 rfl rfl (st_id (v := v7) (H := h8) (by kernel_rfl)
  (go_end0 (by kernel_rfl)
  (go_ret (by kernel_rfl))))))))))))))))))))
theorem xe28 (k wl : Nat) (h : Hp) : evF Try.prog xM (k + 1) wl 28 [t0] h = bodyV (xX (xS k) 28 wl k false) Try.f28 [t0] h := by kernel_rfl
-- names: xb28,

theorem xb31 (s : Sys) (k wl : Nat) (h : Hp) : bodyV (xX s 31 wl k false) Try.f31 [t0,t1,t2] h =
  bp (opBox t2 h) fun v1 h2 =>
  bp (some (.own h2.length 0 0,h2 ++ [.rows 0 [] 0 true])) fun v3 h4 =>
  bp (callV (xX s 31 wl k false) false true (.fn (.func 42) [] []) [t0,t1,(.fn (.func 48) [] [v1])] h4) fun v5 h6 =>
  bm (vExtract v5 0) h6 fun v7 h8 =>
  bm (vExtract v5 1) h8 fun v9 h10 =>
  some (.tup [v7,v9],h10) :=
  bodyV_run rfl (go_seq (go_reg0
  (go_op0 rfl rfl (st_bp (by kernel_rfl) fun v1 h2 =>
  (go_op0 rfl rfl (st_bp (by kernel_rfl) fun v3 h4 =>
  (go_op0 rfl rfl (st_id (v := (V.lit (Value.int .u64 0))) (H := h4) (by kernel_rfl)
  (go_end0 (by kernel_rfl)
  (go_seq (go_reg0
  (go_op0 rfl rfl (st_id (v := t0) (H := h4) (by kernel_rfl)
  (go_op0 rfl rfl (st_id (v := t1) (H := h4) (by kernel_rfl)
  (go_op0 rfl rfl (st_id (v := (.fn (.func 48) [] [v1])) (H := h4) (by kernel_rfl)
  (go_op0 rfl rfl (st_bp (by kernel_rfl) fun v5 h6 =>
  (go_op0 rfl rfl (st_bm (by kernel_rfl) fun v7 h8 =>
  (go_op0 rfl rfl (st_bm (by kernel_rfl) fun v9 h10 =>
  (go_op0 rfl rfl (st_id (v := v7) (H := h10) (by kernel_rfl)
  (go_op0 rfl rfl (st_id (v := v9) (H := h10) (by kernel_rfl)
  (go_end0 (by kernel_rfl)
  (go_ret (by kernel_rfl))))))))))))))))))))))))))))))
theorem xe31 (k wl : Nat) (h : Hp) : evF Try.prog xM (k + 1) wl 31 [t0,t1,t2] h = bodyV (xX (xS k) 31 wl k false) Try.f31 [t0,t1,t2] h := by kernel_rfl
-- names: xb31,

theorem xb32 (s : Sys) (k wl : Nat) (h : Hp) : bodyV (xX s 32 wl k false) Try.f32 [t0,t1,t2] h =
  bp (opAlloc s.P 30 h) fun v1 h2 =>
  bm (vBuild s.P 30 [(0,t0),(2,t1),(3,t2)]) h2 fun v3 h4 =>
  bs (vStore s.P wl 30 v1 v3 h4) fun h5 =>
  resO [vLoad s.P 30 v1 h5] h5 :=
  bodyV_run rfl (go_seq (go_reg0
  (go_op0 rfl rfl (st_bp (by kernel_rfl) fun v1 h2 =>
  (go_end0 (by kernel_rfl)
  (go_seq (go_reg0
  (go_op0 rfl rfl (st_id (v := t0) (H := h2) (by kernel_rfl)
  (go_op0 rfl rfl (st_id (v := t1) (H := h2) (by kernel_rfl)
  (go_op0 rfl rfl (st_id (v := t2) (H := h2) (by kernel_rfl)
  (go_op0 rfl rfl (st_bm (by kernel_rfl) fun v3 h4 =>
  (go_op0 rfl rfl (st_bs (by kernel_rfl) fun h5 =>
  (go_end0 (by kernel_rfl)
  (go_ret (by kernel_rfl))))))))))))))))))))
theorem xe32 (k wl : Nat) (h : Hp) : evF Try.prog xM (k + 1) wl 32 [t0,t1,t2] h = bodyV (xX (xS k) 32 wl k false) Try.f32 [t0,t1,t2] h := by kernel_rfl
-- names: xb32,

theorem xb37 (s : Sys) (k wl : Nat) (h : Hp) : bodyV (xX s 37 wl k false) Try.f37 [t0] h =
  bp (opBox t0 h) fun v1 h2 =>
  bm (vLoad s.P 23 v1 h2) h2 fun v3 h4 =>
  bp (callV (xX s 37 wl k false) false true (.fn (.func 14) [] []) [v3] h4) fun v5 h6 =>
  bm (vUn .not v5) h6 fun v7 h8 =>
  cnd v7 (
  some ((V.lit (Value.int .i64 0)),h8)) (
  bm (vLoad s.P 23 v1 h8) h8 fun v9 h10 =>
  bm (vFieldAddr s.P 23 v1 0) h10 fun v11 h12 =>
  bm (vLoad s.P 3 v11 h12) h12 fun v13 h14 =>
  bp (callV (xX s 37 wl k false) false true (.fn (.func 49) [] []) [v9,v13] h14) fun v15 h16 =>
  some (v15,h16)) :=
  bodyV_run rfl (go_seq (go_reg0
  (go_op0 rfl rfl (st_bp (by kernel_rfl) fun v1 h2 =>
  (go_op0 rfl rfl (st_id (v := (V.lit (Value.int .i64 0))) (H := h2) (by kernel_rfl)
  (go_end0 (by kernel_rfl)
  (go_seq (go_seq (go_reg0
  (go_op0 rfl rfl (st_bm (by kernel_rfl) fun v3 h4 =>
  (go_op0 rfl rfl (st_bp (by kernel_rfl) fun v5 h6 =>
  (go_op0 rfl rfl (st_bm (by kernel_rfl) fun v7 h8 =>
  (go_end0 (by kernel_rfl)
  (go_cond (by kernel_rfl)
  (go_seq (go_reg0
  (go_op0 rfl rfl (st_id (v := (V.lit (Value.int .i64 0))) (H := h8) (by kernel_rfl)
  (go_end0 (by kernel_rfl)
  (go_ret (rt_seq_ret (by kernel_rfl))))))))
  (go_skip (go_seq (go_reg0
  (go_op0 rfl rfl (st_bm (by kernel_rfl) fun v9 h10 =>
  (go_op0 rfl rfl (st_bm (by kernel_rfl) fun v11 h12 =>
  (go_op0 rfl rfl (st_bm (by kernel_rfl) fun v13 h14 =>
  (go_op0 rfl rfl (st_bp (by kernel_rfl) fun v15 h16 =>
  (go_op0 rfl rfl (st_id (v := v15) (H := h16) (by kernel_rfl)
  (go_end0 (by kernel_rfl)
  (go_ret (by kernel_rfl))))))))))))))))))))))))))))))))))
theorem xe37 (k wl : Nat) (h : Hp) : evF Try.prog xM (k + 1) wl 37 [t0] h = bodyV (xX (xS k) 37 wl k false) Try.f37 [t0] h := by kernel_rfl
-- names: xb37,
noncomputable def xg40_0 : Code := codeAt (bodyOf Try.f40) [1,0]
noncomputable def xk40_0 : List Fr := [.seq (codeAt (bodyOf Try.f40) [1,1])]
theorem xb40 (s : Sys) (k wl : Nat) (h : Hp) : bodyV (xX s 40 wl k false) Try.f40 [t0,t1,t2] h =
  bm (vBin s.P .geq 3 t0 t1) h fun v1 h2 =>
  gd v1 (
  bm (vBin s.P .leq 3 t0 t2) h2 fun v3 h4 =>
  opsP (xX s 40 wl k false) xg40_0 7 h.length ([],[]) (runK (xX s 40 wl k false) (bodyK s.P Try.f40) xk40_0) ⟨[t0,t1,t2,uu,uu,uu,(V.lit (Value.bool false)),t0,t1,v1,(V.lit (Value.bool true)),t0,t2,v3,uu],h4⟩) (
  opsP (xX s 40 wl k false) xg40_0 7 h.length ([],[]) (runK (xX s 40 wl k false) (bodyK s.P Try.f40) xk40_0) ⟨[t0,t1,t2,uu,uu,uu,(V.lit (Value.bool false)),t0,t1,v1,(V.lit (Value.bool false)),uu,uu,uu,uu],h2⟩) (
  opsP (xX s 40 wl k false) xg40_0 5 h.length ([],[]) (runK (xX s 40 wl k false) (bodyK s.P Try.f40) xk40_0) ⟨[t0,t1,t2,uu,uu,uu,(V.lit (Value.bool false)),t0,t1,v1,v1,uu,uu,uu,uu],h2⟩) :=
  bodyV_run rfl (go_seq (go_reg0
  (go_op0 rfl rfl (st_id (v := (V.lit (Value.bool false))) (H := h) (by kernel_rfl)
  (go_end0 (by kernel_rfl)
  (go_seq (go_reg0
  (go_op0 rfl rfl (st_id (v := t0) (H := h) (by kernel_rfl)
  (go_op0 rfl rfl (st_id (v := t1) (H := h) (by kernel_rfl)
  (go_op0 rfl rfl (st_bm (by kernel_rfl) fun v1 h2 =>
  (go_op0 rfl rfl (st_id (v := v1) (H := h2) (by kernel_rfl)
  (go_gdT0 rfl rfl rfl (by kernel_rfl)
  (st_id (v := t0) (H := h2) (by kernel_rfl)
  (go_run0 rfl rfl rfl (by kernel_rfl) (st_id (v := t2) (H := h2) (by kernel_rfl)
  (go_run0 rfl rfl rfl (by kernel_rfl) (st_bm (by kernel_rfl) fun v3 h4 =>
  (by kernel_rfl))))))
  (go_skip0 rfl rfl rfl (by kernel_rfl)
  (go_skip0 rfl rfl rfl (by kernel_rfl)
  (by kernel_rfl)))
  (by kernel_rfl)))))))))))))))))
theorem xe40 (k wl : Nat) (h : Hp) : evF Try.prog xM (k + 1) wl 40 [t0,t1,t2] h = bodyV (xX (xS k) 40 wl k false) Try.f40 [t0,t1,t2] h := by kernel_rfl
theorem xm40_0 (s : Sys) (k wl : Nat) (m0 : Nat) (ac : List Nat × List Nat) (h : Hp) : opsP (xX s 40 wl k false) xg40_0 7 m0 ac (runK (xX s 40 wl k false) (bodyK s.P Try.f40) xk40_0) ⟨[t0,t1,t2,t3,t4,t5,t6,t7,t8,t9,ta,tb,tc,td,te],h⟩ =
  bm (vPick ta td (V.lit (Value.bool false))) h fun v5 h6 =>
  some (v5,h6) :=
  (go_op0 rfl rfl (st_bm (by kernel_rfl) fun v5 h6 =>
  (go_op0 rfl rfl (st_id (v := v5) (H := h6) (by kernel_rfl)
  (go_end0 (by kernel_rfl)
  (go_ret (by kernel_rfl)))))))
theorem xk40_0_ret (cx : Cx) (K : Out → St → Option (V × Hp)) (s : St) : runK cx K xk40_0 .ret s = K .ret s := by kernel_rfl
-- names: xb40,xm40_0,xk40_0_ret
noncomputable def xg41_0 : Code := codeAt (bodyOf Try.f41) [1,0]
noncomputable def xk41_0 : List Fr := [.seq (codeAt (bodyOf Try.f41) [1,1])]
theorem xb41 (s : Sys) (k wl : Nat) (h : Hp) : bodyV (xX s 41 wl k false) Try.f41 [t0,t1] h =
  bm (vBin s.P .geq 3 t1 (V.lit (Value.int .i64 0))) h fun v1 h2 =>
  gd v1 (
  bp (opLen s.P 26 t0 h2) fun v3 h4 =>
  bm (vBin s.P .lss 3 t1 v3) h4 fun v5 h6 =>
  opsP (xX s 41 wl k false) xg41_0 7 h.length ([],[]) (runK (xX s 41 wl k false) (bodyK s.P Try.f41) xk41_0) ⟨[t0,t1,uu,uu,(V.lit (Value.bool false)),t1,v1,(V.lit (Value.bool true)),t1,t0,v3,v5,uu],h6⟩) (
  opsP (xX s 41 wl k false) xg41_0 7 h.length ([],[]) (runK (xX s 41 wl k false) (bodyK s.P Try.f41) xk41_0) ⟨[t0,t1,uu,uu,(V.lit (Value.bool false)),t1,v1,(V.lit (Value.bool false)),uu,uu,uu,uu,uu],h2⟩) (
  opsP (xX s 41 wl k false) xg41_0 4 h.length ([],[]) (runK (xX s 41 wl k false) (bodyK s.P Try.f41) xk41_0) ⟨[t0,t1,uu,uu,(V.lit (Value.bool false)),t1,v1,v1,uu,uu,uu,uu,uu],h2⟩) :=
  bodyV_run rfl (go_seq (go_reg0
  (go_op0 rfl rfl (st_id (v := (V.lit (Value.bool false))) (H := h) (by kernel_rfl)
  (go_end0 (by kernel_rfl)
  (go_seq (go_reg0
  (go_op0 rfl rfl (st_id (v := t1) (H := h) (by kernel_rfl)
  (go_op0 rfl rfl (st_bm (by kernel_rfl) fun v1 h2 =>
  (go_op0 rfl rfl (st_id (v := v1) (H := h2) (by kernel_rfl)
  (go_gdT0 rfl rfl rfl (by kernel_rfl)
  (st_id (v := t1) (H := h2) (by kernel_rfl)
  (go_run0 rfl rfl rfl (by kernel_rfl) (st_id (v := t0) (H := h2) (by kernel_rfl)
  (go_run0 rfl rfl rfl (by kernel_rfl) (st_bp (by kernel_rfl) fun v3 h4 =>
  (go_run0 rfl rfl rfl (by kernel_rfl) (st_bm (by kernel_rfl) fun v5 h6 =>
  (by kernel_rfl))))))))
  (go_skip0 rfl rfl rfl (by kernel_rfl)
  (go_skip0 rfl rfl rfl (by kernel_rfl)
  (go_skip0 rfl rfl rfl (by kernel_rfl)
  (by kernel_rfl))))
  (by kernel_rfl)))))))))))))))
theorem xe41 (k wl : Nat) (h : Hp) : evF Try.prog xM (k + 1) wl 41 [t0,t1] h = bodyV (xX (xS k) 41 wl k false) Try.f41 [t0,t1] h := by kernel_rfl
theorem xm41_0 (s : Sys) (k wl : Nat) (m0 : Nat) (ac : List Nat × List Nat) (h : Hp) : opsP (xX s 41 wl k false) xg41_0 7 m0 ac (runK (xX s 41 wl k false) (bodyK s.P Try.f41) xk41_0) ⟨[t0,t1,t2,t3,t4,t5,t6,t7,t8,t9,ta,tb,tc],h⟩ =
  bm (vPick t7 tb (V.lit (Value.bool false))) h fun v7 h8 =>
  some (v7,h8) :=
  (go_op0 rfl rfl (st_bm (by kernel_rfl) fun v7 h8 =>
  (go_op0 rfl rfl (st_id (v := v7) (H := h8) (by kernel_rfl)
  (go_end0 (by kernel_rfl)
  (go_ret (by kernel_rfl)))))))
theorem xk41_0_ret (cx : Cx) (K : Out → St → Option (V × Hp)) (s : St) : runK cx K xk41_0 .ret s = K .ret s := by kernel_rfl
-- names: xb41,xm41_0,xk41_0_ret
noncomputable def xg42_0 : Code := codeAt (bodyOf Try.f42) [1,1,1,1,0]
theorem xo42_5 : orderIx (opsOf xg42_0) = [0,1,2,3,4,5,6] := by kernel_rfl
theorem xo42_5a : (rgOf (opsOf xg42_0)).any = false := by kernel_rfl
theorem xo42_5r : regOk (opsOf xg42_0) = true := by kernel_rfl
theorem xb42 (s : Sys) (k wl : Nat) (h : Hp) : bodyV (xX s 42 wl k false) Try.f42 [t0,t1,t2] h =
  bp (some (.own h.length 0 0,h ++ [.rows 0 [] 0 true])) fun v1 h2 =>
  bp (callV (xX s 42 wl k false) false true (.fn (.func 21) [] []) [t0] h2) fun v3 h4 =>
  bp (callV (xX s 42 wl k false) false true (.fn (.func 41) [] []) [t0,t1] h4) fun v5 h6 =>
  bm (vUn .not v5) h6 fun v7 h8 =>
  cnd v7 (
  some (.tup [v3,(V.lit (Value.int .u64 0))],h8)) (
  bm (vIndexAddr s.P 26 t0 t1 h8) h8 fun v9 h10 =>
  bm (vLoad s.P 28 v9 h10) h10 fun v11 h12 =>
  bp (callV (xX s 42 wl k false) false true t2 [v11] h12) fun v13 h14 =>
  bm (vIndexAddr s.P 26 v3 t1 h14) h14 fun v15 h16 =>
  bs (vStore s.P wl 28 v15 v13 h16) fun h17 =>
  bm (vIndexAddr s.P 26 t0 t1 h17) h17 fun v18 h19 =>
  bm (vLoad s.P 28 v18 h19) h19 fun v20 h21 =>
  some (.tup [v3,v20],h21)) :=
  bodyV_run rfl (go_seq (go_reg0
  (go_op0 rfl rfl (st_bp (by kernel_rfl) fun v1 h2 =>
  (go_op0 rfl rfl (st_id (v := (V.lit (Value.int .u64 0))) (H := h2) (by kernel_rfl)
  (go_end0 (by kernel_rfl)
  (go_seq (go_reg0
  (go_op0 rfl rfl (st_id (v := t0) (H := h2) (by kernel_rfl)
  (go_op0 rfl rfl (st_bp (by kernel_rfl) fun v3 h4 =>
  (go_op0 rfl rfl (st_id (v := v3) (H := h4) (by kernel_rfl)
  (go_end0 (by kernel_rfl)
  (go_seq (go_seq (go_reg0
  (go_op0 rfl rfl (st_id (v := t0) (H := h4) (by kernel_rfl)
  (go_op0 rfl rfl (st_id (v := t1) (H := h4) (by kernel_rfl)
  (go_op0 rfl rfl (st_bp (by kernel_rfl) fun v5 h6 =>
  (go_op0 rfl rfl (st_bm (by kernel_rfl) fun v7 h8 =>
  (go_end0 (by kernel_rfl)
  (go_cond (by kernel_rfl)
  (go_seq (go_reg0
  (go_op0 rfl rfl (st_id (v := v3) (H := h8) (by kernel_rfl)
  (go_op0 rfl rfl (st_id (v := v3) (H := h8) (by kernel_rfl)
  (go_op0 rfl rfl (st_id (v := (V.lit (Value.int .u64 0))) (H := h8) (by kernel_rfl)
  (go_end0 (by kernel_rfl)
  (go_ret (rt_seq_ret (by kernel_rfl))))))))))))
  (go_skip (go_seq (go_reg0
  (go_op0 rfl rfl (st_id (v := v3) (H := h8) (by kernel_rfl)
  (go_op0 rfl rfl (st_id (v := t1) (H := h8) (by kernel_rfl)
  (go_op0 rfl rfl (st_id (v := t2) (H := h8) (by kernel_rfl)
  (go_op0 rfl rfl (st_id (v := t0) (H := h8) (by kernel_rfl)
  (go_op0 rfl rfl (st_id (v := t1) (H := h8) (by kernel_rfl)
  (go_op0 rfl rfl (st_bm (by kernel_rfl) fun v9 h10 =>
  (go_op0 rfl rfl (st_bm (by kernel_rfl) fun v11 h12 =>
  (go_op0 rfl rfl (st_bp (by kernel_rfl) fun v13 h14 =>
  (go_op0 rfl rfl (st_bm (by kernel_rfl) fun v15 h16 =>
  (go_op0 rfl rfl (st_bs (by kernel_rfl) fun h17 =>
  (go_end0 (by kernel_rfl)
  (go_seq (go_reg1 xo42_5r
  (go_op1 xo42_5 xo42_5a rfl rfl rfl (st_no (by kernel_rfl) (st_id (v := v3) (H := h17) (by kernel_rfl)
  (go_op1 xo42_5 xo42_5a rfl rfl rfl (st_no (by kernel_rfl) (st_id (v := t0) (H := h17) (by kernel_rfl)
  (go_op1 xo42_5 xo42_5a rfl rfl rfl (st_no (by kernel_rfl) (st_id (v := t1) (H := h17) (by kernel_rfl)
  (go_op1 xo42_5 xo42_5a rfl rfl rfl (st_no (by kernel_rfl) (st_bm (by kernel_rfl) fun v18 h19 =>
  (go_op1 xo42_5 xo42_5a rfl rfl rfl (st_no (by kernel_rfl) (st_bm (by kernel_rfl) fun v20 h21 =>
  (go_op1 xo42_5 xo42_5a rfl rfl rfl (st_no (by kernel_rfl) (st_id (v := v3) (H := h21) (by kernel_rfl)
  (go_op1 xo42_5 xo42_5a rfl rfl rfl (st_no (by kernel_rfl) (st_id (v := v20) (H := h21) (by kernel_rfl)
  (go_end1 xo42_5 (by kernel_rfl) xo42_5a
  (go_ret (by kernel_rfl)))))))))))))))))))))))))))))))))))))))))))))))))))))))))))))))))))))))))))))))
theorem xe42 (k wl : Nat) (h : Hp) : evF Try.prog xM (k + 1) wl 42 [t0,t1,t2] h = bodyV (xX (xS k) 42 wl k false) Try.f42 [t0,t1,t2] h := by kernel_rfl
-- names: xb42,

theorem xb43 (s : Sys) (k wl : Nat) (h : Hp) : bodyV (xX s 43 wl k false) Try.f43 [t0,t1] h =
  bm (vLoad s.P 28 t1 h) h fun v1 h2 =>
  some (v1,h2) :=
  bodyV_run rfl (go_seq (go_reg0
  (go_op0 rfl rfl (st_id (v := (V.lit (Value.int .u64 0))) (H := h) (by kernel_rfl)
  (go_end0 (by kernel_rfl)
  (go_seq (go_reg0
  (go_op0 rfl rfl (st_bm (by kernel_rfl) fun v1 h2 =>
  (go_op0 rfl rfl (st_id (v := v1) (H := h2) (by kernel_rfl)
  (go_end0 (by kernel_rfl)
  (go_ret (by kernel_rfl))))))))))))))
theorem xe43 (k wl : Nat) (h : Hp) : evF Try.prog xM (k + 1) wl 43 [t0,t1] h = bodyV (xX (xS k) 43 wl k false) Try.f43 [t0,t1] h := by kernel_rfl
-- names: xb43,

theorem xb48 (s : Sys) (k wl : Nat) (h : Hp) : bodyV (xX s 48 wl k false) Try.f48 [t0,t1] h =
  bm (vLoad s.P 28 t1 h) h fun v1 h2 =>
  bm (vBin s.P .add 28 t0 v1) h2 fun v3 h4 =>
  some (v3,h4) :=
  bodyV_run rfl (go_seq (go_reg0
  (go_op0 rfl rfl (st_id (v := (V.lit (Value.int .u64 0))) (H := h) (by kernel_rfl)
  (go_end0 (by kernel_rfl)
  (go_seq (go_reg0
  (go_op0 rfl rfl (st_id (v := t0) (H := h) (by kernel_rfl)
  (go_op0 rfl rfl (st_bm (by kernel_rfl) fun v1 h2 =>
  (go_op0 rfl rfl (st_bm (by kernel_rfl) fun v3 h4 =>
  (go_op0 rfl rfl (st_id (v := v3) (H := h4) (by kernel_rfl)
  (go_end0 (by kernel_rfl)
  (go_ret (by kernel_rfl))))))))))))))))))
theorem xe48 (k wl : Nat) (h : Hp) : evF Try.prog xM (k + 1) wl 48 [t0,t1] h = bodyV (xX (xS k) 48 wl k false) Try.f48 [t0,t1] h := by kernel_rfl
-- names: xb48,

theorem xb49 (s : Sys) (k wl : Nat) (h : Hp) : bodyV (xX s 49 wl k false) Try.f49 [t0,t1] h =
  bp (opBox t0 h) fun v1 h2 =>
  bm (vFieldAddr s.P 23 v1 2) h2 fun v3 h4 =>
  bm (vLoad s.P 3 v3 h4) h4 fun v5 h6 =>
  bm (vBin s.P .mul 3 (V.lit (Value.int .i64 2)) v5) h6 fun v7 h8 =>
  bm (vBin s.P .add 3 (V.lit (Value.int .i64 6)) v7) h8 fun v9 h10 =>
  bm (vFieldAddr s.P 23 v1 1) h10 fun v11 h12 =>
  bm (vLoad s.P 3 v11 h12) h12 fun v13 h14 =>
  bm (vBin s.P .add 3 (V.lit (Value.int .i64 3)) v13) h14 fun v15 h16 =>
  bm (vBin s.P .mul 3 t1 v15) h16 fun v17 h18 =>
  bm (vBin s.P .add 3 v9 v17) h18 fun v19 h20 =>
  some (v19,h20) :=
  bodyV_run rfl (go_seq (go_reg0
  (go_op0 rfl rfl (st_bp (by kernel_rfl) fun v1 h2 =>
  (go_op0 rfl rfl (st_id (v := (V.lit (Value.int .i64 0))) (H := h2) (by kernel_rfl)
  (go_end0 (by kernel_rfl)
  (go_seq (go_reg0
  (go_op0 rfl rfl (st_bm (by kernel_rfl) fun v3 h4 =>
  (go_op0 rfl rfl (st_bm (by kernel_rfl) fun v5 h6 =>
  (go_op0 rfl rfl (st_bm (by kernel_rfl) fun v7 h8 =>
  (go_op0 rfl rfl (st_bm (by kernel_rfl) fun v9 h10 =>
  (go_op0 rfl rfl (st_id (v := t1) (H := h10) (by kernel_rfl)
  (go_op0 rfl rfl (st_bm (by kernel_rfl) fun v11 h12 =>
  (go_op0 rfl rfl (st_bm (by kernel_rfl) fun v13 h14 =>
  (go_op0 rfl rfl (st_bm (by kernel_rfl) fun v15 h16 =>
  (go_op0 rfl rfl (st_bm (by kernel_rfl) fun v17 h18 =>
  (go_op0 rfl rfl (st_bm (by kernel_rfl) fun v19 h20 =>
  (go_op0 rfl rfl (st_id (v := v19) (H := h20) (by kernel_rfl)
  (go_end0 (by kernel_rfl)
  (go_ret (by kernel_rfl))))))))))))))))))))))))))))))))))
theorem xe49 (k wl : Nat) (h : Hp) : evF Try.prog xM (k + 1) wl 49 [t0,t1] h = bodyV (xX (xS k) 49 wl k false) Try.f49 [t0,t1] h := by kernel_rfl
-- names: xb49,
noncomputable def xg61_0 : Code := codeAt (bodyOf Try.f61) [1,1,1,0]
theorem xo61_3 : orderIx (opsOf xg61_0) = [0,1,2,3] := by kernel_rfl
theorem xo61_3a : (rgOf (opsOf xg61_0)).any = false := by kernel_rfl
theorem xo61_3r : regOk (opsOf xg61_0) = true := by kernel_rfl
theorem xb61 (s : Sys) (k wl : Nat) (h : Hp) : bodyV (xX s 61 wl k false) Try.f61 [t0,t1,t2,t3] h =
  bp (opBox t2 h) fun v1 h2 =>
  bp (opBox t3 h2) fun v3 h4 =>
  bp (some (.own h4.length 0 0,h4 ++ [.rows 0 [] 0 true])) fun v5 h6 =>
  bp (opAlloc s.P 4 h6) fun v7 h8 =>
  bs (vStore s.P wl 4 v7 (V.lit (Value.bool false)) h8) fun h9 =>
  bp (callV (xX s 61 wl k false) false true (.fn (.func 42) [] []) [t0,t1,(.fn (.func 86) [] [v1,v7,v3])] h9) fun v10 h11 =>
  bm (vExtract v10 0) h11 fun v12 h13 =>
  bm (vExtract v10 1) h13 fun v14 h15 =>
  bm (vLoad s.P 4 v7 h15) h15 fun v16 h17 =>
  some (.tup [v12,v16],h17) :=
  bodyV_run rfl (go_seq (go_reg0
  (go_op0 rfl rfl (st_bp (by kernel_rfl) fun v1 h2 =>
  (go_op0 rfl rfl (st_bp (by kernel_rfl) fun v3 h4 =>
  (go_op0 rfl rfl (st_bp (by kernel_rfl) fun v5 h6 =>
  (go_op0 rfl rfl (st_id (v := (V.lit (Value.bool false))) (H := h6) (by kernel_rfl)
  (go_end0 (by kernel_rfl)
  (go_seq (go_reg0
  (go_op0 rfl rfl (st_bp (by kernel_rfl) fun v7 h8 =>
  (go_op0 rfl rfl (st_bs (by kernel_rfl) fun h9 =>
  (go_end0 (by kernel_rfl)
  (go_seq (go_reg0
  (go_op0 rfl rfl (st_id (v := t0) (H := h9) (by kernel_rfl)
  (go_op0 rfl rfl (st_id (v := t1) (H := h9) (by kernel_rfl)
  (go_op0 rfl rfl (st_id (v := (.fn (.func 86) [] [v1,v7,v3])) (H := h9) (by kernel_rfl)
  (go_op0 rfl rfl (st_bp (by kernel_rfl) fun v10 h11 =>
  (go_op0 rfl rfl (st_id (v := v10) (H := h11) (by kernel_rfl)
  (go_op0 rfl rfl (st_bm (by kernel_rfl) fun v12 h13 =>
  (go_op0 rfl rfl (st_bm (by kernel_rfl) fun v14 h15 =>
  (go_op0 rfl rfl (st_id (v := v12) (H := h15) (by kernel_rfl)
  (go_op0 rfl rfl (st_id (v := v14) (H := h15) (by kernel_rfl)
  (go_end0 (by kernel_rfl)
  (go_seq (go_reg1 xo61_3r
  (go_op1 xo61_3 xo61_3a rfl rfl rfl (st_no (by kernel_rfl) (st_id (v := v12) (H := h15) (by kernel_rfl)
  (go_op1 xo61_3 xo61_3a rfl rfl rfl (st_no (by kernel_rfl) (st_bm (by kernel_rfl) fun v16 h17 =>
  (go_op1 xo61_3 xo61_3a rfl rfl rfl (st_no (by kernel_rfl) (st_id (v := v12) (H := h17) (by kernel_rfl)
  (go_op1 xo61_3 xo61_3a rfl rfl rfl (st_no (by kernel_rfl) (st_id (v := v16) (H := h17) (by kernel_rfl)
  (go_end1 xo61_3 (by kernel_rfl) xo61_3a
  (go_ret (by kernel_rfl))))))))))))))))))))))))))))))))))))))))))))))))))))))))
theorem xe61 (k wl : Nat) (h : Hp) : evF Try.prog xM (k + 1) wl 61 [t0,t1,t2,t3] h = bodyV (xX (xS k) 61 wl k false) Try.f61 [t0,t1,t2,t3] h := by kernel_rfl
-- names: xb61,

theorem xb63 (s : Sys) (k wl : Nat) (h : Hp) : bodyV (xX s 63 wl k false) Try.f63 [t0,t1,t2] h =
  bp (opBox t0 h) fun v1 h2 =>
  bp (opAlloc s.P 30 h2) fun v3 h4 =>
  bm (vFieldAddr s.P 30 v1 0) h4 fun v5 h6 =>
  bm (vLoad s.P 3 v5 h6) h6 fun v7 h8 =>
  bm (vFieldAddr s.P 30 v1 2) h8 fun v9 h10 =>
  bm (vLoad s.P 3 v9 h10) h10 fun v11 h12 =>
  bm (vBuild s.P 30 [(0,v7),(2,v11),(3,t2),(6,t1)]) h12 fun v13 h14 =>
  bs (vStore s.P wl 30 v3 v13 h14) fun h15 =>
  resO [vLoad s.P 30 v3 h15] h15 :=
  bodyV_run rfl (go_seq (go_reg0
  (go_op0 rfl rfl (st_bp (by kernel_rfl) fun v1 h2 =>
  (go_op0 rfl rfl (st_bp (by kernel_rfl) fun v3 h4 =>
  (go_end0 (by kernel_rfl)
  (go_seq (go_reg0
  (go_op0 rfl rfl (st_bm (by kernel_rfl) fun v5 h6 =>
  (go_op0 rfl rfl (st_bm (by kernel_rfl) fun v7 h8 =>
  (go_op0 rfl rfl (st_bm (by kernel_rfl) fun v9 h10 =>
  (go_op0 rfl rfl (st_bm (by kernel_rfl) fun v11 h12 =>
  (go_op0 rfl rfl (st_id (v := t2) (H := h12) (by kernel_rfl)
  (go_op0 rfl rfl (st_id (v := t1) (H := h12) (by kernel_rfl)
  (go_op0 rfl rfl (st_bm (by kernel_rfl) fun v13 h14 =>
  (go_op0 rfl rfl (st_bs (by kernel_rfl) fun h15 =>
  (go_end0 (by kernel_rfl)
  (go_ret (by kernel_rfl))))))))))))))))))))))))))))
theorem xe63 (k wl : Nat) (h : Hp) : evF Try.prog xM (k + 1) wl 63 [t0,t1,t2] h = bodyV (xX (xS k) 63 wl k false) Try.f63 [t0,t1,t2] h := by kernel_rfl
-- names: xb63,

theorem xb86 (s : Sys) (k wl : Nat) (h : Hp) : bodyV (xX s 86 wl k false) Try.f86 [t0,t1,t2,t3] h =
  bm (vLoad s.P 28 t1 h) h fun v1 h2 =>
  bm (vBin s.P .neq 28 t0 v1) h2 fun v3 h4 =>
  cnd v3 (
  some (t0,h4)) (
  bs (vStore s.P wl 4 t2 (V.lit (Value.bool true)) h4) fun h5 =>
  bm (vLoad s.P 28 t3 h5) h5 fun v6 h7 =>
  some (v6,h7)) :=
  bodyV_run rfl (go_seq (go_reg0
  (go_op0 rfl rfl (st_id (v := (V.lit (Value.int .u64 0))) (H := h) (by kernel_rfl)
  (go_end0 (by kernel_rfl)
  (go_seq (go_seq (go_reg0
  (go_op0 rfl rfl (st_id (v := t0) (H := h) (by kernel_rfl)
  (go_op0 rfl rfl (st_bm (by kernel_rfl) fun v1 h2 =>
  (go_op0 rfl rfl (st_bm (by kernel_rfl) fun v3 h4 =>
  (go_end0 (by kernel_rfl)
  (go_cond (by kernel_rfl)
  (go_seq (go_reg0
  (go_op0 rfl rfl (st_id (v := t0) (H := h4) (by kernel_rfl)
  (go_op0 rfl rfl (st_id (v := t0) (H := h4) (by kernel_rfl)
  (go_end0 (by kernel_rfl)
  (go_ret (rt_seq_ret (by kernel_rfl))))))))))
  (go_skip (go_seq (go_reg0
  (go_op0 rfl rfl (st_bs (by kernel_rfl) fun h5 =>
  (go_end0 (by kernel_rfl)
  (go_seq (go_reg0
  (go_op0 rfl rfl (st_bm (by kernel_rfl) fun v6 h7 =>
  (go_op0 rfl rfl (st_id (v := v6) (H := h7) (by kernel_rfl)
  (go_end0 (by kernel_rfl)
  (go_ret (by kernel_rfl)))))))))))))))))))))))))))))))
theorem xe86 (k wl : Nat) (h : Hp) : evF Try.prog xM (k + 1) wl 86 [t0,t1,t2,t3] h = bodyV (xX (xS k) 86 wl k false) Try.f86 [t0,t1,t2,t3] h := by kernel_rfl
-- names: xb86,
end Go.Ab
