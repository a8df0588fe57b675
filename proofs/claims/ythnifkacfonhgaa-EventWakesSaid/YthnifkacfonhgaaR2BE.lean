/- The program's code,point by point: printed by gen.py. -/
import Derived.Test.YthnifkacfonhgaaR2Seat
set_option linter.unusedVariables false
set_option linter.unusedSimpArgs false
set_option maxRecDepth 100000
set_option linter.unusedVariables false
namespace Go.Ab
open Go.Proofs

theorem xb82 (s : Sys) (k wl : Nat) (t0 : V) (h : Hp) : bodyV (xX s 82 wl k false) Try.f82 [t0] h =
  bp (opAlloc s.P 23 h) fun v1 h2 =>
  bm (vBuild s.P 23 [(0,t0),(1,(V.lit (Value.int .i64 1))),(2,(V.lit (Value.int .i64 1)))]) h2 fun v3 h4 =>
  bs (vStore s.P wl 23 v1 v3 h4) fun h5 =>
  resO [vLoad s.P 23 v1 h5] h5 :=
  bodyV_run rfl (go_seq (go_reg0
  (go_op0 rfl rfl (st_bp (by kernel_rfl) fun v1 h2 =>
  (go_end0 (by kernel_rfl)
  (go_seq (go_reg0
  (go_op0 rfl rfl (st_id (v := t0) (H := h2) (by kernel_rfl)
  (go_op0 rfl rfl (st_bm (by kernel_rfl) fun v3 h4 =>
  (go_op0 rfl rfl (st_bs (by kernel_rfl) fun h5 =>
  (go_end0 (by kernel_rfl)
  (go_ret (by kernel_rfl))))))))))))))))
theorem xe82 (k wl : Nat) (t0 : V) (h : Hp) : evF Try.prog xM (k + 1) wl 82 [t0] h = bodyV (xX (xS k) 82 wl k false) Try.f82 [t0] h := by kernel_rfl
-- names: xb82,

theorem xb86 (s : Sys) (k wl : Nat) (t0 t1 : V) (h : Hp) : bodyV (xX s 86 wl k false) Try.f86 [t0,t1] h =
  bp (opBox t0 h) fun v1 h2 =>
  bp (opBox t1 h2) fun v3 h4 =>
  some ((.fn (.func 100) [] [v1,v3]),h4) :=
  bodyV_run rfl (go_seq (go_reg0
  (go_op0 rfl rfl (st_bp (by kernel_rfl) fun v1 h2 =>
  (go_op0 rfl rfl (st_bp (by kernel_rfl) fun v3 h4 =>
  (go_op0 rfl rfl (st_id (v := (constV Value.nilFunc)) (H := h4) (by kernel_rfl)
  (go_end0 (by kernel_rfl)
  (go_seq (go_reg0
  (go_op0 rfl rfl (st_id (v := (.fn (.func 100) [] [v1,v3])) (H := h4) (by kernel_rfl)
  (go_op0 rfl rfl (st_id (v := (.fn (.func 100) [] [v1,v3])) (H := h4) (by kernel_rfl)
  (go_end0 (by kernel_rfl)
  (go_ret (by kernel_rfl))))))))))))))))))
theorem xe86 (k wl : Nat) (t0 t1 : V) (h : Hp) : evF Try.prog xM (k + 1) wl 86 [t0,t1] h = bodyV (xX (xS k) 86 wl k false) Try.f86 [t0,t1] h := by kernel_rfl
-- names: xb86,
noncomputable def xl87_0 : Code := codeAt (bodyOf Try.f87) [1,0,1,0,0]
noncomputable def xk87_0 : List Fr := [.block 0,.seq (codeAt (bodyOf Try.f87) [1,1])]
theorem xb87 (s : Sys) (k wl : Nat) (t0 t1 : V) (h : Hp) : bodyV (xX s 87 wl k false) Try.f87 [t0,t1] h =
  bp (opLen s.P 51 t0 h) fun v1 h2 =>
  itX (xX s 87 wl k false) xl87_0 h2.length (runK (xX s 87 wl k false) (bodyK s.P Try.f87) xk87_0) k ⟨[(V.kill h2.length t0),(V.kill h2.length t1),(V.kill h2.length uu),(V.kill h2.length uu),(V.lit (Value.int .i64 0)),(V.kill h2.length uu),(V.kill h2.length t0),(V.kill h2.length v1),(V.lit (Value.int .i64 0)),.junk,.junk,.junk,.junk,.junk,.junk,.junk,.junk,.junk,.junk],cutH h2.length h2⟩ :=
  bodyV_run rfl (go_seq (go_reg0
  (go_op0 rfl rfl (st_id (v := (V.lit (Value.int .i64 0))) (H := h) (by kernel_rfl)
  (go_end0 (by kernel_rfl)
  (go_seq (go_seq (go_reg0
  (go_op0 rfl rfl (st_id (v := t0) (H := h) (by kernel_rfl)
  (go_op0 rfl rfl (st_bp (by kernel_rfl) fun v1 h2 =>
  (go_op0 rfl rfl (st_id (v := (V.lit (Value.int .i64 0))) (H := h2) (by kernel_rfl)
  (go_end0 (by kernel_rfl)
  (go_block (by kernel_rfl)))))))))))))))))
theorem xe87 (k wl : Nat) (t0 t1 : V) (h : Hp) : evF Try.prog xM (k + 1) wl 87 [t0,t1] h = bodyV (xX (xS k) 87 wl k false) Try.f87 [t0,t1] h := by kernel_rfl
theorem xz87 (P : Program) (t0 t1 t2 t3 t4 t5 t6 t7 t8 t9 t10 t11 t12 t13 t14 t15 t16 t17 t18 : V) (h : Hp) : bodyK P Try.f87 .ret ⟨[t0,t1,t2,t3,t4,t5,t6,t7,t8,t9,t10,t11,t12,t13,t14,t15,t16,t17,t18],h⟩ = some (t4,h) := by kernel_rfl
theorem xr87_0 (s : Sys) (K : Out → St → Option (V × Hp)) (k wl : Nat) (rd : Bool) (n n0 : Nat) (t0 t1 t2 t3 t4 t5 t6 t7 t8 t9 t10 t11 t12 t13 t14 t15 t16 t17 t18 : V) (h : Hp) : itX (xX s 87 wl k rd) xl87_0 n0 K (n + 1) ⟨[t0,t1,t2,t3,t4,t5,t6,t7,t8,t9,t10,t11,t12,t13,t14,t15,t16,t17,t18],h⟩ =
  bm (vBin s.P .lss 3 t8 t7) h fun v3 h4 =>
  cnd v3 (
  bm (vIndexAddr s.P 51 t0 t8 h4) h4 fun v5 h6 =>
  bm (vLoad s.P 3 v5 h6) h6 fun v7 h8 =>
  bp (callV (xX s 87 wl k rd) false true t1 [v7] h8) fun v9 h10 =>
  cnd v9 (
  K .ret ⟨[t0,t1,t2,t3,t8,t8,t6,t7,t8,v3,t8,t1,t0,t8,v5,v7,v9,t8,t18],h10⟩) (
  bm (vBin s.P .add 3 t8 (V.lit (Value.int .i64 1))) h10 fun v11 h12 =>
  itX (xX s 87 wl k rd) xl87_0 n0 K n ⟨[(V.kill n0 t0),(V.kill n0 t1),(V.kill n0 t2),(V.kill n0 t3),(V.kill n0 t4),(V.kill n0 t8),(V.kill n0 t6),(V.kill n0 t7),(V.kill n0 v11),.junk,.junk,.junk,.junk,.junk,.junk,.junk,.junk,.junk,.junk],cutH n0 h12⟩)) (
  K (.exit 0) ⟨[(V.kill n0 t0),(V.kill n0 t1),(V.kill n0 t2),(V.kill n0 t3),(V.kill n0 t4),(V.kill n0 t5),(V.kill n0 t6),(V.kill n0 t7),.junk,.junk,.junk,.junk,.junk,.junk,.junk,.junk,.junk,.junk,.junk],cutH n0 h4⟩) :=
  itX_step (go_seq (go_reg0
  (go_op0 rfl rfl (st_bm (by kernel_rfl) fun v3 h4 =>
  (go_end0 (by kernel_rfl)
  (go_seq (go_cond (by kernel_rfl)
  (go_skip (go_seq (go_block (go_seq (go_reg0
  (go_op0 rfl rfl (st_id (v := t8) (H := h4) (by kernel_rfl)
  (go_op0 rfl rfl (st_id (v := t8) (H := h4) (by kernel_rfl)
  (go_end0 (by kernel_rfl)
  (go_seq (go_reg0
  (go_op0 rfl rfl (st_id (v := t1) (H := h4) (by kernel_rfl)
  (go_op0 rfl rfl (st_id (v := t0) (H := h4) (by kernel_rfl)
  (go_op0 rfl rfl (st_id (v := t8) (H := h4) (by kernel_rfl)
  (go_op0 rfl rfl (st_bm (by kernel_rfl) fun v5 h6 =>
  (go_op0 rfl rfl (st_bm (by kernel_rfl) fun v7 h8 =>
  (go_op0 rfl rfl (st_bp (by kernel_rfl) fun v9 h10 =>
  (go_end0 (by kernel_rfl)
  (go_cond (by kernel_rfl)
  (go_seq (go_reg0
  (go_op0 rfl rfl (st_id (v := t8) (H := h10) (by kernel_rfl)
  (go_op0 rfl rfl (st_id (v := t8) (H := h10) (by kernel_rfl)
  (go_end0 (by kernel_rfl)
  (go_ret (rt_block_ret (rt_seq_ret (by kernel_rfl)))))))))))
  (go_skip (rt_block_norm (go_reg0
  (go_op0 rfl rfl (st_bm (by kernel_rfl) fun v11 h12 =>
  (go_op0 rfl rfl (st_id (v := v11) (H := h12) (by kernel_rfl)
  (go_end0 (by kernel_rfl)
  (by kernel_rfl)))))))))))))))))))))))))))))))))))
  (go_exit (rt_seq_exit (by kernel_rfl))))))))))
theorem xj87_0 (s : Sys) (k wl : Nat) (t0 t1 t2 t3 t4 t5 t6 t7 t8 t9 t10 t11 t12 t13 t14 t15 t16 t17 t18 : V) (h : Hp) : runK (xX s 87 wl k false) (bodyK s.P Try.f87) xk87_0 (.exit 0) ⟨[t0,t1,t2,t3,t4,t5,t6,t7,t8,t9,t10,t11,t12,t13,t14,t15,t16,t17,t18],h⟩ =
  some ((V.lit (Value.int .i64 (-1))),h) :=
  (rt_block_eq (go_seq (go_reg0
  (go_op0 rfl rfl (st_id (v := (V.lit (Value.int .i64 (-1)))) (H := h) (by kernel_rfl)
  (go_end0 (by kernel_rfl)
  (go_ret (by kernel_rfl))))))))
theorem xk87_0_ret (cx : Cx) (K : Out → St → Option (V × Hp)) (s : St) : runK cx K xk87_0 .ret s = K .ret s := by kernel_rfl
-- names: xb87,xz87,xr87_0,xj87_0,xk87_0_ret
noncomputable def xk88_0 : List Fr := [.seq (codeAt (bodyOf Try.f88) [1,0,1,0,1,1,1]),.block 0,.seq (codeAt (bodyOf Try.f88) [1,1])]
noncomputable def xg88_0 : Code := codeAt (bodyOf Try.f88) [1,1,0]
theorem xo88_7 : orderIx (opsOf xg88_0) = [0,1,2,3,4] := by kernel_rfl
theorem xo88_7a : (rgOf (opsOf xg88_0)).any = false := by kernel_rfl
theorem xo88_7r : regOk (opsOf xg88_0) = true := by kernel_rfl
theorem xb88 (s : Sys) (k wl : Nat) (t0 t1 t2 : V) (h : Hp) : bodyV (xX s 88 wl k false) Try.f88 [t0,t1,t2] h =
  bp (opBox t0 h) fun v1 h2 =>
  bp (opBox t2 h2) fun v3 h4 =>
  bp (some (.own h4.length 0 0,h4 ++ [.rows 0 [] 0 true])) fun v5 h6 =>
  bp (opAlloc s.P 28 h6) fun v7 h8 =>
  bm (vFieldAddr s.P 28 v3 0) h8 fun v9 h10 =>
  bm (vLoad s.P 3 v9 h10) h10 fun v11 h12 =>
  bm (vBin s.P .eql 3 v11 (V.lit (Value.int .i64 5))) h12 fun v13 h14 =>
  cnd v13 (
  bm (vLoad s.P 23 v1 h14) h14 fun v15 h16 =>
  bm (vLoad s.P 28 v3 h16) h16 fun v17 h18 =>
  bp (callV (xX s 88 wl k false) false true (.fn (.func 21) [] []) [v15,t1,v17] h18) fun v19 h20 =>
  bm (vExtract v19 0) h20 fun v21 h22 =>
  bm (vExtract v19 1) h22 fun v23 h24 =>
  bs (vStore s.P wl 28 v7 v23 h24) fun h25 =>
  resO [some v21,vLoad s.P 28 v7 h25] h25) (
  bm (vBin s.P .eql 3 v11 (V.lit (Value.int .i64 6))) h14 fun v26 h27 =>
  cnd v26 (
  runK (xX s 88 wl k false) (bodyK s.P Try.f88) xk88_0 .norm ⟨[t0,t1,t2,v1,uu,v3,v5,v7,v9,v11,v13,v13,uu,uu,uu,uu,uu,uu,v26,v26,uu,uu,uu,uu,uu,uu,uu,uu,uu,uu],h27⟩) (
  bm (vBin s.P .eql 3 v11 (V.lit (Value.int .i64 7))) h27 fun v28 h29 =>
  runK (xX s 88 wl k false) (bodyK s.P Try.f88) xk88_0 .norm ⟨[t0,t1,t2,v1,uu,v3,v5,v7,v9,v11,v13,v13,uu,uu,uu,uu,uu,uu,v28,v26,v28,uu,uu,uu,uu,uu,uu,uu,uu,uu],h29⟩)) :=
  bodyV_run rfl (go_seq (go_reg0
  (go_op0 rfl rfl (st_bp (by kernel_rfl) fun v1 h2 =>
  (go_op0 rfl rfl (st_bp (by kernel_rfl) fun v3 h4 =>
  (go_op0 rfl rfl (st_bp (by kernel_rfl) fun v5 h6 =>
  (go_op0 rfl rfl (st_bp (by kernel_rfl) fun v7 h8 =>
  (go_end0 (by kernel_rfl)
  (go_seq (go_seq (go_reg0
  (go_op0 rfl rfl (st_bm (by kernel_rfl) fun v9 h10 =>
  (go_op0 rfl rfl (st_bm (by kernel_rfl) fun v11 h12 =>
  (go_end0 (by kernel_rfl)
  (go_block (go_seq (go_reg0
  (go_op0 rfl rfl (st_bm (by kernel_rfl) fun v13 h14 =>
  (go_op0 rfl rfl (st_id (v := v13) (H := h14) (by kernel_rfl)
  (go_end0 (by kernel_rfl)
  (go_cond (by kernel_rfl)
  (go_seq (go_reg0
  (go_op0 rfl rfl (st_bm (by kernel_rfl) fun v15 h16 =>
  (go_op0 rfl rfl (st_id (v := t1) (H := h16) (by kernel_rfl)
  (go_op0 rfl rfl (st_bm (by kernel_rfl) fun v17 h18 =>
  (go_op0 rfl rfl (st_bp (by kernel_rfl) fun v19 h20 =>
  (go_op0 rfl rfl (st_bm (by kernel_rfl) fun v21 h22 =>
  (go_op0 rfl rfl (st_bm (by kernel_rfl) fun v23 h24 =>
  (go_op0 rfl rfl (st_id (v := v21) (H := h24) (by kernel_rfl)
  (go_op0 rfl rfl (st_bs (by kernel_rfl) fun h25 =>
  (go_end0 (by kernel_rfl)
  (go_ret (rt_block_ret (rt_seq_ret (by kernel_rfl)))))))))))))))))))))))
  (go_seq (go_seq (go_reg0
  (go_op0 rfl rfl (st_bm (by kernel_rfl) fun v26 h27 =>
  (go_op0 rfl rfl (st_id (v := v26) (H := h27) (by kernel_rfl)
  (go_end0 (by kernel_rfl)
  (go_cond (by kernel_rfl)
  (go_skip (by kernel_rfl))
  (go_reg0
  (go_op0 rfl rfl (st_bm (by kernel_rfl) fun v28 h29 =>
  (go_op0 rfl rfl (st_id (v := v28) (H := h29) (by kernel_rfl)
  (go_end0 (by kernel_rfl)
  (by kernel_rfl))))))))))))))))))))))))))))))))))))))))))))
theorem xe88 (k wl : Nat) (t0 t1 t2 : V) (h : Hp) : evF Try.prog xM (k + 1) wl 88 [t0,t1,t2] h = bodyV (xX (xS k) 88 wl k false) Try.f88 [t0,t1,t2] h := by kernel_rfl
theorem xj88_0 (s : Sys) (k wl : Nat) (t0 t1 t2 t3 t4 t5 t6 t7 t8 t9 t10 t11 t12 t13 t14 t15 t16 t17 t18 t19 t20 t21 t22 t23 t24 t25 t26 t27 t28 t29 : V) (h : Hp) : runK (xX s 88 wl k false) (bodyK s.P Try.f88) xk88_0 .norm ⟨[t0,t1,t2,t3,t4,t5,t6,t7,t8,t9,t10,t11,t12,t13,t14,t15,t16,t17,t18,t19,t20,t21,t22,t23,t24,t25,t26,t27,t28,t29],h⟩ =
  cnd t18 (
  bm (vLoad s.P 23 t3 h) h fun v30 h31 =>
  bm (vLoad s.P 28 t5 h31) h31 fun v32 h33 =>
  bp (callV (xX s 88 wl k false) false true (.fn (.func 37) [] []) [v30,t1,v32] h33) fun v34 h35 =>
  bm (vExtract v34 0) h35 fun v36 h37 =>
  bm (vExtract v34 1) h37 fun v38 h39 =>
  bs (vStore s.P wl 28 t7 v38 h39) fun h40 =>
  resO [some v36,vLoad s.P 28 t7 h40] h40) (
  bp (callV (xX s 88 wl k false) true true (.fn (.func 50) [] []) [t1] h) fun v41 h42 =>
  stO h.length t5 (
  bm (vLoad s.P 28 t5 h42) h42 fun v43 h44 =>
  bs (vStore s.P wl 28 t7 v43 h44) fun h45 =>
  resO [some v41,vLoad s.P 28 t7 h45] h45)) :=
  (go_cond (by kernel_rfl)
  (go_seq (go_reg0
  (go_op0 rfl rfl (st_bm (by kernel_rfl) fun v30 h31 =>
  (go_op0 rfl rfl (st_id (v := t1) (H := h31) (by kernel_rfl)
  (go_op0 rfl rfl (st_bm (by kernel_rfl) fun v32 h33 =>
  (go_op0 rfl rfl (st_bp (by kernel_rfl) fun v34 h35 =>
  (go_op0 rfl rfl (st_bm (by kernel_rfl) fun v36 h37 =>
  (go_op0 rfl rfl (st_bm (by kernel_rfl) fun v38 h39 =>
  (go_op0 rfl rfl (st_id (v := v36) (H := h39) (by kernel_rfl)
  (go_op0 rfl rfl (st_bs (by kernel_rfl) fun h40 =>
  (go_end0 (by kernel_rfl)
  (go_ret (rt_block_ret (rt_seq_ret (by kernel_rfl)))))))))))))))))))))))
  (go_skip (rt_block_norm (go_seq (go_reg1 xo88_7r
  (go_op1 xo88_7 xo88_7a rfl rfl rfl (st_no (by kernel_rfl) (st_id (v := t1) (H := h) (by kernel_rfl)
  (go_op1 xo88_7 xo88_7a rfl rfl rfl (st_no (by kernel_rfl) (st_bp (by kernel_rfl) fun v41 h42 =>
  (go_op1 xo88_7 xo88_7a rfl rfl rfl (st_yes (by kernel_rfl) (st_bm (by kernel_rfl) fun v43 h44 =>
  (go_op1 xo88_7 xo88_7a rfl rfl rfl (st_no (by kernel_rfl) (st_id (v := v41) (H := h44) (by kernel_rfl)
  (go_op1 xo88_7 xo88_7a rfl rfl rfl (st_no (by kernel_rfl) (st_bs (by kernel_rfl) fun h45 =>
  (go_end1 xo88_7 (by kernel_rfl) xo88_7a
  (go_ret (by kernel_rfl)))))))))))))))))))))))
theorem xk88_0_ret (cx : Cx) (K : Out → St → Option (V × Hp)) (s : St) : runK cx K xk88_0 .ret s = K .ret s := by kernel_rfl
-- names: xb88,xj88_0,xk88_0_ret
noncomputable def xl100_0 : Code := codeAt (bodyOf Try.f100) [1,0,0]
noncomputable def xk100_0 : List Fr := [.block 0]
noncomputable def xg100_0 : Code := codeAt (bodyOf Try.f100) [1,0,0,1,1,0,0,1,0]
noncomputable def xk100_1 : List Fr := [.seq (codeAt (bodyOf Try.f100) [1,0,0,1,1,0,0,1,1]),.block 1,.seq (codeAt (bodyOf Try.f100) [1,0,0,1,1,1])]
theorem xb100 (s : Sys) (k wl : Nat) (t0 t1 t2 : V) (h : Hp) : bodyV (xX s 100 wl k false) Try.f100 [t0,t1,t2] h =
  bm (vLoad s.P 51 t1 h) h fun v1 h2 =>
  bp (opLen s.P 51 v1 h2) fun v3 h4 =>
  itX (xX s 100 wl k false) xl100_0 h4.length (runK (xX s 100 wl k false) (bodyK s.P Try.f100) xk100_0) k ⟨[(V.kill h4.length t0),(V.kill h4.length t1),(V.kill h4.length t2),(V.kill h4.length uu),(V.kill h4.length uu),(V.kill h4.length uu),(V.kill h4.length v1),(V.kill h4.length v3),(V.lit (Value.int .i64 0)),.junk,.junk,.junk,.junk,.junk,.junk,.junk,.junk,.junk,.junk,.junk,.junk,.junk,.junk,.junk,.junk,.junk],cutH h4.length h4⟩ :=
  bodyV_run rfl (go_seq (go_reg0
  (go_op0 rfl rfl (st_bm (by kernel_rfl) fun v1 h2 =>
  (go_op0 rfl rfl (st_bp (by kernel_rfl) fun v3 h4 =>
  (go_op0 rfl rfl (st_id (v := (V.lit (Value.int .i64 0))) (H := h4) (by kernel_rfl)
  (go_end0 (by kernel_rfl)
  (go_block (by kernel_rfl)))))))))))
theorem xe100 (k wl : Nat) (t0 t1 t2 : V) (h : Hp) : evF Try.prog xM (k + 1) wl 100 [t0,t1,t2] h = bodyV (xX (xS k) 100 wl k false) Try.f100 [t0,t1,t2] h := by kernel_rfl
theorem xz100 (P : Program) (t0 t1 t2 t3 t4 t5 t6 t7 t8 t9 t10 t11 t12 t13 t14 t15 t16 t17 t18 t19 t20 t21 t22 t23 t24 t25 : V) (h : Hp) : bodyK P Try.f100 .ret ⟨[t0,t1,t2,t3,t4,t5,t6,t7,t8,t9,t10,t11,t12,t13,t14,t15,t16,t17,t18,t19,t20,t21,t22,t23,t24,t25],h⟩ = some (.tup [],h) := by kernel_rfl
theorem xr100_0 (s : Sys) (K : Out → St → Option (V × Hp)) (k wl : Nat) (rd : Bool) (n n0 : Nat) (t0 t1 t2 t3 t4 t5 t6 t7 t8 t9 t10 t11 t12 t13 t14 t15 t16 t17 t18 t19 t20 t21 t22 t23 t24 t25 : V) (h : Hp) : itX (xX s 100 wl k rd) xl100_0 n0 K (n + 1) ⟨[t0,t1,t2,t3,t4,t5,t6,t7,t8,t9,t10,t11,t12,t13,t14,t15,t16,t17,t18,t19,t20,t21,t22,t23,t24,t25],h⟩ =
  bm (vBin s.P .lss 3 t8 t7) h fun v5 h6 =>
  cnd v5 (
  bm (vIndexAddr s.P 51 t6 t8 h6) h6 fun v7 h8 =>
  bm (vLoad s.P 3 v7 h8) h8 fun v9 h10 =>
  bm (vBin s.P .geq 3 v9 (V.lit (Value.int .i64 0))) h10 fun v11 h12 =>
  gd v11 (
  bm (vLoad s.P 3 t2 h12) h12 fun v13 h14 =>
  bm (vBin s.P .lss 3 v9 v13) h14 fun v15 h16 =>
  opsP (xX s 100 wl k rd) xg100_0 6 h10.length ([],[]) (runK (xX s 100 wl k rd) (nextK (xX s 100 wl k rd) xl100_0 n0 K n) xk100_1) ⟨[t0,t1,t2,t3,t4,v9,t6,t7,t8,v5,v7,v9,v9,v11,(V.lit (Value.bool true)),v9,v13,v15,t18,t19,t20,t21,t22,t23,t24,t25],h16⟩) (
  opsP (xX s 100 wl k rd) xg100_0 6 h10.length ([],[]) (runK (xX s 100 wl k rd) (nextK (xX s 100 wl k rd) xl100_0 n0 K n) xk100_1) ⟨[t0,t1,t2,t3,t4,v9,t6,t7,t8,v5,v7,v9,v9,v11,(V.lit (Value.bool false)),uu,uu,uu,t18,t19,t20,t21,t22,t23,t24,t25],h12⟩) (
  opsP (xX s 100 wl k rd) xg100_0 4 h10.length ([],[]) (runK (xX s 100 wl k rd) (nextK (xX s 100 wl k rd) xl100_0 n0 K n) xk100_1) ⟨[t0,t1,t2,t3,t4,v9,t6,t7,t8,v5,v7,v9,v9,v11,v11,uu,t16,t17,t18,t19,t20,t21,t22,t23,t24,t25],h12⟩)) (
  K (.exit 0) ⟨[(V.kill n0 t0),(V.kill n0 t1),(V.kill n0 t2),(V.kill n0 t3),(V.kill n0 t4),(V.kill n0 t5),(V.kill n0 t6),(V.kill n0 t7),.junk,.junk,.junk,.junk,.junk,.junk,.junk,.junk,.junk,.junk,.junk,.junk,.junk,.junk,.junk,.junk,.junk,.junk],cutH n0 h6⟩) :=
  itX_step (go_seq (go_reg0
  (go_op0 rfl rfl (st_bm (by kernel_rfl) fun v5 h6 =>
  (go_end0 (by kernel_rfl)
  (go_seq (go_cond (by kernel_rfl)
  (go_skip (go_seq (go_block (go_seq (go_reg0
  (go_op0 rfl rfl (st_bm (by kernel_rfl) fun v7 h8 =>
  (go_op0 rfl rfl (st_bm (by kernel_rfl) fun v9 h10 =>
  (go_op0 rfl rfl (st_id (v := v9) (H := h10) (by kernel_rfl)
  (go_end0 (by kernel_rfl)
  (go_seq (go_reg0
  (go_op0 rfl rfl (st_id (v := v9) (H := h10) (by kernel_rfl)
  (go_op0 rfl rfl (st_bm (by kernel_rfl) fun v11 h12 =>
  (go_op0 rfl rfl (st_id (v := v11) (H := h12) (by kernel_rfl)
  (go_gdT0 rfl rfl rfl (by kernel_rfl)
  (st_id (v := v9) (H := h12) (by kernel_rfl)
  (go_run0 rfl rfl rfl (by kernel_rfl) (st_bm (by kernel_rfl) fun v13 h14 =>
  (go_run0 rfl rfl rfl (by kernel_rfl) (st_bm (by kernel_rfl) fun v15 h16 =>
  (by kernel_rfl))))))
  (go_skip0 rfl rfl rfl (by kernel_rfl)
  (go_skip0 rfl rfl rfl (by kernel_rfl)
  (by kernel_rfl)))
  (by kernel_rfl))))))))))))))))))))))
  (go_exit (rt_seq_exit (by kernel_rfl))))))))))
theorem xj100_0 (s : Sys) (k wl : Nat) (t0 t1 t2 t3 t4 t5 t6 t7 t8 t9 t10 t11 t12 t13 t14 t15 t16 t17 t18 t19 t20 t21 t22 t23 t24 t25 : V) (h : Hp) : runK (xX s 100 wl k false) (bodyK s.P Try.f100) xk100_0 (.exit 0) ⟨[t0,t1,t2,t3,t4,t5,t6,t7,t8,t9,t10,t11,t12,t13,t14,t15,t16,t17,t18,t19,t20,t21,t22,t23,t24,t25],h⟩ =
  some (.tup [],h) :=
  (rt_block_eq (by kernel_rfl))
theorem xm100_1 (s : Sys) (K : Out → St → Option (V × Hp)) (k wl : Nat) (rd : Bool) (n n0 : Nat) (m0 : Nat) (ac : List Nat × List Nat) (t0 t1 t2 t3 t4 t5 t6 t7 t8 t9 t10 t11 t12 t13 t14 t15 t16 t17 t18 t19 t20 t21 t22 t23 t24 t25 : V) (h : Hp) : opsP (xX s 100 wl k rd) xg100_0 6 m0 ac (runK (xX s 100 wl k rd) (nextK (xX s 100 wl k rd) xl100_0 n0 K n) xk100_1) ⟨[t0,t1,t2,t3,t4,t5,t6,t7,t8,t9,t10,t11,t12,t13,t14,t15,t16,t17,t18,t19,t20,t21,t22,t23,t24,t25],h⟩ =
  bm (vPick t14 t17 (V.lit (Value.bool false))) h fun v17 h18 =>
  gd v17 (
  bp (callV (xX s 100 wl k rd) false true t0 [t5] h18) fun v19 h20 =>
  bm (vUn .not v19) h20 fun v21 h22 =>
  opsP (xX s 100 wl k rd) xg100_0 12 m0 ac (runK (xX s 100 wl k rd) (nextK (xX s 100 wl k rd) xl100_0 n0 K n) xk100_1) ⟨[t0,t1,t2,t3,t4,t5,t6,t7,t8,t9,t10,t11,t12,t13,t14,t15,t16,t17,v17,(V.lit (Value.bool true)),t0,t5,v19,v21,t24,t25],h22⟩) (
  opsP (xX s 100 wl k rd) xg100_0 12 m0 ac (runK (xX s 100 wl k rd) (nextK (xX s 100 wl k rd) xl100_0 n0 K n) xk100_1) ⟨[t0,t1,t2,t3,t4,t5,t6,t7,t8,t9,t10,t11,t12,t13,t14,t15,t16,t17,v17,(V.lit (Value.bool false)),uu,uu,uu,uu,t24,t25],h18⟩) (
  opsP (xX s 100 wl k rd) xg100_0 9 m0 ac (runK (xX s 100 wl k rd) (nextK (xX s 100 wl k rd) xl100_0 n0 K n) xk100_1) ⟨[t0,t1,t2,t3,t4,t5,t6,t7,t8,t9,t10,t11,t12,t13,t14,t15,t16,t17,v17,v17,uu,t21,t22,t23,t24,t25],h18⟩) :=
  (go_op0 rfl rfl (st_bm (by kernel_rfl) fun v17 h18 =>
  (go_op0 rfl rfl (st_id (v := v17) (H := h18) (by kernel_rfl)
  (go_gdT0 rfl rfl rfl (by kernel_rfl)
  (st_id (v := t0) (H := h18) (by kernel_rfl)
  (go_run0 rfl rfl rfl (by kernel_rfl) (st_id (v := t5) (H := h18) (by kernel_rfl)
  (go_run0 rfl rfl rfl (by kernel_rfl) (st_bp (by kernel_rfl) fun v19 h20 =>
  (go_run0 rfl rfl rfl (by kernel_rfl) (st_bm (by kernel_rfl) fun v21 h22 =>
  (by kernel_rfl))))))))
  (go_skip0 rfl rfl rfl (by kernel_rfl)
  (go_skip0 rfl rfl rfl (by kernel_rfl)
  (go_skip0 rfl rfl rfl (by kernel_rfl)
  (by kernel_rfl))))
  (by kernel_rfl))))))
theorem xm100_2 (s : Sys) (K : Out → St → Option (V × Hp)) (k wl : Nat) (rd : Bool) (n n0 : Nat) (m0 : Nat) (ac : List Nat × List Nat) (t0 t1 t2 t3 t4 t5 t6 t7 t8 t9 t10 t11 t12 t13 t14 t15 t16 t17 t18 t19 t20 t21 t22 t23 t24 t25 : V) (h : Hp) : opsP (xX s 100 wl k rd) xg100_0 12 m0 ac (runK (xX s 100 wl k rd) (nextK (xX s 100 wl k rd) xl100_0 n0 K n) xk100_1) ⟨[t0,t1,t2,t3,t4,t5,t6,t7,t8,t9,t10,t11,t12,t13,t14,t15,t16,t17,t18,t19,t20,t21,t22,t23,t24,t25],h⟩ =
  bm (vPick t19 t23 (V.lit (Value.bool false))) h fun v23 h24 =>
  cnd v23 (
  K .ret ⟨[t0,t1,t2,t3,t4,t5,t6,t7,t8,t9,t10,t11,t12,t13,t14,t15,t16,t17,t18,t19,t20,t21,t22,t23,v23,t25],h24⟩) (
  bm (vBin s.P .add 3 t8 (V.lit (Value.int .i64 1))) h24 fun v25 h26 =>
  itX (xX s 100 wl k rd) xl100_0 n0 K n ⟨[(V.kill n0 t0),(V.kill n0 t1),(V.kill n0 t2),(V.kill n0 t3),(V.kill n0 t4),(V.kill n0 t5),(V.kill n0 t6),(V.kill n0 t7),(V.kill n0 v25),.junk,.junk,.junk,.junk,.junk,.junk,.junk,.junk,.junk,.junk,.junk,.junk,.junk,.junk,.junk,.junk,.junk],cutH n0 h26⟩) :=
  (go_op0 rfl rfl (st_bm (by kernel_rfl) fun v23 h24 =>
  (go_end0 (by kernel_rfl)
  (go_cond (by kernel_rfl)
  (go_ret (rt_block_ret (rt_seq_ret (by kernel_rfl))))
  (go_skip (rt_block_norm (go_reg0
  (go_op0 rfl rfl (st_bm (by kernel_rfl) fun v25 h26 =>
  (go_op0 rfl rfl (st_id (v := v25) (H := h26) (by kernel_rfl)
  (go_end0 (by kernel_rfl)
  (by kernel_rfl)))))))))))))
theorem xk100_0_ret (cx : Cx) (K : Out → St → Option (V × Hp)) (s : St) : runK cx K xk100_0 .ret s = K .ret s := by kernel_rfl
theorem xk100_1_ret (cx : Cx) (K : Out → St → Option (V × Hp)) (s : St) : runK cx K xk100_1 .ret s = K .ret s := by kernel_rfl
-- names: xb100,xz100,xr100_0,xj100_0,xm100_1,xm100_2,xk100_0_ret,xk100_1_ret
noncomputable def xl49_0 : Code := codeAt (bodyOf Try.f49) [1,1,0,1,0,0]
noncomputable def xk49_0 : List Fr := [.block 0,.seq (codeAt (bodyOf Try.f49) [1,1,1])]
theorem xb49 (s : Sys) (k wl : Nat) (t0 : V) (h : Hp) : bodyV (xX s 49 wl k false) Try.f49 [t0] h =
  bp (opBox t0 h) fun v1 h2 =>
  bp (some (.own h2.length 0 0,h2 ++ [.rows 0 [] 0 true])) fun v3 h4 =>
  bp (some (.own h4.length 0 0,h4 ++ [.rows 0 [] 0 true])) fun v5 h6 =>
  bm (vLoad s.P 23 v1 h6) h6 fun v7 h8 =>
  bp (callV (xX s 49 wl k false) false true (.fn (.func 69) [] []) [v7] h8) fun v9 h10 =>
  itX (xX s 49 wl k false) xl49_0 h10.length (runK (xX s 49 wl k false) (bodyK s.P Try.f49) xk49_0) k ⟨[(V.kill h10.length t0),(V.kill h10.length v1),(V.kill h10.length v3),(V.kill h10.length v5),(V.kill h10.length v7),(V.kill h10.length v9),(V.lit (Value.int .i64 0)),.junk,.junk,.junk,.junk,.junk,(V.kill h10.length uu)],cutH h10.length h10⟩ :=
  bodyV_run rfl (go_seq (go_reg0
  (go_op0 rfl rfl (st_bp (by kernel_rfl) fun v1 h2 =>
  (go_op0 rfl rfl (st_bp (by kernel_rfl) fun v3 h4 =>
  (go_end0 (by kernel_rfl)
  (go_seq (go_reg0
  (go_op0 rfl rfl (st_bp (by kernel_rfl) fun v5 h6 =>
  (go_end0 (by kernel_rfl)
  (go_seq (go_seq (go_reg0
  (go_op0 rfl rfl (st_bm (by kernel_rfl) fun v7 h8 =>
  (go_op0 rfl rfl (st_bp (by kernel_rfl) fun v9 h10 =>
  (go_op0 rfl rfl (st_id (v := (V.lit (Value.int .i64 0))) (H := h10) (by kernel_rfl)
  (go_end0 (by kernel_rfl)
  (go_block (by kernel_rfl))))))))))))))))))))))))
theorem xe49 (k wl : Nat) (t0 : V) (h : Hp) : evF Try.prog xM (k + 1) wl 49 [t0] h = bodyV (xX (xS k) 49 wl k false) Try.f49 [t0] h := by kernel_rfl
theorem xz49 (P : Program) (t0 t1 t2 t3 t4 t5 t6 t7 t8 t9 t10 t11 t12 : V) (h : Hp) : bodyK P Try.f49 .ret ⟨[t0,t1,t2,t3,t4,t5,t6,t7,t8,t9,t10,t11,t12],h⟩ = some (t2,h) := by kernel_rfl
theorem xr49_0 (s : Sys) (K : Out → St → Option (V × Hp)) (k wl : Nat) (rd : Bool) (n n0 : Nat) (t0 t1 t2 t3 t4 t5 t6 t7 t8 t9 t10 t11 t12 : V) (h : Hp) : itX (xX s 49 wl k rd) xl49_0 n0 K (n + 1) ⟨[t0,t1,t2,t3,t4,t5,t6,t7,t8,t9,t10,t11,t12],h⟩ =
  bm (vBin s.P .lss 3 t6 t5) h fun v11 h12 =>
  cnd v11 (
  bp (vBuildSlice s.P wl 25 1 [(0,(V.lit (Value.int .u64 0)))] h12) fun v13 h14 =>
  bp (opApp s.P wl 25 25 t3 v13 h14) fun v15 h16 =>
  bm (vBin s.P .add 3 t6 (V.lit (Value.int .i64 1))) h16 fun v17 h18 =>
  itX (xX s 49 wl k rd) xl49_0 n0 K n ⟨[(V.kill n0 t0),(V.kill n0 t1),(V.kill n0 t2),(V.kill n0 v15),(V.kill n0 t4),(V.kill n0 t5),(V.kill n0 v17),.junk,.junk,.junk,.junk,.junk,(V.kill n0 t12)],cutH n0 h18⟩) (
  K (.exit 0) ⟨[(V.kill n0 t0),(V.kill n0 t1),(V.kill n0 t2),(V.kill n0 t3),(V.kill n0 t4),(V.kill n0 t5),.junk,.junk,.junk,.junk,.junk,.junk,(V.kill n0 t12)],cutH n0 h12⟩) :=
  itX_step (go_seq (go_reg0
  (go_op0 rfl rfl (st_bm (by kernel_rfl) fun v11 h12 =>
  (go_end0 (by kernel_rfl)
  (go_seq (go_cond (by kernel_rfl)
  (go_skip (go_seq (go_block (go_reg0
  (go_op0 rfl rfl (st_id (v := t3) (H := h12) (by kernel_rfl)
  (go_op0 rfl rfl (st_bp (by kernel_rfl) fun v13 h14 =>
  (go_op0 rfl rfl (st_bp (by kernel_rfl) fun v15 h16 =>
  (go_op0 rfl rfl (st_id (v := v15) (H := h16) (by kernel_rfl)
  (go_end0 (by kernel_rfl)
  (rt_block_norm (go_reg0
  (go_op0 rfl rfl (st_bm (by kernel_rfl) fun v17 h18 =>
  (go_op0 rfl rfl (st_id (v := v17) (H := h18) (by kernel_rfl)
  (go_end0 (by kernel_rfl)
  (by kernel_rfl)))))))))))))))))))))
  (go_exit (rt_seq_exit (by kernel_rfl))))))))))
theorem xj49_0 (s : Sys) (k wl : Nat) (t0 t1 t2 t3 t4 t5 t6 t7 t8 t9 t10 t11 t12 : V) (h : Hp) : runK (xX s 49 wl k false) (bodyK s.P Try.f49) xk49_0 (.exit 0) ⟨[t0,t1,t2,t3,t4,t5,t6,t7,t8,t9,t10,t11,t12],h⟩ =
  some (t3,h) :=
  (rt_block_eq (go_seq (go_reg0
  (go_op0 rfl rfl (st_id (v := t3) (H := h) (by kernel_rfl)
  (go_op0 rfl rfl (st_id (v := t3) (H := h) (by kernel_rfl)
  (go_end0 (by kernel_rfl)
  (go_ret (by kernel_rfl))))))))))
theorem xk49_0_ret (cx : Cx) (K : Out → St → Option (V × Hp)) (s : St) : runK cx K xk49_0 .ret s = K .ret s := by kernel_rfl
-- names: xb49,xz49,xr49_0,xj49_0,xk49_0_ret
end Go.Ab
