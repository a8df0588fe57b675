/- The program's code,point by point: printed by gen.py. -/
import Derived.Test.YtcahlnoianbndaaR4Seat
set_option linter.unusedVariables false
set_option linter.unusedSimpArgs false
set_option maxRecDepth 100000
set_option linter.unusedVariables false
namespace Go.Ab
open Go.Proofs
noncomputable def xl19_0 : Code := codeAt (bodyOf Try.f19) [1,1,0,1,0,0]
noncomputable def xk19_0 : List Fr := [.block 0,.seq (codeAt (bodyOf Try.f19) [1,1,1])]
noncomputable def xg19_0 : Code := codeAt (bodyOf Try.f19) [1,1,0,1,0,0,1,0,0,0]
theorem xo19_6 : orderIx (opsOf xg19_0) = [0,1,2,3,4,5,6,7,8] := by kernel_rfl
theorem xo19_6a : (rgOf (opsOf xg19_0)).any = false := by kernel_rfl
theorem xo19_6r : regOk (opsOf xg19_0) = true := by kernel_rfl
theorem xb19 (s : Sys) (k wl : Nat) (t0 t1 : V) (h : Hp) : bodyV (xX s 19 wl k false) Try.f19 [t0,t1] h =
  bp (opLen s.P 35 t0 h) fun v1 h2 =>
  bp (opLen s.P 35 t1 h2) fun v3 h4 =>
  bm (vBin s.P .neq 3 v1 v3) h4 fun v5 h6 =>
  cnd v5 (
  some ((V.lit (Value.bool false)),h6)) (
  itX (xX s 19 wl k false) xl19_0 h6.length (runK (xX s 19 wl k false) (bodyK s.P Try.f19) xk19_0) k ⟨[(V.kill h6.length t0),(V.kill h6.length t1),(V.kill h6.length uu),(V.kill h6.length uu),(V.lit (Value.bool false)),(V.lit (Value.int .i64 0)),(V.kill h6.length t0),(V.kill h6.length v1),(V.kill h6.length t1),(V.kill h6.length v3),(V.kill h6.length v5),.junk,.junk,.junk,.junk,.junk,.junk,.junk,.junk,.junk,.junk,.junk,.junk,.junk,.junk,.junk],cutH h6.length h6⟩) :=
  bodyV_run rfl (go_seq (go_reg0
  (go_op0 rfl rfl (st_id (v := (V.lit (Value.bool false))) (H := h) (by kernel_rfl)
  (go_end0 (by kernel_rfl)
  (go_seq (go_seq (go_reg0
  (go_op0 rfl rfl (st_id (v := t0) (H := h) (by kernel_rfl)
  (go_op0 rfl rfl (st_bp (by kernel_rfl) fun v1 h2 =>
  (go_op0 rfl rfl (st_id (v := t1) (H := h2) (by kernel_rfl)
  (go_op0 rfl rfl (st_bp (by kernel_rfl) fun v3 h4 =>
  (go_op0 rfl rfl (st_bm (by kernel_rfl) fun v5 h6 =>
  (go_end0 (by kernel_rfl)
  (go_cond (by kernel_rfl)
  (go_seq (go_reg0
  (go_op0 rfl rfl (st_id (v := (V.lit (Value.bool false))) (H := h6) (by kernel_rfl)
  (go_end0 (by kernel_rfl)
  (go_ret (rt_seq_ret (by kernel_rfl))))))))
  (go_skip (go_seq (go_seq (go_reg0
  (go_op0 rfl rfl (st_id (v := (V.lit (Value.int .i64 0))) (H := h6) (by kernel_rfl)
  (go_end0 (by kernel_rfl)
  (go_block (by kernel_rfl)))))))))))))))))))))))))))))
theorem xe19 (k wl : Nat) (t0 t1 : V) (h : Hp) : evF Try.prog xM (k + 1) wl 19 [t0,t1] h = bodyV (xX (xS k) 19 wl k false) Try.f19 [t0,t1] h := by kernel_rfl
theorem xz19 (P : Program) (t0 t1 t2 t3 t4 t5 t6 t7 t8 t9 t10 t11 t12 t13 t14 t15 t16 t17 t18 t19 t20 t21 t22 t23 t24 t25 : V) (h : Hp) : bodyK P Try.f19 .ret ⟨[t0,t1,t2,t3,t4,t5,t6,t7,t8,t9,t10,t11,t12,t13,t14,t15,t16,t17,t18,t19,t20,t21,t22,t23,t24,t25],h⟩ = some (t4,h) := by kernel_rfl
theorem xr19_0 (s : Sys) (K : Out → St → Option (V × Hp)) (k wl : Nat) (rd : Bool) (n n0 : Nat) (t0 t1 t2 t3 t4 t5 t6 t7 t8 t9 t10 t11 t12 t13 t14 t15 t16 t17 t18 t19 t20 t21 t22 t23 t24 t25 : V) (h : Hp) : itX (xX s 19 wl k rd) xl19_0 n0 K (n + 1) ⟨[t0,t1,t2,t3,t4,t5,t6,t7,t8,t9,t10,t11,t12,t13,t14,t15,t16,t17,t18,t19,t20,t21,t22,t23,t24,t25],h⟩ =
  bp (opLen s.P 35 t0 h) fun v7 h8 =>
  bm (vBin s.P .lss 3 t5 v7) h8 fun v9 h10 =>
  cnd v9 (
  bm (vIndexAddr s.P 35 t0 t5 h10) h10 fun v11 h12 =>
  bm (vLoad s.P 41 v11 h12) h12 fun v13 h14 =>
  bm (vIndexAddr s.P 35 t1 t5 h14) h14 fun v15 h16 =>
  bm (vLoad s.P 41 v15 h16) h16 fun v17 h18 =>
  bm (vBin s.P .neq 41 v13 v17) h18 fun v19 h20 =>
  cnd v19 (
  K .ret ⟨[t0,t1,t2,t3,(V.lit (Value.bool false)),t5,t6,t7,t8,t9,t10,t5,t0,v7,v9,t15,t16,t0,t5,v11,v13,t1,t5,v15,v17,v19],h20⟩) (
  bm (vBin s.P .add 3 t5 (V.lit (Value.int .i64 1))) h20 fun v21 h22 =>
  itX (xX s 19 wl k rd) xl19_0 n0 K n ⟨[(V.kill n0 t0),(V.kill n0 t1),(V.kill n0 t2),(V.kill n0 t3),(V.kill n0 t4),(V.kill n0 v21),(V.kill n0 t6),(V.kill n0 t7),(V.kill n0 t8),(V.kill n0 t9),(V.kill n0 t10),.junk,.junk,.junk,.junk,.junk,.junk,.junk,.junk,.junk,.junk,.junk,.junk,.junk,.junk,.junk],cutH n0 h22⟩)) (
  K (.exit 0) ⟨[(V.kill n0 t0),(V.kill n0 t1),(V.kill n0 t2),(V.kill n0 t3),(V.kill n0 t4),(V.kill n0 t5),(V.kill n0 t6),(V.kill n0 t7),(V.kill n0 t8),(V.kill n0 t9),(V.kill n0 t10),.junk,.junk,.junk,.junk,.junk,.junk,.junk,.junk,.junk,.junk,.junk,.junk,.junk,.junk,.junk],cutH n0 h10⟩) :=
  itX_step (go_seq (go_seq (go_reg0
  (go_op0 rfl rfl (st_id (v := t5) (H := h) (by kernel_rfl)
  (go_op0 rfl rfl (st_id (v := t0) (H := h) (by kernel_rfl)
  (go_op0 rfl rfl (st_bp (by kernel_rfl) fun v7 h8 =>
  (go_op0 rfl rfl (st_bm (by kernel_rfl) fun v9 h10 =>
  (go_end0 (by kernel_rfl)
  (go_cond (by kernel_rfl)
  (go_skip (go_seq (go_block (go_seq (go_reg1 xo19_6r
  (go_op1 xo19_6 xo19_6a rfl rfl rfl (st_no (by kernel_rfl) (st_id (v := t0) (H := h10) (by kernel_rfl)
  (go_op1 xo19_6 xo19_6a rfl rfl rfl (st_no (by kernel_rfl) (st_id (v := t5) (H := h10) (by kernel_rfl)
  (go_op1 xo19_6 xo19_6a rfl rfl rfl (st_no (by kernel_rfl) (st_bm (by kernel_rfl) fun v11 h12 =>
  (go_op1 xo19_6 xo19_6a rfl rfl rfl (st_no (by kernel_rfl) (st_bm (by kernel_rfl) fun v13 h14 =>
  (go_op1 xo19_6 xo19_6a rfl rfl rfl (st_no (by kernel_rfl) (st_id (v := t1) (H := h14) (by kernel_rfl)
  (go_op1 xo19_6 xo19_6a rfl rfl rfl (st_no (by kernel_rfl) (st_id (v := t5) (H := h14) (by kernel_rfl)
  (go_op1 xo19_6 xo19_6a rfl rfl rfl (st_no (by kernel_rfl) (st_bm (by kernel_rfl) fun v15 h16 =>
  (go_op1 xo19_6 xo19_6a rfl rfl rfl (st_no (by kernel_rfl) (st_bm (by kernel_rfl) fun v17 h18 =>
  (go_op1 xo19_6 xo19_6a rfl rfl rfl (st_no (by kernel_rfl) (st_bm (by kernel_rfl) fun v19 h20 =>
  (go_end1 xo19_6 (by kernel_rfl) xo19_6a
  (go_cond (by kernel_rfl)
  (go_seq (go_reg0
  (go_op0 rfl rfl (st_id (v := (V.lit (Value.bool false))) (H := h20) (by kernel_rfl)
  (go_end0 (by kernel_rfl)
  (go_ret (rt_block_ret (rt_seq_ret (by kernel_rfl)))))))))
  (go_skip (rt_block_norm (go_reg0
  (go_op0 rfl rfl (st_id (v := t5) (H := h20) (by kernel_rfl)
  (go_op0 rfl rfl (st_bm (by kernel_rfl) fun v21 h22 =>
  (go_op0 rfl rfl (st_id (v := v21) (H := h22) (by kernel_rfl)
  (go_end0 (by kernel_rfl)
  (by kernel_rfl)))))))))))))))))))))))))))))))))))))))))))))
  (go_exit (rt_seq_exit (by kernel_rfl))))))))))))))))
theorem xj19_0 (s : Sys) (k wl : Nat) (t0 t1 t2 t3 t4 t5 t6 t7 t8 t9 t10 t11 t12 t13 t14 t15 t16 t17 t18 t19 t20 t21 t22 t23 t24 t25 : V) (h : Hp) : runK (xX s 19 wl k false) (bodyK s.P Try.f19) xk19_0 (.exit 0) ⟨[t0,t1,t2,t3,t4,t5,t6,t7,t8,t9,t10,t11,t12,t13,t14,t15,t16,t17,t18,t19,t20,t21,t22,t23,t24,t25],h⟩ =
  some ((V.lit (Value.bool true)),h) :=
  (rt_block_eq (go_seq (go_reg0
  (go_op0 rfl rfl (st_id (v := (V.lit (Value.bool true))) (H := h) (by kernel_rfl)
  (go_end0 (by kernel_rfl)
  (go_ret (by kernel_rfl))))))))
theorem xk19_0_ret (cx : Cx) (K : Out → St → Option (V × Hp)) (s : St) : runK cx K xk19_0 .ret s = K .ret s := by kernel_rfl
-- names: xb19,xz19,xr19_0,xj19_0,xk19_0_ret
noncomputable def xl20_0 : Code := codeAt (bodyOf Try.f20) [1,0,1,1,0,1,0,0]
noncomputable def xk20_0 : List Fr := [.block 0,.seq (codeAt (bodyOf Try.f20) [1,0,1,1,1]),.scope (codeAt (bodyOf Try.f20) [1,0])]
noncomputable def xg20_0 : Code := codeAt (bodyOf Try.f20) [1,0,1,1,0,1,0,0,1,1,0,0,1,0]
noncomputable def xk20_1 : List Fr := [.seq (codeAt (bodyOf Try.f20) [1,0,1,1,0,1,0,0,1,1,0,0,1,1]),.block 1,.seq (codeAt (bodyOf Try.f20) [1,0,1,1,0,1,0,0,1,1,1])]
theorem xo20_5 : orderIx (opsOf xg20_0) = [0,1,2,3,4,5,6,7,8,9,10,11,12] := by kernel_rfl
theorem xo20_5a : (rgOf (opsOf xg20_0)).any = false := by kernel_rfl
theorem xo20_5r : regOk (opsOf xg20_0) = true := by kernel_rfl
theorem xb20 (s : Sys) (k wl : Nat) (t0 t1 : V) (h : Hp) : bodyV (xX s 20 wl k false) Try.f20 [t0,t1] h =
  bp (opLen s.P 26 t0 h) fun v1 h2 =>
  bp (opLen s.P 26 t1 h2) fun v3 h4 =>
  bm (vBin s.P .eql 3 v1 v3) h4 fun v5 h6 =>
  bp (opLen s.P 26 t0 h6) fun v7 h8 =>
  itX (xX s 20 wl k false) xl20_0 h8.length (runK (xX s 20 wl k false) (bodyK s.P Try.f20) xk20_0) k ⟨[(V.kill h8.length t0),(V.kill h8.length t1),(V.kill h8.length uu),(V.kill h8.length uu),(V.lit (Value.bool false)),(V.kill h8.length v5),(V.kill h8.length uu),(V.kill h8.length t0),(V.kill h8.length v1),(V.kill h8.length t1),(V.kill h8.length v3),(V.kill h8.length v5),(V.kill h8.length t0),(V.kill h8.length v7),(V.lit (Value.int .i64 0)),.junk,.junk,.junk,.junk,.junk,.junk,.junk,.junk,.junk,.junk,.junk,.junk,.junk,.junk,.junk,.junk,(V.kill h8.length uu)],cutH h8.length h8⟩ :=
  bodyV_run rfl (go_seq (go_reg0
  (go_op0 rfl rfl (st_id (v := (V.lit (Value.bool false))) (H := h) (by kernel_rfl)
  (go_end0 (by kernel_rfl)
  (go_scope (go_seq (go_reg0
  (go_op0 rfl rfl (st_id (v := t0) (H := h) (by kernel_rfl)
  (go_op0 rfl rfl (st_bp (by kernel_rfl) fun v1 h2 =>
  (go_op0 rfl rfl (st_id (v := t1) (H := h2) (by kernel_rfl)
  (go_op0 rfl rfl (st_bp (by kernel_rfl) fun v3 h4 =>
  (go_op0 rfl rfl (st_bm (by kernel_rfl) fun v5 h6 =>
  (go_op0 rfl rfl (st_id (v := v5) (H := h6) (by kernel_rfl)
  (go_end0 (by kernel_rfl)
  (go_seq (go_label (go_seq (go_seq (go_reg0
  (go_op0 rfl rfl (st_id (v := t0) (H := h6) (by kernel_rfl)
  (go_op0 rfl rfl (st_bp (by kernel_rfl) fun v7 h8 =>
  (go_op0 rfl rfl (st_id (v := (V.lit (Value.int .i64 0))) (H := h8) (by kernel_rfl)
  (go_end0 (by kernel_rfl)
  (go_block (by kernel_rfl)))))))))))))))))))))))))))))))))))
theorem xe20 (k wl : Nat) (t0 t1 : V) (h : Hp) : evF Try.prog xM (k + 1) wl 20 [t0,t1] h = bodyV (xX (xS k) 20 wl k false) Try.f20 [t0,t1] h := by kernel_rfl
theorem xz20 (P : Program) (t0 t1 t2 t3 t4 t5 t6 t7 t8 t9 t10 t11 t12 t13 t14 t15 t16 t17 t18 t19 t20 t21 t22 t23 t24 t25 t26 t27 t28 t29 t30 t31 : V) (h : Hp) : bodyK P Try.f20 .ret ⟨[t0,t1,t2,t3,t4,t5,t6,t7,t8,t9,t10,t11,t12,t13,t14,t15,t16,t17,t18,t19,t20,t21,t22,t23,t24,t25,t26,t27,t28,t29,t30,t31],h⟩ = some (t4,h) := by kernel_rfl
theorem xr20_0 (s : Sys) (K : Out → St → Option (V × Hp)) (k wl : Nat) (rd : Bool) (n n0 : Nat) (t0 t1 t2 t3 t4 t5 t6 t7 t8 t9 t10 t11 t12 t13 t14 t15 t16 t17 t18 t19 t20 t21 t22 t23 t24 t25 t26 t27 t28 t29 t30 t31 : V) (h : Hp) : itX (xX s 20 wl k rd) xl20_0 n0 K (n + 1) ⟨[t0,t1,t2,t3,t4,t5,t6,t7,t8,t9,t10,t11,t12,t13,t14,t15,t16,t17,t18,t19,t20,t21,t22,t23,t24,t25,t26,t27,t28,t29,t30,t31],h⟩ =
  bm (vBin s.P .lss 3 t14 t13) h fun v9 h10 =>
  cnd v9 (
  bm (vUn .not t5) h10 fun v11 h12 =>
  gd v11 (
  opsP (xX s 20 wl k rd) xg20_0 12 h10.length ([],[]) (runK (xX s 20 wl k rd) (nextK (xX s 20 wl k rd) xl20_0 n0 K n) xk20_1) ⟨[t0,t1,t2,t3,t4,t5,t14,t7,t8,t9,t10,t11,t12,t13,t14,v9,t14,t5,v11,(V.lit (Value.bool true)),uu,uu,uu,uu,uu,uu,uu,uu,uu,t29,t30,t31],h12⟩) (
  bm (vIndexAddr s.P 26 t0 t14 h12) h12 fun v13 h14 =>
  bm (vLoad s.P 28 v13 h14) h14 fun v15 h16 =>
  bm (vIndexAddr s.P 26 t1 t14 h16) h16 fun v17 h18 =>
  bm (vLoad s.P 28 v17 h18) h18 fun v19 h20 =>
  bm (vBin s.P .neq 28 v15 v19) h20 fun v21 h22 =>
  opsP (xX s 20 wl k rd) xg20_0 12 h10.length ([],[]) (runK (xX s 20 wl k rd) (nextK (xX s 20 wl k rd) xl20_0 n0 K n) xk20_1) ⟨[t0,t1,t2,t3,t4,t5,t14,t7,t8,t9,t10,t11,t12,t13,t14,v9,t14,t5,v11,(V.lit (Value.bool false)),t0,t14,v13,v15,t1,t14,v17,v19,v21,t29,t30,t31],h22⟩) (
  opsP (xX s 20 wl k rd) xg20_0 4 h10.length ([],[]) (runK (xX s 20 wl k rd) (nextK (xX s 20 wl k rd) xl20_0 n0 K n) xk20_1) ⟨[t0,t1,t2,t3,t4,t5,t14,t7,t8,t9,t10,t11,t12,t13,t14,v9,t14,t5,v11,v11,uu,t21,t22,t23,t24,t25,t26,t27,t28,t29,t30,t31],h12⟩)) (
  K (.exit 0) ⟨[(V.kill n0 t0),(V.kill n0 t1),(V.kill n0 t2),(V.kill n0 t3),(V.kill n0 t4),(V.kill n0 t5),(V.kill n0 t6),(V.kill n0 t7),(V.kill n0 t8),(V.kill n0 t9),(V.kill n0 t10),(V.kill n0 t11),(V.kill n0 t12),(V.kill n0 t13),.junk,.junk,.junk,.junk,.junk,.junk,.junk,.junk,.junk,.junk,.junk,.junk,.junk,.junk,.junk,.junk,.junk,(V.kill n0 t31)],cutH n0 h10⟩) :=
  itX_step (go_seq (go_reg0
  (go_op0 rfl rfl (st_bm (by kernel_rfl) fun v9 h10 =>
  (go_end0 (by kernel_rfl)
  (go_seq (go_cond (by kernel_rfl)
  (go_skip (go_seq (go_block (go_seq (go_reg0
  (go_op0 rfl rfl (st_id (v := t14) (H := h10) (by kernel_rfl)
  (go_op0 rfl rfl (st_id (v := t14) (H := h10) (by kernel_rfl)
  (go_end0 (by kernel_rfl)
  (go_seq (go_reg1 xo20_5r
  (go_op1 xo20_5 xo20_5a rfl rfl rfl (st_no (by kernel_rfl) (st_id (v := t5) (H := h10) (by kernel_rfl)
  (go_op1 xo20_5 xo20_5a rfl rfl rfl (st_no (by kernel_rfl) (st_bm (by kernel_rfl) fun v11 h12 =>
  (go_op1 xo20_5 xo20_5a rfl rfl rfl (st_no (by kernel_rfl) (st_id (v := v11) (H := h12) (by kernel_rfl)
  (go_gdF1 xo20_5 xo20_5a rfl rfl rfl rfl (by kernel_rfl)
  (go_skip1 xo20_5 rfl rfl rfl rfl (by kernel_rfl)
  (go_skip1 xo20_5 rfl rfl rfl rfl (by kernel_rfl)
  (go_skip1 xo20_5 rfl rfl rfl rfl (by kernel_rfl)
  (go_skip1 xo20_5 rfl rfl rfl rfl (by kernel_rfl)
  (go_skip1 xo20_5 rfl rfl rfl rfl (by kernel_rfl)
  (go_skip1 xo20_5 rfl rfl rfl rfl (by kernel_rfl)
  (go_skip1 xo20_5 rfl rfl rfl rfl (by kernel_rfl)
  (go_skip1 xo20_5 rfl rfl rfl rfl (by kernel_rfl)
  (by kernel_rfl)))))))))
  (st_no (by kernel_rfl) (st_id (v := t0) (H := h12) (by kernel_rfl)
  (go_run1 xo20_5 xo20_5a rfl rfl rfl rfl (by kernel_rfl) (st_no (by kernel_rfl) (st_id (v := t14) (H := h12) (by kernel_rfl)
  (go_run1 xo20_5 xo20_5a rfl rfl rfl rfl (by kernel_rfl) (st_no (by kernel_rfl) (st_bm (by kernel_rfl) fun v13 h14 =>
  (go_run1 xo20_5 xo20_5a rfl rfl rfl rfl (by kernel_rfl) (st_no (by kernel_rfl) (st_bm (by kernel_rfl) fun v15 h16 =>
  (go_run1 xo20_5 xo20_5a rfl rfl rfl rfl (by kernel_rfl) (st_no (by kernel_rfl) (st_id (v := t1) (H := h16) (by kernel_rfl)
  (go_run1 xo20_5 xo20_5a rfl rfl rfl rfl (by kernel_rfl) (st_no (by kernel_rfl) (st_id (v := t14) (H := h16) (by kernel_rfl)
  (go_run1 xo20_5 xo20_5a rfl rfl rfl rfl (by kernel_rfl) (st_no (by kernel_rfl) (st_bm (by kernel_rfl) fun v17 h18 =>
  (go_run1 xo20_5 xo20_5a rfl rfl rfl rfl (by kernel_rfl) (st_no (by kernel_rfl) (st_bm (by kernel_rfl) fun v19 h20 =>
  (go_run1 xo20_5 xo20_5a rfl rfl rfl rfl (by kernel_rfl) (st_no (by kernel_rfl) (st_bm (by kernel_rfl) fun v21 h22 =>
  (by kernel_rfl)))))))))))))))))))))))))))
  (by kernel_rfl)))))))))))))))))))))))
  (go_exit (rt_seq_exit (by kernel_rfl))))))))))
theorem xj20_0 (s : Sys) (k wl : Nat) (t0 t1 t2 t3 t4 t5 t6 t7 t8 t9 t10 t11 t12 t13 t14 t15 t16 t17 t18 t19 t20 t21 t22 t23 t24 t25 t26 t27 t28 t29 t30 t31 : V) (h : Hp) : runK (xX s 20 wl k false) (bodyK s.P Try.f20) xk20_0 (.exit 0) ⟨[t0,t1,t2,t3,t4,t5,t6,t7,t8,t9,t10,t11,t12,t13,t14,t15,t16,t17,t18,t19,t20,t21,t22,t23,t24,t25,t26,t27,t28,t29,t30,t31],h⟩ =
  some (t5,h) :=
  (rt_block_eq (go_seq (go_reg0
  (go_op0 rfl rfl (st_id (v := t5) (H := h) (by kernel_rfl)
  (go_op0 rfl rfl (st_id (v := t5) (H := h) (by kernel_rfl)
  (go_end0 (by kernel_rfl)
  (go_ret (rt_scope_ret (by kernel_rfl)))))))))))
theorem xm20_1 (s : Sys) (K : Out → St → Option (V × Hp)) (k wl : Nat) (rd : Bool) (n n0 : Nat) (m0 : Nat) (ac : List Nat × List Nat) (t0 t1 t2 t3 t4 t5 t6 t7 t8 t9 t10 t11 t12 t13 t14 t15 t16 t17 t18 t19 t20 t21 t22 t23 t24 t25 t26 t27 t28 t29 t30 t31 : V) (h : Hp) : opsP (xX s 20 wl k rd) xg20_0 12 m0 ac (runK (xX s 20 wl k rd) (nextK (xX s 20 wl k rd) xl20_0 n0 K n) xk20_1) ⟨[t0,t1,t2,t3,t4,t5,t6,t7,t8,t9,t10,t11,t12,t13,t14,t15,t16,t17,t18,t19,t20,t21,t22,t23,t24,t25,t26,t27,t28,t29,t30,t31],h⟩ =
  bm (vPick t19 (V.lit (Value.bool true)) t28) h fun v23 h24 =>
  cnd v23 (
  K (.exit 0) ⟨[(V.kill n0 t0),(V.kill n0 t1),(V.kill n0 t2),(V.kill n0 t3),(V.kill n0 t4),(V.lit (Value.bool false)),(V.kill n0 t6),(V.kill n0 t7),(V.kill n0 t8),(V.kill n0 t9),(V.kill n0 t10),(V.kill n0 t11),(V.kill n0 t12),(V.kill n0 t13),.junk,.junk,.junk,.junk,.junk,.junk,.junk,.junk,.junk,.junk,.junk,.junk,.junk,.junk,.junk,.junk,.junk,(V.kill n0 t31)],cutH n0 h24⟩) (
  bm (vBin s.P .add 3 t14 (V.lit (Value.int .i64 1))) h24 fun v25 h26 =>
  itX (xX s 20 wl k rd) xl20_0 n0 K n ⟨[(V.kill n0 t0),(V.kill n0 t1),(V.kill n0 t2),(V.kill n0 t3),(V.kill n0 t4),(V.kill n0 t5),(V.kill n0 t6),(V.kill n0 t7),(V.kill n0 t8),(V.kill n0 t9),(V.kill n0 t10),(V.kill n0 t11),(V.kill n0 t12),(V.kill n0 t13),(V.kill n0 v25),.junk,.junk,.junk,.junk,.junk,.junk,.junk,.junk,.junk,.junk,.junk,.junk,.junk,.junk,.junk,.junk,(V.kill n0 t31)],cutH n0 h26⟩) :=
  (go_op1 xo20_5 xo20_5a rfl rfl rfl (st_no (by kernel_rfl) (st_bm (by kernel_rfl) fun v23 h24 =>
  (go_end1 xo20_5 (by kernel_rfl) xo20_5a
  (go_cond (by kernel_rfl)
  (go_seq (go_reg0
  (go_op0 rfl rfl (st_id (v := (V.lit (Value.bool false))) (H := h24) (by kernel_rfl)
  (go_end0 (by kernel_rfl)
  (go_exit (rt_block_ne rfl (rt_seq_exit (by kernel_rfl)))))))))
  (go_skip (rt_block_norm (go_reg0
  (go_op0 rfl rfl (st_bm (by kernel_rfl) fun v25 h26 =>
  (go_op0 rfl rfl (st_id (v := v25) (H := h26) (by kernel_rfl)
  (go_end0 (by kernel_rfl)
  (by kernel_rfl))))))))))))))
theorem xk20_0_ret (cx : Cx) (K : Out → St → Option (V × Hp)) (s : St) : runK cx K xk20_0 .ret s = K .ret s := by kernel_rfl
theorem xk20_1_ret (cx : Cx) (K : Out → St → Option (V × Hp)) (s : St) : runK cx K xk20_1 .ret s = K .ret s := by kernel_rfl
-- names: xb20,xz20,xr20_0,xj20_0,xm20_1,xk20_0_ret,xk20_1_ret
end Go.Ab
