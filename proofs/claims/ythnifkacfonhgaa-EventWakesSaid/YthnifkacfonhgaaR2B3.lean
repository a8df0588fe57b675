/- The program's code,point by point: printed by gen.py. -/
import Derived.Test.YthnifkacfonhgaaR2Seat
set_option linter.unusedVariables false
set_option linter.unusedSimpArgs false
set_option maxRecDepth 100000
set_option linter.unusedVariables false
namespace Go.Ab
open Go.Proofs
noncomputable def xg78_0 : Code := codeAt (bodyOf Try.f78) [1,1,1,0]
theorem xo78_3 : orderIx (opsOf xg78_0) = [0,1,2,3] := by kernel_rfl
theorem xo78_3a : (rgOf (opsOf xg78_0)).any = false := by kernel_rfl
theorem xo78_3r : regOk (opsOf xg78_0) = true := by kernel_rfl
theorem xb78 (s : Sys) (k wl : Nat) (t0 t1 t2 t3 : V) (h : Hp) : bodyV (xX s 78 wl k false) Try.f78 [t0,t1,t2,t3] h =
  bp (opBox t2 h) fun v1 h2 =>
  bp (opBox t3 h2) fun v3 h4 =>
  bp (some (.own h4.length 0 0,h4 ++ [.rows 0 [] 0 true])) fun v5 h6 =>
  bp (opAlloc s.P 4 h6) fun v7 h8 =>
  bs (vStore s.P wl 4 v7 (V.lit (Value.bool false)) h8) fun h9 =>
  bp (callV (xX s 78 wl k false) false true (.fn (.func 73) [] []) [t0,t1,(.fn (.func 97) [] [v1,v7,v3])] h9) fun v10 h11 =>
  bm (vExtract v10 0) h11 fun v12 h13 =>
  bm (vExtract v10 1) h13 fun v14 h15 =>
  bm (vLoad s.P 4 v7 h15) h15 fun v16 h17 =>
  some (.tup [v12,v16],h17) :=
  bodyV_run rfl (go_seq (go_reg0
  (go_op0 rfl rfl (st_bp (by kernel_rfl) fun v1 h2 =>
  (go_op0 rfl rfl (st_bp (by kernel_rfl) fun v3 h4 =>
  (go_op0 rfl rfl (st_bp (by kernel_rfl) fun v5 h6 =>
  (go_op0 rfl rfl (st_id (v := (V.lit (Value.bool false))) (H := h6) (by kernel_rfl)
  (go_end0 (by kernel_rfl)
  (go_seq (go_reg0
  (go_op0 rfl rfl (st_bp (by kernel_rfl) fun v7 h8 =>
  (go_op0 rfl rfl (st_bs (by kernel_rfl) fun h9 =>
  (go_end0 (by kernel_rfl)
  (go_seq (go_reg0
  (go_op0 rfl rfl (st_id (v := t0) (H := h9) (by kernel_rfl)
  (go_op0 rfl rfl (st_id (v := t1) (H := h9) (by kernel_rfl)
  (go_op0 rfl rfl (st_id (v := (.fn (.func 97) [] [v1,v7,v3])) (H := h9) (by kernel_rfl)
  (go_op0 rfl rfl (st_bp (by kernel_rfl) fun v10 h11 =>
  (go_op0 rfl rfl (st_id (v := v10) (H := h11) (by kernel_rfl)
  (go_op0 rfl rfl (st_bm (by kernel_rfl) fun v12 h13 =>
  (go_op0 rfl rfl (st_bm (by kernel_rfl) fun v14 h15 =>
  (go_op0 rfl rfl (st_id (v := v12) (H := h15) (by kernel_rfl)
  (go_op0 rfl rfl (st_id (v := v14) (H := h15) (by kernel_rfl)
  (go_end0 (by kernel_rfl)
  (go_seq (go_reg1 xo78_3r
  (go_op1 xo78_3 xo78_3a rfl rfl rfl (st_no (by kernel_rfl) (st_id (v := v12) (H := h15) (by kernel_rfl)
  (go_op1 xo78_3 xo78_3a rfl rfl rfl (st_no (by kernel_rfl) (st_bm (by kernel_rfl) fun v16 h17 =>
  (go_op1 xo78_3 xo78_3a rfl rfl rfl (st_no (by kernel_rfl) (st_id (v := v12) (H := h17) (by kernel_rfl)
  (go_op1 xo78_3 xo78_3a rfl rfl rfl (st_no (by kernel_rfl) (st_id (v := v16) (H := h17) (by kernel_rfl)
  (go_end1 xo78_3 (by kernel_rfl) xo78_3a
  (go_ret (by kernel_rfl))))))))))))))))))))))))))))))))))))))))))))))))))))))))
theorem xe78 (k wl : Nat) (t0 t1 t2 t3 : V) (h : Hp) : evF Try.prog xM (k + 1) wl 78 [t0,t1,t2,t3] h = bodyV (xX (xS k) 78 wl k false) Try.f78 [t0,t1,t2,t3] h := by kernel_rfl
-- names: xb78,

theorem xb79 (s : Sys) (k wl : Nat) (t0 t1 t2 : V) (h : Hp) : bodyV (xX s 79 wl k false) Try.f79 [t0,t1,t2] h =
  bp (opBox t0 h) fun v1 h2 =>
  bp (opAlloc s.P 28 h2) fun v3 h4 =>
  bm (vFieldAddr s.P 28 v1 0) h4 fun v5 h6 =>
  bm (vLoad s.P 3 v5 h6) h6 fun v7 h8 =>
  bm (vFieldAddr s.P 28 v1 2) h8 fun v9 h10 =>
  bm (vLoad s.P 3 v9 h10) h10 fun v11 h12 =>
  bm (vBuild s.P 28 [(0,v7),(2,v11),(3,t2),(6,t1)]) h12 fun v13 h14 =>
  bs (vStore s.P wl 28 v3 v13 h14) fun h15 =>
  resO [vLoad s.P 28 v3 h15] h15 :=
  bodyV_run rfl (go_seq (go_reg0
  (go_op0 rfl rfl (st_bp (by kernel_rfl) fun v1 h2 =>
  (go_op0 rfl rfl (st_bp (by kernel_rfl) fun v3 h4 =>
  (go_end0 (by kernel_rfl)
  (go_seq (go_reg0
  (go_op0 rfl rfl (st_bm (by kernel_rfl) fun v5 h6 =>
  (go_op0 rfl rfl (st_bm (by kernel_rfl) fun v7 h8 =>
  (go_op0 rfl rfl (st_bm (by kernel_rfl) fun v9 h10 =>
  (go_op0 rfl rfl (st_bm (by kernel_rfl) fun v11 h12 =>
  (go_op0 rfl rfl (st_id (v := t2) (H := h12) (by kernel_rfl)
  (go_op0 rfl rfl (st_id (v := t1) (H := h12) (by kernel_rfl)
  (go_op0 rfl rfl (st_bm (by kernel_rfl) fun v13 h14 =>
  (go_op0 rfl rfl (st_bs (by kernel_rfl) fun h15 =>
  (go_end0 (by kernel_rfl)
  (go_ret (by kernel_rfl))))))))))))))))))))))))))))
theorem xe79 (k wl : Nat) (t0 t1 t2 : V) (h : Hp) : evF Try.prog xM (k + 1) wl 79 [t0,t1,t2] h = bodyV (xX (xS k) 79 wl k false) Try.f79 [t0,t1,t2] h := by kernel_rfl
-- names: xb79,
noncomputable def xl80_0 : Code := codeAt (bodyOf Try.f80) [1,0,1,0,0]
noncomputable def xk80_0 : List Fr := [.block 0,.seq (codeAt (bodyOf Try.f80) [1,1])]
theorem xb80 (s : Sys) (k wl : Nat) (t0 t1 t2 : V) (h : Hp) : bodyV (xX s 80 wl k false) Try.f80 [t0,t1,t2] h =
  bp (opBox t0 h) fun v1 h2 =>
  bp (some (.own h2.length 0 0,h2 ++ [.rows 0 [] 0 true])) fun v3 h4 =>
  bp (opLen s.P 51 t2 h4) fun v5 h6 =>
  itX (xX s 80 wl k false) xl80_0 h6.length (runK (xX s 80 wl k false) (bodyK s.P Try.f80) xk80_0) k ⟨[(V.kill h6.length t0),(V.kill h6.length t1),(V.kill h6.length t2),(V.kill h6.length v1),(V.kill h6.length uu),(V.kill h6.length uu),(V.kill h6.length v3),(V.kill h6.length uu),(V.kill h6.length uu),(V.kill h6.length t2),(V.kill h6.length v5),(V.lit (Value.int .i64 0)),.junk,.junk,.junk,.junk,.junk,.junk,.junk,.junk,.junk,(V.kill h6.length uu)],cutH h6.length h6⟩ :=
  bodyV_run rfl (go_seq (go_reg0
  (go_op0 rfl rfl (st_bp (by kernel_rfl) fun v1 h2 =>
  (go_op0 rfl rfl (st_bp (by kernel_rfl) fun v3 h4 =>
  (go_end0 (by kernel_rfl)
  (go_seq (go_seq (go_reg0
  (go_op0 rfl rfl (st_id (v := t2) (H := h4) (by kernel_rfl)
  (go_op0 rfl rfl (st_bp (by kernel_rfl) fun v5 h6 =>
  (go_op0 rfl rfl (st_id (v := (V.lit (Value.int .i64 0))) (H := h6) (by kernel_rfl)
  (go_end0 (by kernel_rfl)
  (go_block (by kernel_rfl)))))))))))))))))))
theorem xe80 (k wl : Nat) (t0 t1 t2 : V) (h : Hp) : evF Try.prog xM (k + 1) wl 80 [t0,t1,t2] h = bodyV (xX (xS k) 80 wl k false) Try.f80 [t0,t1,t2] h := by kernel_rfl
theorem xz80 (P : Program) (t0 t1 t2 t3 t4 t5 t6 t7 t8 t9 t10 t11 t12 t13 t14 t15 t16 t17 t18 t19 t20 t21 : V) (h : Hp) : bodyK P Try.f80 .ret ⟨[t0,t1,t2,t3,t4,t5,t6,t7,t8,t9,t10,t11,t12,t13,t14,t15,t16,t17,t18,t19,t20,t21],h⟩ = some (t6,h) := by kernel_rfl
theorem xr80_0 (s : Sys) (K : Out → St → Option (V × Hp)) (k wl : Nat) (rd : Bool) (n n0 : Nat) (t0 t1 t2 t3 t4 t5 t6 t7 t8 t9 t10 t11 t12 t13 t14 t15 t16 t17 t18 t19 t20 t21 : V) (h : Hp) : itX (xX s 80 wl k rd) xl80_0 n0 K (n + 1) ⟨[t0,t1,t2,t3,t4,t5,t6,t7,t8,t9,t10,t11,t12,t13,t14,t15,t16,t17,t18,t19,t20,t21],h⟩ =
  bm (vBin s.P .lss 3 t11 t10) h fun v7 h8 =>
  cnd v7 (
  bm (vIndexAddr s.P 51 t9 t11 h8) h8 fun v9 h10 =>
  bm (vLoad s.P 3 v9 h10) h10 fun v11 h12 =>
  bm (vLoad s.P 23 t3 h12) h12 fun v13 h14 =>
  bp (callV (xX s 80 wl k rd) false true (.fn (.func 30) [] []) [v13,v11] h14) fun v15 h16 =>
  bp (callV (xX s 80 wl k rd) false true (.fn (.func 32) [] []) [t1,v15,(V.lit (Value.int .u64 1))] h16) fun v17 h18 =>
  bm (vBin s.P .add 3 t11 (V.lit (Value.int .i64 1))) h18 fun v19 h20 =>
  itX (xX s 80 wl k rd) xl80_0 n0 K n ⟨[(V.kill n0 t0),(V.kill n0 v17),(V.kill n0 t2),(V.kill n0 t3),(V.kill n0 t4),(V.kill n0 t5),(V.kill n0 t6),(V.kill n0 t7),(V.kill n0 v11),(V.kill n0 t9),(V.kill n0 t10),(V.kill n0 v19),.junk,.junk,.junk,.junk,.junk,.junk,.junk,.junk,.junk,(V.kill n0 t21)],cutH n0 h20⟩) (
  K (.exit 0) ⟨[(V.kill n0 t0),(V.kill n0 t1),(V.kill n0 t2),(V.kill n0 t3),(V.kill n0 t4),(V.kill n0 t5),(V.kill n0 t6),(V.kill n0 t7),(V.kill n0 t8),(V.kill n0 t9),(V.kill n0 t10),.junk,.junk,.junk,.junk,.junk,.junk,.junk,.junk,.junk,.junk,(V.kill n0 t21)],cutH n0 h8⟩) :=
  itX_step (go_seq (go_reg0
  (go_op0 rfl rfl (st_bm (by kernel_rfl) fun v7 h8 =>
  (go_end0 (by kernel_rfl)
  (go_seq (go_cond (by kernel_rfl)
  (go_skip (go_seq (go_block (go_seq (go_reg0
  (go_op0 rfl rfl (st_bm (by kernel_rfl) fun v9 h10 =>
  (go_op0 rfl rfl (st_bm (by kernel_rfl) fun v11 h12 =>
  (go_op0 rfl rfl (st_id (v := v11) (H := h12) (by kernel_rfl)
  (go_end0 (by kernel_rfl)
  (go_reg0
  (go_op0 rfl rfl (st_id (v := t1) (H := h12) (by kernel_rfl)
  (go_op0 rfl rfl (st_bm (by kernel_rfl) fun v13 h14 =>
  (go_op0 rfl rfl (st_id (v := v11) (H := h14) (by kernel_rfl)
  (go_op0 rfl rfl (st_bp (by kernel_rfl) fun v15 h16 =>
  (go_op0 rfl rfl (st_bp (by kernel_rfl) fun v17 h18 =>
  (go_op0 rfl rfl (st_id (v := v17) (H := h18) (by kernel_rfl)
  (go_end0 (by kernel_rfl)
  (rt_block_norm (go_reg0
  (go_op0 rfl rfl (st_bm (by kernel_rfl) fun v19 h20 =>
  (go_op0 rfl rfl (st_id (v := v19) (H := h20) (by kernel_rfl)
  (go_end0 (by kernel_rfl)
  (by kernel_rfl))))))))))))))))))))))))))))))))))
  (go_exit (rt_seq_exit (by kernel_rfl))))))))))
theorem xj80_0 (s : Sys) (k wl : Nat) (t0 t1 t2 t3 t4 t5 t6 t7 t8 t9 t10 t11 t12 t13 t14 t15 t16 t17 t18 t19 t20 t21 : V) (h : Hp) : runK (xX s 80 wl k false) (bodyK s.P Try.f80) xk80_0 (.exit 0) ⟨[t0,t1,t2,t3,t4,t5,t6,t7,t8,t9,t10,t11,t12,t13,t14,t15,t16,t17,t18,t19,t20,t21],h⟩ =
  some (t1,h) :=
  (rt_block_eq (go_seq (go_reg0
  (go_op0 rfl rfl (st_id (v := t1) (H := h) (by kernel_rfl)
  (go_op0 rfl rfl (st_id (v := t1) (H := h) (by kernel_rfl)
  (go_end0 (by kernel_rfl)
  (go_ret (by kernel_rfl))))))))))
theorem xk80_0_ret (cx : Cx) (K : Out → St → Option (V × Hp)) (s : St) : runK cx K xk80_0 .ret s = K .ret s := by kernel_rfl
-- names: xb80,xz80,xr80_0,xj80_0,xk80_0_ret

theorem xb81 (s : Sys) (k wl : Nat) (t0 : V) (h : Hp) : bodyV (xX s 81 wl k false) Try.f81 [t0] h =
  bp (opBox t0 h) fun v1 h2 =>
  some ((.fn (.func 98) [] [v1]),h2) :=
  bodyV_run rfl (go_seq (go_reg0
  (go_op0 rfl rfl (st_bp (by kernel_rfl) fun v1 h2 =>
  (go_op0 rfl rfl (st_id (v := (constV Value.nilFunc)) (H := h2) (by kernel_rfl)
  (go_end0 (by kernel_rfl)
  (go_seq (go_reg0
  (go_op0 rfl rfl (st_id (v := (.fn (.func 98) [] [v1])) (H := h2) (by kernel_rfl)
  (go_op0 rfl rfl (st_id (v := (.fn (.func 98) [] [v1])) (H := h2) (by kernel_rfl)
  (go_end0 (by kernel_rfl)
  (go_ret (by kernel_rfl))))))))))))))))
theorem xe81 (k wl : Nat) (t0 : V) (h : Hp) : evF Try.prog xM (k + 1) wl 81 [t0] h = bodyV (xX (xS k) 81 wl k false) Try.f81 [t0] h := by kernel_rfl
-- names: xb81,
noncomputable def xg92_0 : Code := codeAt (bodyOf Try.f92) [1,0]
noncomputable def xk92_0 : List Fr := [.seq (codeAt (bodyOf Try.f92) [1,1])]
theorem xb92 (s : Sys) (k wl : Nat) (t0 t1 t2 : V) (h : Hp) : bodyV (xX s 92 wl k false) Try.f92 [t0,t1,t2] h =
  bm (vBin s.P .geq 3 t0 t1) h fun v1 h2 =>
  gd v1 (
  bm (vBin s.P .leq 3 t0 t2) h2 fun v3 h4 =>
  opsP (xX s 92 wl k false) xg92_0 7 h.length ([],[]) (runK (xX s 92 wl k false) (bodyK s.P Try.f92) xk92_0) ⟨[t0,t1,t2,uu,uu,uu,(V.lit (Value.bool false)),t0,t1,v1,(V.lit (Value.bool true)),t0,t2,v3,uu],h4⟩) (
  opsP (xX s 92 wl k false) xg92_0 7 h.length ([],[]) (runK (xX s 92 wl k false) (bodyK s.P Try.f92) xk92_0) ⟨[t0,t1,t2,uu,uu,uu,(V.lit (Value.bool false)),t0,t1,v1,(V.lit (Value.bool false)),uu,uu,uu,uu],h2⟩) (
  opsP (xX s 92 wl k false) xg92_0 5 h.length ([],[]) (runK (xX s 92 wl k false) (bodyK s.P Try.f92) xk92_0) ⟨[t0,t1,t2,uu,uu,uu,(V.lit (Value.bool false)),t0,t1,v1,v1,uu,uu,uu,uu],h2⟩) :=
  bodyV_run rfl (go_seq (go_reg0
  (go_op0 rfl rfl (st_id (v := (V.lit (Value.bool false))) (H := h) (by kernel_rfl)
  (go_end0 (by kernel_rfl)
  (go_seq (go_reg0
  (go_op0 rfl rfl (st_id (v := t0) (H := h) (by kernel_rfl)
  (go_op0 rfl rfl (st_id (v := t1) (H := h) (by kernel_rfl)
  (go_op0 rfl rfl (st_bm (by kernel_rfl) fun v1 h2 =>
  (go_op0 rfl rfl (st_id (v := v1) (H := h2) (by kernel_rfl)
  (go_gdT0 rfl rfl rfl (by kernel_rfl)
  (st_id (v := t0) (H := h2) (by kernel_rfl)
  (go_run0 rfl rfl rfl (by kernel_rfl) (st_id (v := t2) (H := h2) (by kernel_rfl)
  (go_run0 rfl rfl rfl (by kernel_rfl) (st_bm (by kernel_rfl) fun v3 h4 =>
  (by kernel_rfl))))))
  (go_skip0 rfl rfl rfl (by kernel_rfl)
  (go_skip0 rfl rfl rfl (by kernel_rfl)
  (by kernel_rfl)))
  (by kernel_rfl)))))))))))))))))
theorem xe92 (k wl : Nat) (t0 t1 t2 : V) (h : Hp) : evF Try.prog xM (k + 1) wl 92 [t0,t1,t2] h = bodyV (xX (xS k) 92 wl k false) Try.f92 [t0,t1,t2] h := by kernel_rfl
theorem xm92_0 (s : Sys) (k wl : Nat) (m0 : Nat) (ac : List Nat × List Nat) (t0 t1 t2 t3 t4 t5 t6 t7 t8 t9 t10 t11 t12 t13 t14 : V) (h : Hp) : opsP (xX s 92 wl k false) xg92_0 7 m0 ac (runK (xX s 92 wl k false) (bodyK s.P Try.f92) xk92_0) ⟨[t0,t1,t2,t3,t4,t5,t6,t7,t8,t9,t10,t11,t12,t13,t14],h⟩ =
  bm (vPick t10 t13 (V.lit (Value.bool false))) h fun v5 h6 =>
  some (v5,h6) :=
  (go_op0 rfl rfl (st_bm (by kernel_rfl) fun v5 h6 =>
  (go_op0 rfl rfl (st_id (v := v5) (H := h6) (by kernel_rfl)
  (go_end0 (by kernel_rfl)
  (go_ret (by kernel_rfl)))))))
theorem xk92_0_ret (cx : Cx) (K : Out → St → Option (V × Hp)) (s : St) : runK cx K xk92_0 .ret s = K .ret s := by kernel_rfl
-- names: xb92,xm92_0,xk92_0_ret

theorem xb93 (s : Sys) (k wl : Nat) (t0 : V) (h : Hp) : bodyV (xX s 93 wl k false) Try.f93 [t0] h =
  bp (callV (xX s 93 wl k false) false true (.fn (.func 94) [] []) [t0] h) fun v1 h2 =>
  bm (vExtract v1 0) h2 fun v3 h4 =>
  bm (vExtract v1 1) h4 fun v5 h6 =>
  bm (vMinMax true [v5,(V.lit (Value.int .i64 0))]) h6 fun v7 h8 =>
  bm (vConv s.P 3 26 v7) h8 fun v9 h10 =>
  some (.tup [v3,v9],h10) :=
  bodyV_run rfl (go_seq (go_reg0
  (go_op0 rfl rfl (st_id (v := (V.lit (Value.int .u64 0))) (H := h) (by kernel_rfl)
  (go_op0 rfl rfl (st_id (v := (V.lit (Value.int .u64 0))) (H := h) (by kernel_rfl)
  (go_end0 (by kernel_rfl)
  (go_seq (go_reg0
  (go_op0 rfl rfl (st_id (v := t0) (H := h) (by kernel_rfl)
  (go_op0 rfl rfl (st_bp (by kernel_rfl) fun v1 h2 =>
  (go_op0 rfl rfl (st_id (v := v1) (H := h2) (by kernel_rfl)
  (go_op0 rfl rfl (st_bm (by kernel_rfl) fun v3 h4 =>
  (go_op0 rfl rfl (st_bm (by kernel_rfl) fun v5 h6 =>
  (go_op0 rfl rfl (st_id (v := v3) (H := h6) (by kernel_rfl)
  (go_op0 rfl rfl (st_id (v := v5) (H := h6) (by kernel_rfl)
  (go_end0 (by kernel_rfl)
  (go_seq (go_reg0
  (go_op0 rfl rfl (st_id (v := v3) (H := h6) (by kernel_rfl)
  (go_op0 rfl rfl (st_id (v := v5) (H := h6) (by kernel_rfl)
  (go_op0 rfl rfl (st_bm (by kernel_rfl) fun v7 h8 =>
  (go_op0 rfl rfl (st_bm (by kernel_rfl) fun v9 h10 =>
  (go_op0 rfl rfl (st_id (v := v3) (H := h10) (by kernel_rfl)
  (go_op0 rfl rfl (st_id (v := v9) (H := h10) (by kernel_rfl)
  (go_end0 (by kernel_rfl)
  (go_ret (by kernel_rfl)))))))))))))))))))))))))))))))))))))))))
theorem xe93 (k wl : Nat) (t0 : V) (h : Hp) : evF Try.prog xM (k + 1) wl 93 [t0] h = bodyV (xX (xS k) 93 wl k false) Try.f93 [t0] h := by kernel_rfl
-- names: xb93,

theorem xb94 (s : Sys) (k wl : Nat) (t0 : V) (h : Hp) : bodyV (xX s 94 wl k false) Try.f94 [t0] h =
  bp (callV (xX s 94 wl k false) false true (.fn (.func 40) [] []) [t0] h) fun v1 h2 =>
  bp (callV (xX s 94 wl k false) false true (.fn (.func 33) [] []) [t0] h2) fun v3 h4 =>
  bm (vBin s.P .add 26 v3 (V.lit (Value.int .u64 1))) h4 fun v5 h6 =>
  bm (vBin s.P .sub 26 v1 (V.lit (Value.int .u64 1))) h6 fun v7 h8 =>
  bm (vBin s.P .and 26 v1 v7) h8 fun v9 h10 =>
  bp (callV (xX s 94 wl k false) false true (.fn (.func 76) [] []) [v5,v9] h10) fun v11 h12 =>
  bp (callV (xX s 94 wl k false) false true (.fn (.func 42) [] []) [v1] h12) fun v13 h14 =>
  some (.tup [v11,v13],h14) :=
  bodyV_run rfl (go_seq (go_reg0
  (go_op0 rfl rfl (st_id (v := (V.lit (Value.int .u64 0))) (H := h) (by kernel_rfl)
  (go_op0 rfl rfl (st_id (v := (V.lit (Value.int .i64 0))) (H := h) (by kernel_rfl)
  (go_end0 (by kernel_rfl)
  (go_seq (go_reg0
  (go_op0 rfl rfl (st_id (v := t0) (H := h) (by kernel_rfl)
  (go_op0 rfl rfl (st_bp (by kernel_rfl) fun v1 h2 =>
  (go_op0 rfl rfl (st_id (v := v1) (H := h2) (by kernel_rfl)
  (go_end0 (by kernel_rfl)
  (go_seq (go_reg0
  (go_op0 rfl rfl (st_id (v := t0) (H := h2) (by kernel_rfl)
  (go_op0 rfl rfl (st_bp (by kernel_rfl) fun v3 h4 =>
  (go_op0 rfl rfl (st_bm (by kernel_rfl) fun v5 h6 =>
  (go_op0 rfl rfl (st_id (v := v1) (H := h6) (by kernel_rfl)
  (go_op0 rfl rfl (st_id (v := v1) (H := h6) (by kernel_rfl)
  (go_op0 rfl rfl (st_bm (by kernel_rfl) fun v7 h8 =>
  (go_op0 rfl rfl (st_bm (by kernel_rfl) fun v9 h10 =>
  (go_op0 rfl rfl (st_bp (by kernel_rfl) fun v11 h12 =>
  (go_op0 rfl rfl (st_id (v := v1) (H := h12) (by kernel_rfl)
  (go_op0 rfl rfl (st_bp (by kernel_rfl) fun v13 h14 =>
  (go_op0 rfl rfl (st_id (v := v11) (H := h14) (by kernel_rfl)
  (go_op0 rfl rfl (st_id (v := v13) (H := h14) (by kernel_rfl)
  (go_end0 (by kernel_rfl)
  (go_ret (by kernel_rfl)))))))))))))))))))))))))))))))))))))))))))))
theorem xe94 (k wl : Nat) (t0 : V) (h : Hp) : evF Try.prog xM (k + 1) wl 94 [t0] h = bodyV (xX (xS k) 94 wl k false) Try.f94 [t0] h := by kernel_rfl
-- names: xb94,

theorem xb95 (s : Sys) (k wl : Nat) (t0 : V) (h : Hp) : bodyV (xX s 95 wl k false) Try.f95 [t0] h =
  bp (callV (xX s 95 wl k false) false true (.fn (.func 96) [] []) [t0] h) fun v1 h2 =>
  bp (callV (xX s 95 wl k false) false true (.fn (.func 40) [] []) [t0] h2) fun v3 h4 =>
  some (.tup [v1,v3],h4) :=
  bodyV_run rfl (go_seq (go_reg0
  (go_op0 rfl rfl (st_id (v := (V.lit (Value.int .u64 0))) (H := h) (by kernel_rfl)
  (go_op0 rfl rfl (st_id (v := (V.lit (Value.int .u64 0))) (H := h) (by kernel_rfl)
  (go_end0 (by kernel_rfl)
  (go_seq (go_reg0
  (go_op0 rfl rfl (st_id (v := t0) (H := h) (by kernel_rfl)
  (go_op0 rfl rfl (st_bp (by kernel_rfl) fun v1 h2 =>
  (go_op0 rfl rfl (st_id (v := t0) (H := h2) (by kernel_rfl)
  (go_op0 rfl rfl (st_bp (by kernel_rfl) fun v3 h4 =>
  (go_op0 rfl rfl (st_id (v := v1) (H := h4) (by kernel_rfl)
  (go_op0 rfl rfl (st_id (v := v3) (H := h4) (by kernel_rfl)
  (go_end0 (by kernel_rfl)
  (go_ret (by kernel_rfl))))))))))))))))))))))))
theorem xe95 (k wl : Nat) (t0 : V) (h : Hp) : evF Try.prog xM (k + 1) wl 95 [t0] h = bodyV (xX (xS k) 95 wl k false) Try.f95 [t0] h := by kernel_rfl
-- names: xb95,

theorem xb96 (s : Sys) (k wl : Nat) (t0 : V) (h : Hp) : bodyV (xX s 96 wl k false) Try.f96 [t0] h =
  bp (callV (xX s 96 wl k false) false true (.fn (.func 33) [] []) [t0] h) fun v1 h2 =>
  bm (vBin s.P .add 26 v1 (V.lit (Value.int .u64 1))) h2 fun v3 h4 =>
  bp (callV (xX s 96 wl k false) false true (.fn (.func 76) [] []) [v3,(V.lit (Value.int .u64 0))] h4) fun v5 h6 =>
  some (v5,h6) :=
  bodyV_run rfl (go_seq (go_reg0
  (go_op0 rfl rfl (st_id (v := (V.lit (Value.int .u64 0))) (H := h) (by kernel_rfl)
  (go_end0 (by kernel_rfl)
  (go_seq (go_reg0
  (go_op0 rfl rfl (st_id (v := t0) (H := h) (by kernel_rfl)
  (go_op0 rfl rfl (st_bp (by kernel_rfl) fun v1 h2 =>
  (go_op0 rfl rfl (st_bm (by kernel_rfl) fun v3 h4 =>
  (go_op0 rfl rfl (st_bp (by kernel_rfl) fun v5 h6 =>
  (go_op0 rfl rfl (st_id (v := v5) (H := h6) (by kernel_rfl)
  (go_end0 (by kernel_rfl)
  (go_ret (by kernel_rfl))))))))))))))))))))
theorem xe96 (k wl : Nat) (t0 : V) (h : Hp) : evF Try.prog xM (k + 1) wl 96 [t0] h = bodyV (xX (xS k) 96 wl k false) Try.f96 [t0] h := by kernel_rfl
-- names: xb96,

theorem xb97 (s : Sys) (k wl : Nat) (t0 t1 t2 t3 : V) (h : Hp) : bodyV (xX s 97 wl k false) Try.f97 [t0,t1,t2,t3] h =
  bm (vLoad s.P 26 t1 h) h fun v1 h2 =>
  bm (vBin s.P .neq 26 t0 v1) h2 fun v3 h4 =>
  cnd v3 (
  some (t0,h4)) (
  bs (vStore s.P wl 4 t2 (V.lit (Value.bool true)) h4) fun h5 =>
  bm (vLoad s.P 26 t3 h5) h5 fun v6 h7 =>
  some (v6,h7)) :=
  bodyV_run rfl (go_seq (go_reg0
  (go_op0 rfl rfl (st_id (v := (V.lit (Value.int .u64 0))) (H := h) (by kernel_rfl)
  (go_end0 (by kernel_rfl)
  (go_seq (go_seq (go_reg0
  (go_op0 rfl rfl (st_id (v := t0) (H := h) (by kernel_rfl)
  (go_op0 rfl rfl (st_bm (by kernel_rfl) fun v1 h2 =>
  (go_op0 rfl rfl (st_bm (by kernel_rfl) fun v3 h4 =>
  (go_end0 (by kernel_rfl)
  (go_cond (by kernel_rfl)
  (go_seq (go_reg0
  (go_op0 rfl rfl (st_id (v := t0) (H := h4) (by kernel_rfl)
  (go_op0 rfl rfl (st_id (v := t0) (H := h4) (by kernel_rfl)
  (go_end0 (by kernel_rfl)
  (go_ret (rt_seq_ret (by kernel_rfl))))))))))
  (go_skip (go_seq (go_reg0
  (go_op0 rfl rfl (st_bs (by kernel_rfl) fun h5 =>
  (go_end0 (by kernel_rfl)
  (go_seq (go_reg0
  (go_op0 rfl rfl (st_bm (by kernel_rfl) fun v6 h7 =>
  (go_op0 rfl rfl (st_id (v := v6) (H := h7) (by kernel_rfl)
  (go_end0 (by kernel_rfl)
  (go_ret (by kernel_rfl)))))))))))))))))))))))))))))))
theorem xe97 (k wl : Nat) (t0 t1 t2 t3 : V) (h : Hp) : evF Try.prog xM (k + 1) wl 97 [t0,t1,t2,t3] h = bodyV (xX (xS k) 97 wl k false) Try.f97 [t0,t1,t2,t3] h := by kernel_rfl
-- names: xb97,
noncomputable def xl98_0 : Code := codeAt (bodyOf Try.f98) [1,0,0]
noncomputable def xk98_0 : List Fr := [.block 0]
noncomputable def xg98_0 : Code := codeAt (bodyOf Try.f98) [1,0,0,1,1,0,0,1,0]
noncomputable def xk98_1 : List Fr := [.seq (codeAt (bodyOf Try.f98) [1,0,0,1,1,0,0,1,1]),.block 1,.seq (codeAt (bodyOf Try.f98) [1,0,0,1,1,1])]
theorem xb98 (s : Sys) (k wl : Nat) (t0 t1 : V) (h : Hp) : bodyV (xX s 98 wl k false) Try.f98 [t0,t1] h =
  itX (xX s 98 wl k false) xl98_0 h.length (runK (xX s 98 wl k false) (bodyK s.P Try.f98) xk98_0) k ⟨[(V.kill h.length t0),(V.kill h.length t1),(V.kill h.length uu),(V.kill h.length uu),(V.lit (Value.int .i64 0)),.junk,.junk,.junk,.junk,.junk,.junk,.junk,.junk,.junk,.junk,.junk,.junk,.junk,.junk],cutH h.length h⟩ :=
  bodyV_run rfl (go_seq (go_reg0
  (go_op0 rfl rfl (st_id (v := (V.lit (Value.int .i64 0))) (H := h) (by kernel_rfl)
  (go_end0 (by kernel_rfl)
  (go_block (by kernel_rfl)))))))
theorem xe98 (k wl : Nat) (t0 t1 : V) (h : Hp) : evF Try.prog xM (k + 1) wl 98 [t0,t1] h = bodyV (xX (xS k) 98 wl k false) Try.f98 [t0,t1] h := by kernel_rfl
theorem xz98 (P : Program) (t0 t1 t2 t3 t4 t5 t6 t7 t8 t9 t10 t11 t12 t13 t14 t15 t16 t17 t18 : V) (h : Hp) : bodyK P Try.f98 .ret ⟨[t0,t1,t2,t3,t4,t5,t6,t7,t8,t9,t10,t11,t12,t13,t14,t15,t16,t17,t18],h⟩ = some (.tup [],h) := by kernel_rfl
theorem xr98_0 (s : Sys) (K : Out → St → Option (V × Hp)) (k wl : Nat) (rd : Bool) (n n0 : Nat) (t0 t1 t2 t3 t4 t5 t6 t7 t8 t9 t10 t11 t12 t13 t14 t15 t16 t17 t18 : V) (h : Hp) : itX (xX s 98 wl k rd) xl98_0 n0 K (n + 1) ⟨[t0,t1,t2,t3,t4,t5,t6,t7,t8,t9,t10,t11,t12,t13,t14,t15,t16,t17,t18],h⟩ =
  bm (vBin s.P .lss 3 t4 (V.lit (Value.int .i64 16))) h fun v1 h2 =>
  cnd v1 (
  bm (vLoad s.P 26 t1 h2) h2 fun v3 h4 =>
  bm (vBin s.P .shr 26 v3 t4) h4 fun v5 h6 =>
  bm (vBin s.P .and 26 v5 (V.lit (Value.int .u64 1))) h6 fun v7 h8 =>
  bm (vBin s.P .eql 26 v7 (V.lit (Value.int .u64 1))) h8 fun v9 h10 =>
  gd v9 (
  bp (callV (xX s 98 wl k rd) false true t0 [t4] h10) fun v11 h12 =>
  bm (vUn .not v11) h12 fun v13 h14 =>
  opsP (xX s 98 wl k rd) xg98_0 10 h2.length ([],[]) (runK (xX s 98 wl k rd) (nextK (xX s 98 wl k rd) xl98_0 n0 K n) xk98_1) ⟨[t0,t1,t2,t4,t4,v1,t4,v3,t4,v5,v7,v9,(V.lit (Value.bool true)),t0,t4,v11,v13,t17,t18],h14⟩) (
  opsP (xX s 98 wl k rd) xg98_0 10 h2.length ([],[]) (runK (xX s 98 wl k rd) (nextK (xX s 98 wl k rd) xl98_0 n0 K n) xk98_1) ⟨[t0,t1,t2,t4,t4,v1,t4,v3,t4,v5,v7,v9,(V.lit (Value.bool false)),uu,uu,uu,uu,t17,t18],h10⟩) (
  opsP (xX s 98 wl k rd) xg98_0 7 h2.length ([],[]) (runK (xX s 98 wl k rd) (nextK (xX s 98 wl k rd) xl98_0 n0 K n) xk98_1) ⟨[t0,t1,t2,t4,t4,v1,t4,v3,t4,v5,v7,v9,v9,uu,t14,t15,t16,t17,t18],h10⟩)) (
  K (.exit 0) ⟨[(V.kill n0 t0),(V.kill n0 t1),(V.kill n0 t2),(V.kill n0 t3),.junk,.junk,.junk,.junk,.junk,.junk,.junk,.junk,.junk,.junk,.junk,.junk,.junk,.junk,.junk],cutH n0 h2⟩) :=
  itX_step (go_seq (go_reg0
  (go_op0 rfl rfl (st_bm (by kernel_rfl) fun v1 h2 =>
  (go_end0 (by kernel_rfl)
  (go_seq (go_cond (by kernel_rfl)
  (go_skip (go_seq (go_block (go_seq (go_reg0
  (go_op0 rfl rfl (st_id (v := t4) (H := h2) (by kernel_rfl)
  (go_op0 rfl rfl (st_id (v := t4) (H := h2) (by kernel_rfl)
  (go_end0 (by kernel_rfl)
  (go_seq (go_reg0
  (go_op0 rfl rfl (st_bm (by kernel_rfl) fun v3 h4 =>
  (go_op0 rfl rfl (st_id (v := t4) (H := h4) (by kernel_rfl)
  (go_op0 rfl rfl (st_bm (by kernel_rfl) fun v5 h6 =>
  (go_op0 rfl rfl (st_bm (by kernel_rfl) fun v7 h8 =>
  (go_op0 rfl rfl (st_bm (by kernel_rfl) fun v9 h10 =>
  (go_op0 rfl rfl (st_id (v := v9) (H := h10) (by kernel_rfl)
  (go_gdT0 rfl rfl rfl (by kernel_rfl)
  (st_id (v := t0) (H := h10) (by kernel_rfl)
  (go_run0 rfl rfl rfl (by kernel_rfl) (st_id (v := t4) (H := h10) (by kernel_rfl)
  (go_run0 rfl rfl rfl (by kernel_rfl) (st_bp (by kernel_rfl) fun v11 h12 =>
  (go_run0 rfl rfl rfl (by kernel_rfl) (st_bm (by kernel_rfl) fun v13 h14 =>
  (by kernel_rfl))))))))
  (go_skip0 rfl rfl rfl (by kernel_rfl)
  (go_skip0 rfl rfl rfl (by kernel_rfl)
  (go_skip0 rfl rfl rfl (by kernel_rfl)
  (by kernel_rfl))))
  (by kernel_rfl))))))))))))))))))))))))))
  (go_exit (rt_seq_exit (by kernel_rfl))))))))))
theorem xj98_0 (s : Sys) (k wl : Nat) (t0 t1 t2 t3 t4 t5 t6 t7 t8 t9 t10 t11 t12 t13 t14 t15 t16 t17 t18 : V) (h : Hp) : runK (xX s 98 wl k false) (bodyK s.P Try.f98) xk98_0 (.exit 0) ⟨[t0,t1,t2,t3,t4,t5,t6,t7,t8,t9,t10,t11,t12,t13,t14,t15,t16,t17,t18],h⟩ =
  some (.tup [],h) :=
  (rt_block_eq (by kernel_rfl))
theorem xm98_1 (s : Sys) (K : Out → St → Option (V × Hp)) (k wl : Nat) (rd : Bool) (n n0 : Nat) (m0 : Nat) (ac : List Nat × List Nat) (t0 t1 t2 t3 t4 t5 t6 t7 t8 t9 t10 t11 t12 t13 t14 t15 t16 t17 t18 : V) (h : Hp) : opsP (xX s 98 wl k rd) xg98_0 10 m0 ac (runK (xX s 98 wl k rd) (nextK (xX s 98 wl k rd) xl98_0 n0 K n) xk98_1) ⟨[t0,t1,t2,t3,t4,t5,t6,t7,t8,t9,t10,t11,t12,t13,t14,t15,t16,t17,t18],h⟩ =
  bm (vPick t12 t16 (V.lit (Value.bool false))) h fun v15 h16 =>
  cnd v15 (
  K .ret ⟨[t0,t1,t2,t3,t4,t5,t6,t7,t8,t9,t10,t11,t12,t13,t14,t15,t16,v15,t18],h16⟩) (
  bm (vBin s.P .add 3 t4 (V.lit (Value.int .i64 1))) h16 fun v17 h18 =>
  itX (xX s 98 wl k rd) xl98_0 n0 K n ⟨[(V.kill n0 t0),(V.kill n0 t1),(V.kill n0 t2),(V.kill n0 t3),(V.kill n0 v17),.junk,.junk,.junk,.junk,.junk,.junk,.junk,.junk,.junk,.junk,.junk,.junk,.junk,.junk],cutH n0 h18⟩) :=
  (go_op0 rfl rfl (st_bm (by kernel_rfl) fun v15 h16 =>
  (go_end0 (by kernel_rfl)
  (go_cond (by kernel_rfl)
  (go_ret (rt_block_ret (rt_seq_ret (by kernel_rfl))))
  (go_skip (rt_block_norm (go_reg0
  (go_op0 rfl rfl (st_bm (by kernel_rfl) fun v17 h18 =>
  (go_op0 rfl rfl (st_id (v := v17) (H := h18) (by kernel_rfl)
  (go_end0 (by kernel_rfl)
  (by kernel_rfl)))))))))))))
theorem xk98_0_ret (cx : Cx) (K : Out → St → Option (V × Hp)) (s : St) : runK cx K xk98_0 .ret s = K .ret s := by kernel_rfl
theorem xk98_1_ret (cx : Cx) (K : Out → St → Option (V × Hp)) (s : St) : runK cx K xk98_1 .ret s = K .ret s := by kernel_rfl
-- names: xb98,xz98,xr98_0,xj98_0,xm98_1,xk98_0_ret,xk98_1_ret
end Go.Ab
