/- The program's code,point by point: printed by gen.py. -/
import Derived.Test.YtcmdnjaenhbdpaaGreatR5Seat
import Derived.Test.YtcmdnjaenhbdpaaGreatAbLibC
set_option linter.unusedVariables false
set_option linter.unusedSimpArgs false
set_option maxRecDepth 100000
set_option linter.unusedVariables false
namespace Go.Ab
open Go.Proofs

variable (s : Sys) (k wl : Nat) (m0 : Nat) (ac : List Nat × List Nat) (t0 t1 t2 : V)
theorem xb52 (h : Hp) : bodyV (xX s 52 wl k false) Tryz.f52 [t0,t1] h =
  bp (opBox t0 h) fun v1 h2 =>
  bp (opBox t1 h2) fun v3 h4 =>
  bm (vLoad s.P 23 v1 h4) h4 fun v5 h6 =>
  bm (vLoad s.P 3 v3 h6) h6 fun v7 h8 =>
  bp (callV (xX s 52 wl k false) false true (.fn (.func 75) [] []) [v5,v7,(.fn (.func 76) [] [v1,v3])] h8) fun v9 h10 =>
  some (v9,h10) :=
  bodyV_run rfl (go_seq (go_reg0
  (pP fun v1 h2 =>
  (pP fun v3 h4 =>
  (go_op0 rfl rfl (st_id (v := (V.lit (Value.int .i64 0))) (H := h4) (by kernel_rfl)
  (eN
  (go_seq (go_reg0
  (pM fun v5 h6 =>
  (pM fun v7 h8 =>
  (go_op0 rfl rfl (st_id (v := (.fn (.func 76) [] [v1,v3])) (H := h8) (by kernel_rfl)
  (pP fun v9 h10 =>
  (pI v9 h10
  (eN
  (go_ret (by kernel_rfl))))))))))))))))))
theorem xe52 (k wl : Nat) (h : Hp) : evF Tryz.prog xM (k + 1) wl 52 [t0,t1] h = bodyV (xX (xS k) 52 wl k false) Tryz.f52 [t0,t1] h := by kernel_rfl
-- names: xb52,

theorem xb76 (h : Hp) : bodyV (xX s 76 wl k false) Tryz.f76 [t0,t1] h =
  bm (vLoad s.P 23 t0 h) h fun v1 h2 =>
  bm (vLoad s.P 3 t1 h2) h2 fun v3 h4 =>
  bp (callV (xX s 76 wl k false) false true (.fn (.func 59) [] []) [v1,v3] h4) fun v5 h6 =>
  some (v5,h6) :=
  bodyV_run rfl (go_seq (go_reg0
  (go_op0 rfl rfl (st_id (v := (V.lit (Value.int .i64 0))) (H := h) (by kernel_rfl)
  (eN
  (go_seq (go_reg0
  (pM fun v1 h2 =>
  (pM fun v3 h4 =>
  (pP fun v5 h6 =>
  (pI v5 h6
  (eN
  (go_ret (by kernel_rfl))))))))))))))
theorem xe76 (k wl : Nat) (h : Hp) : evF Tryz.prog xM (k + 1) wl 76 [t0,t1] h = bodyV (xX (xS k) 76 wl k false) Tryz.f76 [t0,t1] h := by kernel_rfl
-- names: xb76,

theorem xb54 (h : Hp) : bodyV (xX s 54 wl k false) Tryz.f54 [t0,t1] h =
  bp (opBox t0 h) fun v1 h2 =>
  bp (opBox t1 h2) fun v3 h4 =>
  bm (vLoad s.P 23 v1 h4) h4 fun v5 h6 =>
  bm (vLoad s.P 3 v3 h6) h6 fun v7 h8 =>
  bp (callV (xX s 54 wl k false) false true (.fn (.func 75) [] []) [v5,v7,(.fn (.func 77) [] [v1,v3])] h8) fun v9 h10 =>
  some (v9,h10) :=
  bodyV_run rfl (go_seq (go_reg0
  (pP fun v1 h2 =>
  (pP fun v3 h4 =>
  (go_op0 rfl rfl (st_id (v := (V.lit (Value.int .i64 0))) (H := h4) (by kernel_rfl)
  (eN
  (go_seq (go_reg0
  (pM fun v5 h6 =>
  (pM fun v7 h8 =>
  (go_op0 rfl rfl (st_id (v := (.fn (.func 77) [] [v1,v3])) (H := h8) (by kernel_rfl)
  (pP fun v9 h10 =>
  (pI v9 h10
  (eN
  (go_ret (by kernel_rfl))))))))))))))))))
theorem xe54 (k wl : Nat) (h : Hp) : evF Tryz.prog xM (k + 1) wl 54 [t0,t1] h = bodyV (xX (xS k) 54 wl k false) Tryz.f54 [t0,t1] h := by kernel_rfl
-- names: xb54,

theorem xb77 (h : Hp) : bodyV (xX s 77 wl k false) Tryz.f77 [t0,t1] h =
  bm (vLoad s.P 23 t0 h) h fun v1 h2 =>
  bm (vLoad s.P 3 t1 h2) h2 fun v3 h4 =>
  bp (callV (xX s 77 wl k false) false true (.fn (.func 59) [] []) [v1,v3] h4) fun v5 h6 =>
  bm (vBin s.P .add 3 v5 (V.lit (Value.int .i64 1))) h6 fun v7 h8 =>
  some (v7,h8) :=
  bodyV_run rfl (go_seq (go_reg0
  (go_op0 rfl rfl (st_id (v := (V.lit (Value.int .i64 0))) (H := h) (by kernel_rfl)
  (eN
  (go_seq (go_reg0
  (pM fun v1 h2 =>
  (pM fun v3 h4 =>
  (pP fun v5 h6 =>
  (pM fun v7 h8 =>
  (pI v7 h8
  (eN
  (go_ret (by kernel_rfl)))))))))))))))
theorem xe77 (k wl : Nat) (h : Hp) : evF Tryz.prog xM (k + 1) wl 77 [t0,t1] h = bodyV (xX (xS k) 77 wl k false) Tryz.f77 [t0,t1] h := by kernel_rfl
-- names: xb77,

theorem xb113 (h : Hp) : bodyV (xX s 113 wl k false) Tryz.f113 [t0,t1,t2] h =
  bp (opBox t0 h) fun v1 h2 =>
  bp (opBox t1 h2) fun v3 h4 =>
  bp (opBox t2 h4) fun v5 h6 =>
  bm (vLoad s.P 23 v1 h6) h6 fun v7 h8 =>
  bm (vLoad s.P 3 v3 h8) h8 fun v9 h10 =>
  bp (callV (xX s 113 wl k false) false true (.fn (.func 75) [] []) [v7,v9,(.fn (.func 138) [] [v1,v3,v5])] h10) fun v11 h12 =>
  some (v11,h12) :=
  bodyV_run rfl (go_seq (go_reg0
  (pP fun v1 h2 =>
  (pP fun v3 h4 =>
  (pP fun v5 h6 =>
  (go_op0 rfl rfl (st_id (v := (V.lit (Value.int .i64 0))) (H := h6) (by kernel_rfl)
  (eN
  (go_seq (go_reg0
  (pM fun v7 h8 =>
  (pM fun v9 h10 =>
  (go_op0 rfl rfl (st_id (v := (.fn (.func 138) [] [v1,v3,v5])) (H := h10) (by kernel_rfl)
  (pP fun v11 h12 =>
  (pI v11 h12
  (eN
  (go_ret (by kernel_rfl)))))))))))))))))))
theorem xe113 (k wl : Nat) (h : Hp) : evF Tryz.prog xM (k + 1) wl 113 [t0,t1,t2] h = bodyV (xX (xS k) 113 wl k false) Tryz.f113 [t0,t1,t2] h := by kernel_rfl
-- names: xb113,
noncomputable def xg138_0 : Code := codeAt (bodyOf Tryz.f138) [1,0]
theorem xo138_1 : orderIx (opsOf xg138_0) = [0,1,2,3,4,5,6,7,8,9,10,11,12] := by kernel_rfl
theorem xo138_1a : (rgOf (opsOf xg138_0)).any = false := by kernel_rfl
theorem xo138_1r : regOk (opsOf xg138_0) = true := by kernel_rfl
theorem xb138 (h : Hp) : bodyV (xX s 138 wl k false) Tryz.f138 [t0,t1,t2] h =
  bm (vLoad s.P 23 t0 h) h fun v1 h2 =>
  bm (vLoad s.P 3 t1 h2) h2 fun v3 h4 =>
  bp (callV (xX s 138 wl k false) true true (.fn (.func 59) [] []) [v1,v3] h4) fun v5 h6 =>
  bm (vBin s.P .add 3 v5 (V.lit (Value.int .i64 3))) h6 fun v7 h8 =>
  stO h.length t2 (
  bm (vLoad s.P 28 t2 h8) h8 fun v9 h10 =>
  bm (vFieldAddr s.P 23 t0 1) h10 fun v11 h12 =>
  stO h.length v11 (
  bm (vLoad s.P 3 v11 h12) h12 fun v13 h14 =>
  bm (vBin s.P .sub 3 v13 (V.lit (Value.int .i64 1))) h14 fun v15 h16 =>
  bm (vConv s.P 3 28 v15) h16 fun v17 h18 =>
  bm (vBin s.P .and 28 v9 v17) h18 fun v19 h20 =>
  bm (vConv s.P 28 3 v19) h20 fun v21 h22 =>
  bm (vBin s.P .add 3 v7 v21) h22 fun v23 h24 =>
  some (v23,h24))) :=
  bodyV_run rfl (go_seq (go_reg0
  (go_op0 rfl rfl (st_id (v := (V.lit (Value.int .i64 0))) (H := h) (by kernel_rfl)
  (eN
  (go_seq (go_reg1 xo138_1r
  (qM xo138_1 xo138_1a fun v1 h2 =>
  (qM xo138_1 xo138_1a fun v3 h4 =>
  (qP xo138_1 xo138_1a fun v5 h6 =>
  (qM xo138_1 xo138_1a fun v7 h8 =>
  (go_op1 xo138_1 xo138_1a rfl rfl rfl (st_yes (by kernel_rfl) (st_bm (by kernel_rfl) fun v9 h10 =>
  (qM xo138_1 xo138_1a fun v11 h12 =>
  (go_op1 xo138_1 xo138_1a rfl rfl rfl (st_yes (by kernel_rfl) (st_bm (by kernel_rfl) fun v13 h14 =>
  (qM xo138_1 xo138_1a fun v15 h16 =>
  (qM xo138_1 xo138_1a fun v17 h18 =>
  (qM xo138_1 xo138_1a fun v19 h20 =>
  (qM xo138_1 xo138_1a fun v21 h22 =>
  (qM xo138_1 xo138_1a fun v23 h24 =>
  (qI xo138_1 xo138_1a v23 h24
  (go_end1 xo138_1 (by kernel_rfl) xo138_1a
  (go_ret (by kernel_rfl)))))))))))))))))))))))))))
theorem xe138 (k wl : Nat) (h : Hp) : evF Tryz.prog xM (k + 1) wl 138 [t0,t1,t2] h = bodyV (xX (xS k) 138 wl k false) Tryz.f138 [t0,t1,t2] h := by kernel_rfl
-- names: xb138,

theorem xb130 (h : Hp) : bodyV (xX s 130 wl k false) Tryz.f130 [t0,t1] h =
  bp (opBox t0 h) fun v1 h2 =>
  bp (opBox t1 h2) fun v3 h4 =>
  bm (vLoad s.P 23 v1 h4) h4 fun v5 h6 =>
  bm (vLoad s.P 3 v3 h6) h6 fun v7 h8 =>
  bp (callV (xX s 130 wl k false) false true (.fn (.func 75) [] []) [v5,v7,(.fn (.func 143) [] [v1,v3])] h8) fun v9 h10 =>
  some (v9,h10) :=
  bodyV_run rfl (go_seq (go_reg0
  (pP fun v1 h2 =>
  (pP fun v3 h4 =>
  (go_op0 rfl rfl (st_id (v := (V.lit (Value.int .i64 0))) (H := h4) (by kernel_rfl)
  (eN
  (go_seq (go_reg0
  (pM fun v5 h6 =>
  (pM fun v7 h8 =>
  (go_op0 rfl rfl (st_id (v := (.fn (.func 143) [] [v1,v3])) (H := h8) (by kernel_rfl)
  (pP fun v9 h10 =>
  (pI v9 h10
  (eN
  (go_ret (by kernel_rfl))))))))))))))))))
theorem xe130 (k wl : Nat) (h : Hp) : evF Tryz.prog xM (k + 1) wl 130 [t0,t1] h = bodyV (xX (xS k) 130 wl k false) Tryz.f130 [t0,t1] h := by kernel_rfl
-- names: xb130,

theorem xb143 (h : Hp) : bodyV (xX s 143 wl k false) Tryz.f143 [t0,t1] h =
  bm (vLoad s.P 23 t0 h) h fun v1 h2 =>
  bm (vLoad s.P 3 t1 h2) h2 fun v3 h4 =>
  bp (callV (xX s 143 wl k false) false true (.fn (.func 59) [] []) [v1,v3] h4) fun v5 h6 =>
  bm (vBin s.P .add 3 v5 (V.lit (Value.int .i64 2))) h6 fun v7 h8 =>
  some (v7,h8) :=
  bodyV_run rfl (go_seq (go_reg0
  (go_op0 rfl rfl (st_id (v := (V.lit (Value.int .i64 0))) (H := h) (by kernel_rfl)
  (eN
  (go_seq (go_reg0
  (pM fun v1 h2 =>
  (pM fun v3 h4 =>
  (pP fun v5 h6 =>
  (pM fun v7 h8 =>
  (pI v7 h8
  (eN
  (go_ret (by kernel_rfl)))))))))))))))
theorem xe143 (k wl : Nat) (h : Hp) : evF Tryz.prog xM (k + 1) wl 143 [t0,t1] h = bodyV (xX (xS k) 143 wl k false) Tryz.f143 [t0,t1] h := by kernel_rfl
-- names: xb143,

theorem xb125 (h : Hp) : bodyV (xX s 125 wl k false) Tryz.f125 [t0,t1] h =
  bp (opBox t0 h) fun v1 h2 =>
  bp (opBox t1 h2) fun v3 h4 =>
  bm (vLoad s.P 23 v1 h4) h4 fun v5 h6 =>
  bp (callV (xX s 125 wl k false) false true (.fn (.func 75) [] []) [v5,(V.lit (Value.int .i64 0)),(.fn (.func 141) [] [v3,v1])] h6) fun v7 h8 =>
  some (v7,h8) :=
  bodyV_run rfl (go_seq (go_reg0
  (pP fun v1 h2 =>
  (pP fun v3 h4 =>
  (go_op0 rfl rfl (st_id (v := (V.lit (Value.int .i64 0))) (H := h4) (by kernel_rfl)
  (eN
  (go_seq (go_reg0
  (pM fun v5 h6 =>
  (go_op0 rfl rfl (st_id (v := (.fn (.func 141) [] [v3,v1])) (H := h6) (by kernel_rfl)
  (pP fun v7 h8 =>
  (pI v7 h8
  (eN
  (go_ret (by kernel_rfl)))))))))))))))))
theorem xe125 (k wl : Nat) (h : Hp) : evF Tryz.prog xM (k + 1) wl 125 [t0,t1] h = bodyV (xX (xS k) 125 wl k false) Tryz.f125 [t0,t1] h := by kernel_rfl
-- names: xb125,

theorem xb141 (h : Hp) : bodyV (xX s 141 wl k false) Tryz.f141 [t0,t1] h =
  bm (vLoad s.P 28 t0 h) h fun v1 h2 =>
  bm (vFieldAddr s.P 23 t1 2) h2 fun v3 h4 =>
  bm (vLoad s.P 3 v3 h4) h4 fun v5 h6 =>
  bm (vConv s.P 3 28 v5) h6 fun v7 h8 =>
  bm (vBin s.P .rem 28 v1 v7) h8 fun v9 h10 =>
  bm (vConv s.P 28 3 v9) h10 fun v11 h12 =>
  bm (vBin s.P .add 3 (V.lit (Value.int .i64 6)) v11) h12 fun v13 h14 =>
  some (v13,h14) :=
  bodyV_run rfl (go_seq (go_reg0
  (go_op0 rfl rfl (st_id (v := (V.lit (Value.int .i64 0))) (H := h) (by kernel_rfl)
  (eN
  (go_seq (go_reg0
  (pM fun v1 h2 =>
  (pM fun v3 h4 =>
  (pM fun v5 h6 =>
  (pM fun v7 h8 =>
  (pM fun v9 h10 =>
  (pM fun v11 h12 =>
  (pM fun v13 h14 =>
  (pI v13 h14
  (eN
  (go_ret (by kernel_rfl))))))))))))))))))
theorem xe141 (k wl : Nat) (h : Hp) : evF Tryz.prog xM (k + 1) wl 141 [t0,t1] h = bodyV (xX (xS k) 141 wl k false) Tryz.f141 [t0,t1] h := by kernel_rfl
-- names: xb141,

theorem xb127 (h : Hp) : bodyV (xX s 127 wl k false) Tryz.f127 [t0,t1] h =
  bp (opBox t0 h) fun v1 h2 =>
  bp (opBox t1 h2) fun v3 h4 =>
  bm (vLoad s.P 23 v1 h4) h4 fun v5 h6 =>
  bp (callV (xX s 127 wl k false) false true (.fn (.func 75) [] []) [v5,(V.lit (Value.int .i64 0)),(.fn (.func 142) [] [v1,v3])] h6) fun v7 h8 =>
  some (v7,h8) :=
  bodyV_run rfl (go_seq (go_reg0
  (pP fun v1 h2 =>
  (pP fun v3 h4 =>
  (go_op0 rfl rfl (st_id (v := (V.lit (Value.int .i64 0))) (H := h4) (by kernel_rfl)
  (eN
  (go_seq (go_reg0
  (pM fun v5 h6 =>
  (go_op0 rfl rfl (st_id (v := (.fn (.func 142) [] [v1,v3])) (H := h6) (by kernel_rfl)
  (pP fun v7 h8 =>
  (pI v7 h8
  (eN
  (go_ret (by kernel_rfl)))))))))))))))))
theorem xe127 (k wl : Nat) (h : Hp) : evF Tryz.prog xM (k + 1) wl 127 [t0,t1] h = bodyV (xX (xS k) 127 wl k false) Tryz.f127 [t0,t1] h := by kernel_rfl
-- names: xb127,
noncomputable def xg142_0 : Code := codeAt (bodyOf Tryz.f142) [1,0]
theorem xo142_1 : orderIx (opsOf xg142_0) = [0,1,2,3,4,5,6,7,8,9,10] := by kernel_rfl
theorem xo142_1a : (rgOf (opsOf xg142_0)).any = false := by kernel_rfl
theorem xo142_1r : regOk (opsOf xg142_0) = true := by kernel_rfl
theorem xb142 (h : Hp) : bodyV (xX s 142 wl k false) Tryz.f142 [t0,t1] h =
  bm (vFieldAddr s.P 23 t0 2) h fun v1 h2 =>
  bm (vLoad s.P 3 v1 h2) h2 fun v3 h4 =>
  bm (vBin s.P .add 3 (V.lit (Value.int .i64 6)) v3) h4 fun v5 h6 =>
  bm (vLoad s.P 28 t1 h6) h6 fun v7 h8 =>
  bm (vFieldAddr s.P 23 t0 2) h8 fun v9 h10 =>
  bm (vLoad s.P 3 v9 h10) h10 fun v11 h12 =>
  bm (vConv s.P 3 28 v11) h12 fun v13 h14 =>
  bm (vBin s.P .rem 28 v7 v13) h14 fun v15 h16 =>
  bm (vConv s.P 28 3 v15) h16 fun v17 h18 =>
  bm (vBin s.P .add 3 v5 v17) h18 fun v19 h20 =>
  some (v19,h20) :=
  bodyV_run rfl (go_seq (go_reg0
  (go_op0 rfl rfl (st_id (v := (V.lit (Value.int .i64 0))) (H := h) (by kernel_rfl)
  (eN
  (go_seq (go_reg1 xo142_1r
  (qM xo142_1 xo142_1a fun v1 h2 =>
  (qM xo142_1 xo142_1a fun v3 h4 =>
  (qM xo142_1 xo142_1a fun v5 h6 =>
  (qM xo142_1 xo142_1a fun v7 h8 =>
  (qM xo142_1 xo142_1a fun v9 h10 =>
  (qM xo142_1 xo142_1a fun v11 h12 =>
  (qM xo142_1 xo142_1a fun v13 h14 =>
  (qM xo142_1 xo142_1a fun v15 h16 =>
  (qM xo142_1 xo142_1a fun v17 h18 =>
  (qM xo142_1 xo142_1a fun v19 h20 =>
  (qI xo142_1 xo142_1a v19 h20
  (go_end1 xo142_1 (by kernel_rfl) xo142_1a
  (go_ret (by kernel_rfl)))))))))))))))))))))
theorem xe142 (k wl : Nat) (h : Hp) : evF Tryz.prog xM (k + 1) wl 142 [t0,t1] h = bodyV (xX (xS k) 142 wl k false) Tryz.f142 [t0,t1] h := by kernel_rfl
-- names: xb142,

theorem xb53 (h : Hp) : bodyV (xX s 53 wl k false) Tryz.f53 [t0,t1] h =
  bm (vBin s.P .sub 28 t0 t1) h fun v1 h2 =>
  bm (vConv s.P 28 3 v1) h2 fun v3 h4 =>
  some (v3,h4) :=
  bodyV_run rfl (go_seq (go_reg0
  (go_op0 rfl rfl (st_id (v := (V.lit (Value.int .i64 0))) (H := h) (by kernel_rfl)
  (eN
  (go_seq (go_reg0
  (pI t0 h
  (pI t1 h
  (pM fun v1 h2 =>
  (pM fun v3 h4 =>
  (pI v3 h4
  (eN
  (go_ret (by kernel_rfl)))))))))))))))
theorem xe53 (k wl : Nat) (h : Hp) : evF Tryz.prog xM (k + 1) wl 53 [t0,t1] h = bodyV (xX (xS k) 53 wl k false) Tryz.f53 [t0,t1] h := by kernel_rfl
-- names: xb53,
end Go.Ab
