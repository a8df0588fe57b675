/- The program's code,point by point: printed by gen.py. -/
import Derived.Test.YtcmdnjaenhbdpaaGreatR5Seat
import Derived.Test.YtcmdnjaenhbdpaaGreatAbLibC
set_option linter.unusedVariables false
set_option linter.unusedSimpArgs false
set_option maxRecDepth 100000
set_option linter.unusedVariables false
namespace Go.Ab
open Go.Proofs
variable (s : Sys) (k wl : Nat) (m0 : Nat) (ac : List Nat × List Nat) (t0 t1 t2 t3 t4 t5 t6 t7 t8 t9 ta tb tc : V)
noncomputable def xl17_0 : Code := codeAt (bodyOf Tryz.f17) [1,1,0,1,0,0]
noncomputable def xk17_0 : List Fr := [.block 0,.seq (codeAt (bodyOf Tryz.f17) [1,1,1])]
theorem xb17 (h : Hp) : bodyV (xX s 17 wl k false) Tryz.f17 [t0] h =
  bp (opBox t0 h) fun v1 h2 =>
  bp (some (.own h2.length 0 0,h2 ++ [.rows 0 [] 0 true])) fun v3 h4 =>
  bp (some (.own h4.length 0 0,h4 ++ [.rows 0 [] 0 true])) fun v5 h6 =>
  bm (vLoad s.P 23 v1 h6) h6 fun v7 h8 =>
  bp (callV (xX s 17 wl k false) false true (.fn (.func 38) [] []) [v7] h8) fun v9 h10 =>
  itX (xX s 17 wl k false) xl17_0 h10.length (runK (xX s 17 wl k false) (bodyK s.P Tryz.f17) xk17_0) k ⟨[(V.kill h10.length t0),(V.kill h10.length v1),(V.kill h10.length v3),(V.kill h10.length v5),(V.kill h10.length v7),(V.kill h10.length v9),(V.lit (Value.int .i64 0)),.junk,.junk,.junk,.junk,.junk,(V.kill h10.length uu)],cutH h10.length h10⟩ :=
  bodyV_run rfl (go_seq (go_reg0
  (pP fun v1 h2 =>
  (pP fun v3 h4 =>
  (eN
  (go_seq (go_reg0
  (pP fun v5 h6 =>
  (eN
  (go_seq (go_seq (go_reg0
  (pM fun v7 h8 =>
  (pP fun v9 h10 =>
  (go_op0 rfl rfl (st_id (v := (V.lit (Value.int .i64 0))) (H := h10) (by kernel_rfl)
  (eN
  (go_block (by kernel_rfl)))))))))))))))))))
theorem xe17 (k wl : Nat) (h : Hp) : evF Tryz.prog xM (k + 1) wl 17 [t0] h = bodyV (xX (xS k) 17 wl k false) Tryz.f17 [t0] h := by kernel_rfl
theorem xz17 (P : Program) (h : Hp) : bodyK P Tryz.f17 .ret ⟨[t0,t1,t2,t3,t4,t5,t6,t7,t8,t9,ta,tb,tc],h⟩ = some (t2,h) := by kernel_rfl
theorem xr17_0 (s : Sys) (K : Out → St → Option (V × Hp)) (k wl : Nat) (rd : Bool) (n n0 : Nat) (h : Hp) : itX (xX s 17 wl k rd) xl17_0 n0 K (n + 1) ⟨[t0,t1,t2,t3,t4,t5,t6,t7,t8,t9,ta,tb,tc],h⟩ =
  bm (vBin s.P .lss 3 t6 t5) h fun v11 h12 =>
  cnd v11 (
  bp (vBuildSlice s.P wl 26 1 [(0,(V.lit (Value.int .u64 0)))] h12) fun v13 h14 =>
  bp (opApp s.P wl 26 26 t3 v13 h14) fun v15 h16 =>
  bm (vBin s.P .add 3 t6 (V.lit (Value.int .i64 1))) h16 fun v17 h18 =>
  itX (xX s 17 wl k rd) xl17_0 n0 K n ⟨[(V.kill n0 t0),(V.kill n0 t1),(V.kill n0 t2),(V.kill n0 v15),(V.kill n0 t4),(V.kill n0 t5),(V.kill n0 v17),.junk,.junk,.junk,.junk,.junk,(V.kill n0 tc)],cutH n0 h18⟩) (
  K (.exit 0) ⟨[(V.kill n0 t0),(V.kill n0 t1),(V.kill n0 t2),(V.kill n0 t3),(V.kill n0 t4),(V.kill n0 t5),.junk,.junk,.junk,.junk,.junk,.junk,(V.kill n0 tc)],cutH n0 h12⟩) :=
  itX_step (go_seq (go_reg0
  (pM fun v11 h12 =>
  (eN
  (go_seq (go_cond (by kernel_rfl)
  (go_skip (go_seq (go_block (go_reg0
  (pI t3 h12
  (pP fun v13 h14 =>
  (pP fun v15 h16 =>
  (pI v15 h16
  (eN
  (rt_block_norm (go_reg0
  (pM fun v17 h18 =>
  (pI v17 h18
  (eN
  (by kernel_rfl)))))))))))))))
  (go_exit (rt_seq_exit (by kernel_rfl)))))))))
theorem xj17_0 (h : Hp) : runK (xX s 17 wl k false) (bodyK s.P Tryz.f17) xk17_0 (.exit 0) ⟨[t0,t1,t2,t3,t4,t5,t6,t7,t8,t9,ta,tb,tc],h⟩ =
  some (t3,h) :=
  (rt_block_eq (go_seq (go_reg0
  (pI t3 h
  (pI t3 h
  (eN
  (go_ret (by kernel_rfl))))))))
theorem xk17_0_ret (cx : Cx) (K : Out → St → Option (V × Hp)) (s : St) : runK cx K xk17_0 .ret s = K .ret s := by kernel_rfl
-- names: xb17,xz17,xr17_0,xj17_0,xk17_0_ret
end Go.Ab
