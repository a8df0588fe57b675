/- The program's code,point by point: printed by gen.py. -/
import Derived.Test.YtcmdnjaenhbdpaaGreatR5Seat
import Derived.Test.YtcmdnjaenhbdpaaGreatAbLibC
set_option linter.unusedVariables false
set_option linter.unusedSimpArgs false
set_option maxRecDepth 100000
set_option linter.unusedVariables false
namespace Go.Ab
open Go.Proofs
variable (s : Sys) (k wl : Nat) (m0 : Nat) (ac : List Nat × List Nat) (t0 t1 t2 t3 t4 t5 t6 t7 t8 t9 ta tb tc td te tf tg th ti tj tk tl tm tn tp tq : V)
noncomputable def xl15_0 : Code := codeAt (bodyOf Tryz.f15) [1,1,0,1,0,0]
noncomputable def xk15_0 : List Fr := [.block 0,.seq (codeAt (bodyOf Tryz.f15) [1,1,1])]
noncomputable def xg15_0 : Code := codeAt (bodyOf Tryz.f15) [1,1,0,1,0,0,1,0,0,0]
theorem xo15_6 : orderIx (opsOf xg15_0) = [0,1,2,3,4,5,6,7,8] := by kernel_rfl
theorem xo15_6a : (rgOf (opsOf xg15_0)).any = false := by kernel_rfl
theorem xo15_6r : regOk (opsOf xg15_0) = true := by kernel_rfl
theorem xb15 (h : Hp) : bodyV (xX s 15 wl k false) Tryz.f15 [t0,t1] h =
  bp (opLen s.P 35 t0 h) fun v1 h2 =>
  bp (opLen s.P 35 t1 h2) fun v3 h4 =>
  bm (vBin s.P .neq 3 v1 v3) h4 fun v5 h6 =>
  cnd v5 (
  some ((V.lit (Value.bool false)),h6)) (
  itX (xX s 15 wl k false) xl15_0 h6.length (runK (xX s 15 wl k false) (bodyK s.P Tryz.f15) xk15_0) k ⟨[(V.kill h6.length t0),(V.kill h6.length t1),(V.kill h6.length uu),(V.kill h6.length uu),(V.lit (Value.bool false)),(V.lit (Value.int .i64 0)),(V.kill h6.length t0),(V.kill h6.length v1),(V.kill h6.length t1),(V.kill h6.length v3),(V.kill h6.length v5),.junk,.junk,.junk,.junk,.junk,.junk,.junk,.junk,.junk,.junk,.junk,.junk,.junk,.junk,.junk],cutH h6.length h6⟩) :=
  bodyV_run rfl (go_seq (go_reg0
  (go_op0 rfl rfl (st_id (v := (V.lit (Value.bool false))) (H := h) (by kernel_rfl)
  (eN
  (go_seq (go_seq (go_reg0
  (pI t0 h
  (pP fun v1 h2 =>
  (pI t1 h2
  (pP fun v3 h4 =>
  (pM fun v5 h6 =>
  (eN
  (go_cond (by kernel_rfl)
  (go_seq (go_reg0
  (go_op0 rfl rfl (st_id (v := (V.lit (Value.bool false))) (H := h6) (by kernel_rfl)
  (eN
  (go_ret (rt_seq_ret (by kernel_rfl))))))))
  (go_skip (go_seq (go_seq (go_reg0
  (go_op0 rfl rfl (st_id (v := (V.lit (Value.int .i64 0))) (H := h6) (by kernel_rfl)
  (eN
  (go_block (by kernel_rfl))))))))))))))))))))))))
theorem xe15 (k wl : Nat) (h : Hp) : evF Tryz.prog xM (k + 1) wl 15 [t0,t1] h = bodyV (xX (xS k) 15 wl k false) Tryz.f15 [t0,t1] h := by kernel_rfl
theorem xz15 (P : Program) (h : Hp) : bodyK P Tryz.f15 .ret ⟨[t0,t1,t2,t3,t4,t5,t6,t7,t8,t9,ta,tb,tc,td,te,tf,tg,th,ti,tj,tk,tl,tm,tn,tp,tq],h⟩ = some (t4,h) := by kernel_rfl
theorem xr15_0 (s : Sys) (K : Out → St → Option (V × Hp)) (k wl : Nat) (rd : Bool) (n n0 : Nat) (h : Hp) : itX (xX s 15 wl k rd) xl15_0 n0 K (n + 1) ⟨[t0,t1,t2,t3,t4,t5,t6,t7,t8,t9,ta,tb,tc,td,te,tf,tg,th,ti,tj,tk,tl,tm,tn,tp,tq],h⟩ =
  bp (opLen s.P 35 t0 h) fun v7 h8 =>
  bm (vBin s.P .lss 3 t5 v7) h8 fun v9 h10 =>
  cnd v9 (
  bm (vIndexAddr s.P 35 t0 t5 h10) h10 fun v11 h12 =>
  bm (vLoad s.P 44 v11 h12) h12 fun v13 h14 =>
  bm (vIndexAddr s.P 35 t1 t5 h14) h14 fun v15 h16 =>
  bm (vLoad s.P 44 v15 h16) h16 fun v17 h18 =>
  bm (vBin s.P .neq 44 v13 v17) h18 fun v19 h20 =>
  cnd v19 (
  K .ret ⟨[t0,t1,t2,t3,(V.lit (Value.bool false)),t5,t6,t7,t8,t9,ta,t5,t0,v7,v9,tf,tg,t0,t5,v11,v13,t1,t5,v15,v17,v19],h20⟩) (
  bm (vBin s.P .add 3 t5 (V.lit (Value.int .i64 1))) h20 fun v21 h22 =>
  itX (xX s 15 wl k rd) xl15_0 n0 K n ⟨[(V.kill n0 t0),(V.kill n0 t1),(V.kill n0 t2),(V.kill n0 t3),(V.kill n0 t4),(V.kill n0 v21),(V.kill n0 t6),(V.kill n0 t7),(V.kill n0 t8),(V.kill n0 t9),(V.kill n0 ta),.junk,.junk,.junk,.junk,.junk,.junk,.junk,.junk,.junk,.junk,.junk,.junk,.junk,.junk,.junk],cutH n0 h22⟩)) (
  K (.exit 0) ⟨[(V.kill n0 t0),(V.kill n0 t1),(V.kill n0 t2),(V.kill n0 t3),(V.kill n0 t4),(V.kill n0 t5),(V.kill n0 t6),(V.kill n0 t7),(V.kill n0 t8),(V.kill n0 t9),(V.kill n0 ta),.junk,.junk,.junk,.junk,.junk,.junk,.junk,.junk,.junk,.junk,.junk,.junk,.junk,.junk,.junk],cutH n0 h10⟩) :=
  itX_step (go_seq (go_seq (go_reg0
  (pI t5 h
  (pI t0 h
  (pP fun v7 h8 =>
  (pM fun v9 h10 =>
  (eN
  (go_cond (by kernel_rfl)
  (go_skip (go_seq (go_block (go_seq (go_reg1 xo15_6r
  (qI xo15_6 xo15_6a t0 h10
  (qI xo15_6 xo15_6a t5 h10
  (qM xo15_6 xo15_6a fun v11 h12 =>
  (qM xo15_6 xo15_6a fun v13 h14 =>
  (qI xo15_6 xo15_6a t1 h14
  (qI xo15_6 xo15_6a t5 h14
  (qM xo15_6 xo15_6a fun v15 h16 =>
  (qM xo15_6 xo15_6a fun v17 h18 =>
  (qM xo15_6 xo15_6a fun v19 h20 =>
  (go_end1 xo15_6 (by kernel_rfl) xo15_6a
  (go_cond (by kernel_rfl)
  (go_seq (go_reg0
  (go_op0 rfl rfl (st_id (v := (V.lit (Value.bool false))) (H := h20) (by kernel_rfl)
  (eN
  (go_ret (rt_block_ret (rt_seq_ret (by kernel_rfl)))))))))
  (go_skip (rt_block_norm (go_reg0
  (pI t5 h20
  (pM fun v21 h22 =>
  (pI v21 h22
  (eN
  (by kernel_rfl))))))))))))))))))))))))
  (go_exit (rt_seq_exit (by kernel_rfl))))))))))))
theorem xj15_0 (h : Hp) : runK (xX s 15 wl k false) (bodyK s.P Tryz.f15) xk15_0 (.exit 0) ⟨[t0,t1,t2,t3,t4,t5,t6,t7,t8,t9,ta,tb,tc,td,te,tf,tg,th,ti,tj,tk,tl,tm,tn,tp,tq],h⟩ =
  some ((V.lit (Value.bool true)),h) :=
  (rt_block_eq (go_seq (go_reg0
  (go_op0 rfl rfl (st_id (v := (V.lit (Value.bool true))) (H := h) (by kernel_rfl)
  (eN
  (go_ret (by kernel_rfl))))))))
theorem xk15_0_ret (cx : Cx) (K : Out → St → Option (V × Hp)) (s : St) : runK cx K xk15_0 .ret s = K .ret s := by kernel_rfl
-- names: xb15,xz15,xr15_0,xj15_0,xk15_0_ret
end Go.Ab
