/- The program's code,point by point: printed by gen.py. -/
import Derived.Test.YtcmdnjaenhbdpaaGreatR5Seat
import Derived.Test.YtcmdnjaenhbdpaaGreatAbLibC
set_option linter.unusedVariables false
set_option linter.unusedSimpArgs false
set_option maxRecDepth 100000
set_option linter.unusedVariables false
namespace Go.Ab
open Go.Proofs
variable (s : Sys) (k wl : Nat) (m0 : Nat) (ac : List Nat × List Nat) (t0 t1 t2 t3 t4 t5 t6 t7 t8 t9 ta tb tc td te tf tg th ti tj tk tl tm tn tp tq tr ts tt tu tv tw tx ty tz tA tB tC : V)
noncomputable def xl19_0 : Code := codeAt (bodyOf Tryz.f19) [1,0,1,0,0]
noncomputable def xk19_0 : List Fr := [.block 0,.seq (codeAt (bodyOf Tryz.f19) [1,1])]
noncomputable def xg19_0 : Code := codeAt (bodyOf Tryz.f19) [1,0,1,0,0,0,0]
noncomputable def xk19_1 : List Fr := [.seq (codeAt (bodyOf Tryz.f19) [1,0,1,0,0,0,1]),.seq (codeAt (bodyOf Tryz.f19) [1,0,1,0,0,1])]
theorem xb19 (h : Hp) : bodyV (xX s 19 wl k false) Tryz.f19 [t0] h =
  itX (xX s 19 wl k false) xl19_0 h.length (runK (xX s 19 wl k false) (bodyK s.P Tryz.f19) xk19_0) k ⟨[(V.kill h.length t0),(V.kill h.length uu),(V.lit (Value.bool false)),(V.lit (Value.int .i64 0)),.junk,.junk,.junk,.junk,.junk,.junk,.junk,.junk,.junk,.junk,.junk,.junk,.junk,.junk,.junk,.junk,.junk,(V.kill h.length uu),(V.kill h.length uu),(V.kill h.length uu)],cutH h.length h⟩ :=
  bodyV_run rfl (go_seq (go_reg0
  (go_op0 rfl rfl (st_id (v := (V.lit (Value.bool false))) (H := h) (by kernel_rfl)
  (eN
  (go_seq (go_seq (go_reg0
  (go_op0 rfl rfl (st_id (v := (V.lit (Value.int .i64 0))) (H := h) (by kernel_rfl)
  (eN
  (go_block (by kernel_rfl)))))))))))))
theorem xe19 (k wl : Nat) (h : Hp) : evF Tryz.prog xM (k + 1) wl 19 [t0] h = bodyV (xX (xS k) 19 wl k false) Tryz.f19 [t0] h := by kernel_rfl
theorem xz19 (P : Program) (h : Hp) : bodyK P Tryz.f19 .ret ⟨[t0,t1,t2,t3,t4,t5,t6,t7,t8,t9,ta,tb,tc,td,te,tf,tg,th,ti,tj,tk,tl,tm,tn],h⟩ = some (t2,h) := by kernel_rfl
theorem xr19_0 (s : Sys) (K : Out → St → Option (V × Hp)) (k wl : Nat) (rd : Bool) (n n0 : Nat) (zz : List V) (h : Hp) : itX (xX s 19 wl k rd) xl19_0 n0 K (n + 1) ⟨(t0::t1::t2::t3::t4::t5::t6::t7::t8::t9::ta::zz),h⟩ =
  bp (opLen s.P 24 t0 h) fun v1 h2 =>
  bm (vBin s.P .lss 3 t3 v1) h2 fun v3 h4 =>
  gd v3 (
  bm (vBin s.P .leq 3 t3 (V.lit (Value.int .i64 40))) h4 fun v5 h6 =>
  opsP (xX s 19 wl k rd) xg19_0 7 h.length ([],[]) (runK (xX s 19 wl k rd) (nextK (xX s 19 wl k rd) xl19_0 n0 K n) xk19_1) ⟨(t0::t1::t2::t3::t3::t0::v1::v3::(V.lit (Value.bool true))::t3::v5::zz),h6⟩) (
  opsP (xX s 19 wl k rd) xg19_0 7 h.length ([],[]) (runK (xX s 19 wl k rd) (nextK (xX s 19 wl k rd) xl19_0 n0 K n) xk19_1) ⟨(t0::t1::t2::t3::t3::t0::v1::v3::(V.lit (Value.bool false))::uu::uu::zz),h4⟩) (
  opsP (xX s 19 wl k rd) xg19_0 6 h.length ([],[]) (runK (xX s 19 wl k rd) (nextK (xX s 19 wl k rd) xl19_0 n0 K n) xk19_1) ⟨(t0::t1::t2::t3::t3::t0::v1::v3::v3::uu::ta::zz),h4⟩) :=
  itX_step (go_seq (go_seq (go_reg0
  (pI t3 h
  (pI t0 h
  (pP fun v1 h2 =>
  (pM fun v3 h4 =>
  (pI v3 h4
  (go_gdT0 rfl rfl rfl (by kernel_rfl)
  (st_id (v := t3) (H := h4) (by kernel_rfl)
  (rN (st_bm (by kernel_rfl) fun v5 h6 =>
  (by kernel_rfl))))
  (sK
  (by kernel_rfl))
  (by kernel_rfl))))))))))
theorem xj19_0 (h : Hp) : runK (xX s 19 wl k false) (bodyK s.P Tryz.f19) xk19_0 (.exit 0) ⟨[t0,t1,t2,t3,t4,t5,t6,t7,t8,t9,ta,tb,tc,td,te,tf,tg,th,ti,tj,tk,tl,tm,tn],h⟩ =
  bp (opLen s.P 24 t0 h) fun v7 h8 =>
  bm (vBin s.P .leq 3 v7 (V.lit (Value.int .i64 40))) h8 fun v9 h10 =>
  some (v9,h10) :=
  (rt_block_eq (go_seq (go_reg0
  (pI t0 h
  (pP fun v7 h8 =>
  (pM fun v9 h10 =>
  (pI v9 h10
  (eN
  (go_ret (by kernel_rfl))))))))))
theorem xm19_1 (s : Sys) (K : Out → St → Option (V × Hp)) (k wl : Nat) (rd : Bool) (n n0 : Nat) (m0 : Nat) (ac : List Nat × List Nat) (h : Hp) : opsP (xX s 19 wl k rd) xg19_0 7 m0 ac (runK (xX s 19 wl k rd) (nextK (xX s 19 wl k rd) xl19_0 n0 K n) xk19_1) ⟨[t0,t1,t2,t3,t4,t5,t6,t7,t8,t9,ta,tb,tc,td,te,tf,tg,th,ti,tj,tk,tl,tm,tn],h⟩ =
  bm (vPick t8 ta (V.lit (Value.bool false))) h fun v11 h12 =>
  cnd v11 (
  bm (vIndexAddr s.P 24 t0 t3 h12) h12 fun v13 h14 =>
  bm (vFieldAddr s.P 69 v13 1) h14 fun v15 h16 =>
  bm (vLoad s.P 65 v15 h16) h16 fun v17 h18 =>
  bp (opLen s.P 65 v17 h18) fun v19 h20 =>
  bm (vBin s.P .gtr 3 v19 (V.lit (Value.int .i64 40))) h20 fun v21 h22 =>
  cnd v21 (
  K .ret ⟨[t0,t1,(V.lit (Value.bool false)),t3,t4,t5,t6,t7,t8,t9,ta,v11,tc,td,t0,t3,v13,v15,v17,v19,v21,tl,tm,tn],h22⟩) (
  bm (vBin s.P .add 3 t3 (V.lit (Value.int .i64 1))) h22 fun v23 h24 =>
  itX (xX s 19 wl k rd) xl19_0 n0 K n ⟨[(V.kill n0 t0),(V.kill n0 t1),(V.kill n0 t2),(V.kill n0 v23),.junk,.junk,.junk,.junk,.junk,.junk,.junk,.junk,.junk,.junk,.junk,.junk,.junk,.junk,.junk,.junk,.junk,(V.kill n0 tl),(V.kill n0 tm),(V.kill n0 tn)],cutH n0 h24⟩)) (
  K (.exit 0) ⟨[(V.kill n0 t0),(V.kill n0 t1),(V.kill n0 t2),(V.kill n0 t3),.junk,.junk,.junk,.junk,.junk,.junk,.junk,.junk,.junk,.junk,.junk,.junk,.junk,.junk,.junk,.junk,.junk,(V.kill n0 tl),(V.kill n0 tm),(V.kill n0 tn)],cutH n0 h12⟩) :=
  (pM fun v11 h12 =>
  (eN
  (go_cond (by kernel_rfl)
  (go_skip (go_seq (go_block (go_seq (go_reg0
  (pI t0 h12
  (pI t3 h12
  (pM fun v13 h14 =>
  (pM fun v15 h16 =>
  (pM fun v17 h18 =>
  (pP fun v19 h20 =>
  (pM fun v21 h22 =>
  (eN
  (go_cond (by kernel_rfl)
  (go_seq (go_reg0
  (go_op0 rfl rfl (st_id (v := (V.lit (Value.bool false))) (H := h22) (by kernel_rfl)
  (eN
  (go_ret (rt_block_ret (rt_seq_ret (by kernel_rfl)))))))))
  (go_skip (rt_block_norm (go_reg0
  (pI t3 h22
  (pM fun v23 h24 =>
  (pI v23 h24
  (eN
  (by kernel_rfl))))))))))))))))))))))
  (go_exit (rt_seq_exit (by kernel_rfl))))))
theorem xk19_0_ret (cx : Cx) (K : Out → St → Option (V × Hp)) (s : St) : runK cx K xk19_0 .ret s = K .ret s := by kernel_rfl
theorem xk19_1_ret (cx : Cx) (K : Out → St → Option (V × Hp)) (s : St) : runK cx K xk19_1 .ret s = K .ret s := by kernel_rfl
-- names: xb19,xz19,xr19_0,xj19_0,xm19_1,xk19_0_ret,xk19_1_ret
noncomputable def xg39_0 : Code := codeAt (bodyOf Tryz.f39) [1,0,0]
noncomputable def xk39_0 : List Fr := [.seq (codeAt (bodyOf Tryz.f39) [1,0,1]),.seq (codeAt (bodyOf Tryz.f39) [1,1])]
noncomputable def xq39_0 : Code := codeAt (bodyOf Tryz.f39) [1,1,1,0,1,0]
noncomputable def xl39_0 : Code := codeAt (bodyOf Tryz.f39) [1,1,1,0,1,0,0]
noncomputable def xl39_1 : Code := codeAt (bodyOf Tryz.f39) [1,1,1,0,1,0,1]
noncomputable def xk39_1 : List Fr := [.block 0,.seq (codeAt (bodyOf Tryz.f39) [1,1,1,1])]
noncomputable def xg39_1 : Code := codeAt (bodyOf Tryz.f39) [1,1,1,0,1,0,1,0,0,0]
noncomputable def xk39_2 : List Fr := [.seq (codeAt (bodyOf Tryz.f39) [1,1,1,0,1,0,1,0,0,1]),.seq (codeAt (bodyOf Tryz.f39) [1,1,1,0,1,0,1,0,1]),.block 1]
theorem xq39_0_eq : xq39_0 = .rangeFunc (.tmp 17) #[18,19] xl39_0 xl39_1 := by kernel_rfl
theorem xb39 (h : Hp) : bodyV (xX s 39 wl k false) Tryz.f39 [t0] h =
  bp (opBox t0 h) fun v1 h2 =>
  bp (opAlloc s.P 4 h2) fun v3 h4 =>
  bm (vLoad s.P 24 v1 h4) h4 fun v5 h6 =>
  bp (opLen s.P 24 v5 h6) fun v7 h8 =>
  bm (vBin s.P .gtr 3 v7 (V.lit (Value.int .i64 30))) h8 fun v9 h10 =>
  gd v9 (
  opsP (xX s 39 wl k false) xg39_0 6 h4.length ([],[]) (runK (xX s 39 wl k false) (bodyK s.P Tryz.f39) xk39_0) ⟨[t0,v1,v3,uu,uu,uu,v5,v7,v9,(V.lit (Value.bool true)),uu,uu,uu,uu,uu,uu,uu,uu,uu,uu,uu,uu,uu,uu,uu,uu,uu,uu,uu,uu,uu,uu,uu,uu,uu,uu,uu,uu],h10⟩) (
  bm (vLoad s.P 24 v1 h10) h10 fun v11 h12 =>
  bp (callV (xX s 39 wl k false) false true (.fn (.func 60) [] []) [v11,(.fn (.func 61) [] [])] h12) fun v13 h14 =>
  opsP (xX s 39 wl k false) xg39_0 6 h4.length ([],[]) (runK (xX s 39 wl k false) (bodyK s.P Tryz.f39) xk39_0) ⟨[t0,v1,v3,uu,uu,uu,v5,v7,v9,(V.lit (Value.bool false)),v11,v13,uu,uu,uu,uu,uu,uu,uu,uu,uu,uu,uu,uu,uu,uu,uu,uu,uu,uu,uu,uu,uu,uu,uu,uu,uu,uu],h14⟩) (
  opsP (xX s 39 wl k false) xg39_0 5 h4.length ([],[]) (runK (xX s 39 wl k false) (bodyK s.P Tryz.f39) xk39_0) ⟨[t0,v1,v3,uu,uu,uu,v5,v7,v9,v9,uu,uu,uu,uu,uu,uu,uu,uu,uu,uu,uu,uu,uu,uu,uu,uu,uu,uu,uu,uu,uu,uu,uu,uu,uu,uu,uu,uu],h10⟩) :=
  bodyV_run rfl (go_seq (go_reg0
  (pP fun v1 h2 =>
  (pP fun v3 h4 =>
  (eN
  (go_seq (go_seq (go_reg0
  (pM fun v5 h6 =>
  (pP fun v7 h8 =>
  (pM fun v9 h10 =>
  (pI v9 h10
  (go_gdF0 rfl rfl rfl (by kernel_rfl)
  (sK
  (by kernel_rfl))
  (st_bm (by kernel_rfl) fun v11 h12 =>
  (rN (st_bp (by kernel_rfl) fun v13 h14 =>
  (by kernel_rfl))))
  (by kernel_rfl))))))))))))))
theorem xe39 (k wl : Nat) (h : Hp) : evF Tryz.prog xM (k + 1) wl 39 [t0] h = bodyV (xX (xS k) 39 wl k false) Tryz.f39 [t0] h := by kernel_rfl
theorem xz39 (P : Program) (h : Hp) : bodyK P Tryz.f39 .ret ⟨[t0,t1,t2,t3,t4,t5,t6,t7,t8,t9,ta,tb,tc,td,te,tf,tg,th,ti,tj,tk,tl,tm,tn,tp,tq,tr,ts,tt,tu,tv,tw,tx,ty,tz,tA,tB,tC],h⟩ = resO [vLoad P 4 t2 h] h := by kernel_rfl
theorem xm39_0 (zz : List V) (h : Hp) : opsP (xX s 39 wl k false) xg39_0 6 m0 ac (runK (xX s 39 wl k false) (bodyK s.P Tryz.f39) xk39_0) ⟨(t0::t1::t2::t3::t4::t5::t6::t7::t8::t9::ta::tb::tc::td::te::tf::tg::th::zz),h⟩ =
  bm (vPick t9 (V.lit (Value.bool true)) tb) h fun v15 h16 =>
  cnd v15 (
  bs (vStore s.P wl 4 t2 (V.lit (Value.bool false)) h16) fun h17 =>
  resO [vLoad s.P 4 t2 h17] h17) (
  bm (vLoad s.P 24 t1 h16) h16 fun v18 h19 =>
  bp (opLen s.P 24 v18 h19) fun v20 h21 =>
  bp (vMakeSlice s.P 85 v20 v20 h21) fun v22 h23 =>
  bp (opAlloc s.P 85 h23) fun v24 h25 =>
  bs (vStore s.P wl 85 v24 v22 h25) fun h26 =>
  bm (vLoad s.P 24 t1 h26) h26 fun v27 h28 =>
  bp (callV (xX s 39 wl k false) false true (.fn (.func 62) [] []) [v27] h28) fun v29 h30 =>
  execK (xX s 39 wl k false) xq39_0 none (runK (xX s 39 wl k false) (bodyK s.P Tryz.f39) xk39_1) ⟨(t0::t1::t2::v24::t4::t5::t6::t7::t8::t9::ta::tb::v15::v18::v20::v22::v27::v29::zz),h30⟩) :=
  (pM fun v15 h16 =>
  (eN
  (go_cond (by kernel_rfl)
  (go_seq (go_reg0
  (pS fun h17 =>
  (eN
  (go_ret (rt_seq_ret (by kernel_rfl)))))))
  (go_skip (go_seq (go_reg0
  (pM fun v18 h19 =>
  (pP fun v20 h21 =>
  (pP fun v22 h23 =>
  (pP fun v24 h25 =>
  (pS fun h26 =>
  (eN
  (go_seq (go_seq (go_reg0
  (pM fun v27 h28 =>
  (pP fun v29 h30 =>
  (eN
  (go_block (by kernel_rfl))))))))))))))))))))
theorem xj39_1 (s : Sys) (k wl : Nat) (zz : List V) (h : Hp) : runK (xX s 39 wl k false) (bodyK s.P Tryz.f39) xk39_1 .norm ⟨(t0::t1::t2::zz),h⟩ =
  bs (vStore s.P wl 4 t2 (V.lit (Value.bool true)) h) fun h31 =>
  resO [vLoad s.P 4 t2 h31] h31 :=
  (rt_block_norm (go_seq (go_reg0
  (pS fun h31 =>
  (eN
  (go_ret (by kernel_rfl)))))))
theorem xq39_1_1_1_0_1_0_1 (s : Sys) (K : Out → St → Option (V × Hp)) (k wl : Nat) (rd : Bool) (h : Hp) : runK (xX s 39 wl k rd) K [.seq xl39_1] .norm ⟨[t0,t1,t2,t3,t4,t5,t6,t7,t8,t9,ta,tb,tc,td,te,tf,tg,th,ti,tj,tk,tl,tm,tn,tp,tq,tr,ts,tt,tu,tv,tw,tx,ty,tz,tA,tB,tC],h⟩ =
  bm (vBin s.P .leq 3 t4 t5) h fun v32 h33 =>
  gd v32 (
  opsP (xX s 39 wl k rd) xg39_1 8 h.length ([],[]) (runK (xX s 39 wl k rd) K xk39_2) ⟨[t0,t1,t2,t3,t4,t5,t6,t7,t8,t9,ta,tb,tc,td,te,tf,tg,th,ti,tj,t4,t5,v32,(V.lit (Value.bool true)),uu,uu,uu,uu,tt,tu,tv,tw,tx,ty,tz,tA,tB,tC],h33⟩) (
  bm (vLoad s.P 24 t1 h33) h33 fun v34 h35 =>
  bp (opLen s.P 24 v34 h35) fun v36 h37 =>
  bm (vBin s.P .geq 3 t4 v36) h37 fun v38 h39 =>
  opsP (xX s 39 wl k rd) xg39_1 8 h.length ([],[]) (runK (xX s 39 wl k rd) K xk39_2) ⟨[t0,t1,t2,t3,t4,t5,t6,t7,t8,t9,ta,tb,tc,td,te,tf,tg,th,ti,tj,t4,t5,v32,(V.lit (Value.bool false)),t4,v34,v36,v38,tt,tu,tv,tw,tx,ty,tz,tA,tB,tC],h39⟩) (
  opsP (xX s 39 wl k rd) xg39_1 5 h.length ([],[]) (runK (xX s 39 wl k rd) K xk39_2) ⟨[t0,t1,t2,t3,t4,t5,t6,t7,t8,t9,ta,tb,tc,td,te,tf,tg,th,ti,tj,t4,t5,v32,v32,uu,tq,tr,ts,tt,tu,tv,tw,tx,ty,tz,tA,tB,tC],h33⟩) :=
  (go_block (go_seq (go_seq (go_reg0
  (pI t4 h
  (pI t5 h
  (pM fun v32 h33 =>
  (pI v32 h33
  (go_gdF0 rfl rfl rfl (by kernel_rfl)
  (sK
  (sK
  (sK
  (by kernel_rfl))))
  (st_id (v := t4) (H := h33) (by kernel_rfl)
  (rN (st_bm (by kernel_rfl) fun v34 h35 =>
  (rN (st_bp (by kernel_rfl) fun v36 h37 =>
  (rN (st_bm (by kernel_rfl) fun v38 h39 =>
  (by kernel_rfl))))))))
  (by kernel_rfl))))))))))
theorem xq39_1_1_1_0_1_0_0 (s : Sys) (K : Out → St → Option (V × Hp)) (k wl : Nat) (rd : Bool) (zz : List V) (h : Hp) : runK (xX s 39 wl k rd) K [.seq xl39_0] .norm ⟨(t0::t1::t2::t3::t4::t5::t6::t7::t8::t9::ta::tb::tc::td::te::tf::tg::th::ti::tj::zz),h⟩ =
  K .norm ⟨(t0::t1::t2::t3::ti::tj::t6::t7::t8::t9::ta::tb::tc::td::te::tf::tg::th::ti::tj::zz),h⟩ :=
  (go_seq (go_reg0
  (pI ti h
  (eN
  (go_reg0
  (pI tj h
  (eN
  (by kernel_rfl))))))))
theorem xm39_2 (s : Sys) (K : Out → St → Option (V × Hp)) (k wl : Nat) (rd : Bool) (m0 : Nat) (ac : List Nat × List Nat) (h : Hp) : opsP (xX s 39 wl k rd) xg39_1 8 m0 ac (runK (xX s 39 wl k rd) K xk39_2) ⟨[t0,t1,t2,t3,t4,t5,t6,t7,t8,t9,ta,tb,tc,td,te,tf,tg,th,ti,tj,tk,tl,tm,tn,tp,tq,tr,ts,tt,tu,tv,tw,tx,ty,tz,tA,tB,tC],h⟩ =
  bm (vPick tn (V.lit (Value.bool true)) ts) h fun v40 h41 =>
  gd v40 (
  opsP (xX s 39 wl k rd) xg39_1 14 m0 ac (runK (xX s 39 wl k rd) K xk39_2) ⟨[t0,t1,t2,t3,t4,t5,t6,t7,t8,t9,ta,tb,tc,td,te,tf,tg,th,ti,tj,tk,tl,tm,tn,tp,tq,tr,ts,v40,(V.lit (Value.bool true)),uu,uu,uu,uu,tz,tA,tB,tC],h41⟩) (
  bm (vLoad s.P 85 t3 h41) h41 fun v42 h43 =>
  bm (vIndexAddr s.P 85 v42 t4 h43) h43 fun v44 h45 =>
  bm (vLoad s.P 4 v44 h45) h45 fun v46 h47 =>
  opsP (xX s 39 wl k rd) xg39_1 14 m0 ac (runK (xX s 39 wl k rd) K xk39_2) ⟨[t0,t1,t2,t3,t4,t5,t6,t7,t8,t9,ta,tb,tc,td,te,tf,tg,th,ti,tj,tk,tl,tm,tn,tp,tq,tr,ts,v40,(V.lit (Value.bool false)),v42,t4,v44,v46,tz,tA,tB,tC],h47⟩) (
  opsP (xX s 39 wl k rd) xg39_1 11 m0 ac (runK (xX s 39 wl k rd) K xk39_2) ⟨[t0,t1,t2,t3,t4,t5,t6,t7,t8,t9,ta,tb,tc,td,te,tf,tg,th,ti,tj,tk,tl,tm,tn,tp,tq,tr,ts,v40,v40,uu,tw,tx,ty,tz,tA,tB,tC],h41⟩) :=
  (pM fun v40 h41 =>
  (pI v40 h41
  (go_gdF0 rfl rfl rfl (by kernel_rfl)
  (sK
  (sK
  (sK
  (by kernel_rfl))))
  (st_bm (by kernel_rfl) fun v42 h43 =>
  (rN (st_id (v := t4) (H := h43) (by kernel_rfl)
  (rN (st_bm (by kernel_rfl) fun v44 h45 =>
  (rN (st_bm (by kernel_rfl) fun v46 h47 =>
  (by kernel_rfl))))))))
  (by kernel_rfl))))
theorem xm39_3 (s : Sys) (K : Out → St → Option (V × Hp)) (k wl : Nat) (rd : Bool) (m0 : Nat) (ac : List Nat × List Nat) (h : Hp) : opsP (xX s 39 wl k rd) xg39_1 14 m0 ac (runK (xX s 39 wl k rd) K xk39_2) ⟨[t0,t1,t2,t3,t4,t5,t6,t7,t8,t9,ta,tb,tc,td,te,tf,tg,th,ti,tj,tk,tl,tm,tn,tp,tq,tr,ts,tt,tu,tv,tw,tx,ty,tz,tA,tB,tC],h⟩ =
  bm (vPick tu (V.lit (Value.bool true)) ty) h fun v48 h49 =>
  cnd v48 (
  bs (vStore s.P wl 4 t2 (V.lit (Value.bool false)) h49) fun h50 =>
  K .ret ⟨[t0,t1,t2,t3,t4,t5,t6,t7,t8,t9,ta,tb,tc,td,te,tf,tg,th,ti,tj,tk,tl,tm,tn,tp,tq,tr,ts,tt,tu,tv,tw,tx,ty,v48,tA,tB,tC],h50⟩) (
  bm (vLoad s.P 85 t3 h49) h49 fun v51 h52 =>
  bm (vIndexAddr s.P 85 v51 t4 h52) h52 fun v53 h54 =>
  bs (vStore s.P wl 4 v53 (V.lit (Value.bool true)) h54) fun h55 =>
  K .norm ⟨[t0,t1,t2,t3,t4,t5,t6,t7,t8,t9,ta,tb,tc,td,te,tf,tg,th,ti,tj,tk,tl,tm,tn,tp,tq,tr,ts,tt,tu,tv,tw,tx,ty,v48,v51,t4,v53],h55⟩) :=
  (pM fun v48 h49 =>
  (eN
  (go_cond (by kernel_rfl)
  (go_seq (go_reg0
  (pS fun h50 =>
  (eN
  (go_ret (rt_seq_ret (rt_block_ret (by kernel_rfl))))))))
  (go_skip (go_reg0
  (pM fun v51 h52 =>
  (pI t4 h52
  (pM fun v53 h54 =>
  (pS fun h55 =>
  (eN
  (rt_block_norm (by kernel_rfl))))))))))))
theorem xk39_0_ret (cx : Cx) (K : Out → St → Option (V × Hp)) (s : St) : runK cx K xk39_0 .ret s = K .ret s := by kernel_rfl
theorem xk39_1_ret (cx : Cx) (K : Out → St → Option (V × Hp)) (s : St) : runK cx K xk39_1 .ret s = K .ret s := by kernel_rfl
theorem xk39_2_ret (cx : Cx) (K : Out → St → Option (V × Hp)) (s : St) : runK cx K xk39_2 .ret s = K .ret s := by kernel_rfl
-- names: xb39,xz39,xm39_0,xj39_1,xq39_1_1_1_0_1_0_1,xq39_1_1_1_0_1_0_0,xm39_2,xm39_3,xk39_0_ret,xk39_1_ret,xk39_2_ret
-- range over a function at [1,1,1,0,1,0]

theorem xb60 (h : Hp) : bodyV (xX s 60 wl k false) Tryz.f60 [t0,t1] h =
  bp (callV (xX s 60 wl k false) false true (.fn (.func 79) [] []) [t0,t1] h) fun v1 h2 =>
  bm (vBin s.P .geq 3 v1 (V.lit (Value.int .i64 0))) h2 fun v3 h4 =>
  some (v3,h4) :=
  bodyV_run rfl (go_seq (go_reg0
  (go_op0 rfl rfl (st_id (v := (V.lit (Value.bool false))) (H := h) (by kernel_rfl)
  (eN
  (go_seq (go_reg0
  (pI t0 h
  (pI t1 h
  (pP fun v1 h2 =>
  (pM fun v3 h4 =>
  (pI v3 h4
  (eN
  (go_ret (by kernel_rfl)))))))))))))))
theorem xe60 (k wl : Nat) (h : Hp) : evF Tryz.prog xM (k + 1) wl 60 [t0,t1] h = bodyV (xX (xS k) 60 wl k false) Tryz.f60 [t0,t1] h := by kernel_rfl
-- names: xb60,
noncomputable def xg61_0 : Code := codeAt (bodyOf Tryz.f61) [1,0]
noncomputable def xk61_0 : List Fr := [.seq (codeAt (bodyOf Tryz.f61) [1,1])]
theorem xb61 (h : Hp) : bodyV (xX s 61 wl k false) Tryz.f61 [t0] h =
  bp (opBox t0 h) fun v1 h2 =>
  bm (vFieldAddr s.P 69 v1 0) h2 fun v3 h4 =>
  bm (vLoad s.P 3 v3 h4) h4 fun v5 h6 =>
  bm (vBin s.P .lss 3 v5 (V.lit (Value.int .i64 0))) h6 fun v7 h8 =>
  gd v7 (
  opsP (xX s 61 wl k false) xg61_0 7 h2.length ([],[]) (runK (xX s 61 wl k false) (bodyK s.P Tryz.f61) xk61_0) ⟨[t0,v1,(V.lit (Value.bool false)),v3,v5,v7,(V.lit (Value.bool true)),uu,uu,uu,uu],h8⟩) (
  bm (vFieldAddr s.P 69 v1 0) h8 fun v9 h10 =>
  bm (vLoad s.P 3 v9 h10) h10 fun v11 h12 =>
  bm (vBin s.P .gtr 3 v11 (V.lit (Value.int .i64 20))) h12 fun v13 h14 =>
  opsP (xX s 61 wl k false) xg61_0 7 h2.length ([],[]) (runK (xX s 61 wl k false) (bodyK s.P Tryz.f61) xk61_0) ⟨[t0,v1,(V.lit (Value.bool false)),v3,v5,v7,(V.lit (Value.bool false)),v9,v11,v13,uu],h14⟩) (
  opsP (xX s 61 wl k false) xg61_0 5 h2.length ([],[]) (runK (xX s 61 wl k false) (bodyK s.P Tryz.f61) xk61_0) ⟨[t0,v1,(V.lit (Value.bool false)),v3,v5,v7,v7,uu,uu,uu,uu],h8⟩) :=
  bodyV_run rfl (go_seq (go_reg0
  (pP fun v1 h2 =>
  (go_op0 rfl rfl (st_id (v := (V.lit (Value.bool false))) (H := h2) (by kernel_rfl)
  (eN
  (go_seq (go_reg0
  (pM fun v3 h4 =>
  (pM fun v5 h6 =>
  (pM fun v7 h8 =>
  (pI v7 h8
  (go_gdF0 rfl rfl rfl (by kernel_rfl)
  (sK
  (sK
  (by kernel_rfl)))
  (st_bm (by kernel_rfl) fun v9 h10 =>
  (rN (st_bm (by kernel_rfl) fun v11 h12 =>
  (rN (st_bm (by kernel_rfl) fun v13 h14 =>
  (by kernel_rfl))))))
  (by kernel_rfl))))))))))))))
theorem xe61 (k wl : Nat) (h : Hp) : evF Tryz.prog xM (k + 1) wl 61 [t0] h = bodyV (xX (xS k) 61 wl k false) Tryz.f61 [t0] h := by kernel_rfl
theorem xm61_0 (h : Hp) : opsP (xX s 61 wl k false) xg61_0 7 m0 ac (runK (xX s 61 wl k false) (bodyK s.P Tryz.f61) xk61_0) ⟨[t0,t1,t2,t3,t4,t5,t6,t7,t8,t9,ta],h⟩ =
  bm (vPick t6 (V.lit (Value.bool true)) t9) h fun v15 h16 =>
  some (v15,h16) :=
  (pM fun v15 h16 =>
  (pI v15 h16
  (eN
  (go_ret (by kernel_rfl)))))
theorem xk61_0_ret (cx : Cx) (K : Out → St → Option (V × Hp)) (s : St) : runK cx K xk61_0 .ret s = K .ret s := by kernel_rfl
-- names: xb61,xm61_0,xk61_0_ret

theorem xb62 (h : Hp) : bodyV (xX s 62 wl k false) Tryz.f62 [t0] h =
  bp (opBox t0 h) fun v1 h2 =>
  some ((.fn (.func 80) [] [v1]),h2) :=
  bodyV_run rfl (go_seq (go_reg0
  (pP fun v1 h2 =>
  (go_op0 rfl rfl (st_id (v := (constV Value.nilFunc)) (H := h2) (by kernel_rfl)
  (eN
  (go_seq (go_reg0
  (go_op0 rfl rfl (st_id (v := (.fn (.func 80) [] [v1])) (H := h2) (by kernel_rfl)
  (go_op0 rfl rfl (st_id (v := (.fn (.func 80) [] [v1])) (H := h2) (by kernel_rfl)
  (eN
  (go_ret (by kernel_rfl)))))))))))))))
theorem xe62 (k wl : Nat) (h : Hp) : evF Tryz.prog xM (k + 1) wl 62 [t0] h = bodyV (xX (xS k) 62 wl k false) Tryz.f62 [t0] h := by kernel_rfl
-- names: xb62,
noncomputable def xl79_0 : Code := codeAt (bodyOf Tryz.f79) [1,0,1,0,0]
noncomputable def xk79_0 : List Fr := [.block 0,.seq (codeAt (bodyOf Tryz.f79) [1,1])]
theorem xb79 (h : Hp) : bodyV (xX s 79 wl k false) Tryz.f79 [t0,t1] h =
  bp (opLen s.P 24 t0 h) fun v1 h2 =>
  itX (xX s 79 wl k false) xl79_0 h2.length (runK (xX s 79 wl k false) (bodyK s.P Tryz.f79) xk79_0) k ⟨[(V.kill h2.length t0),(V.kill h2.length t1),(V.kill h2.length uu),(V.kill h2.length uu),(V.lit (Value.int .i64 0)),(V.kill h2.length uu),(V.kill h2.length t0),(V.kill h2.length v1),(V.lit (Value.int .i64 0)),.junk,.junk,.junk,.junk,.junk,.junk,.junk,.junk,.junk,.junk],cutH h2.length h2⟩ :=
  bodyV_run rfl (go_seq (go_reg0
  (go_op0 rfl rfl (st_id (v := (V.lit (Value.int .i64 0))) (H := h) (by kernel_rfl)
  (eN
  (go_seq (go_seq (go_reg0
  (pI t0 h
  (pP fun v1 h2 =>
  (go_op0 rfl rfl (st_id (v := (V.lit (Value.int .i64 0))) (H := h2) (by kernel_rfl)
  (eN
  (go_block (by kernel_rfl)))))))))))))))
theorem xe79 (k wl : Nat) (h : Hp) : evF Tryz.prog xM (k + 1) wl 79 [t0,t1] h = bodyV (xX (xS k) 79 wl k false) Tryz.f79 [t0,t1] h := by kernel_rfl
theorem xz79 (P : Program) (h : Hp) : bodyK P Tryz.f79 .ret ⟨[t0,t1,t2,t3,t4,t5,t6,t7,t8,t9,ta,tb,tc,td,te,tf,tg,th,ti],h⟩ = some (t4,h) := by kernel_rfl
theorem xr79_0 (s : Sys) (K : Out → St → Option (V × Hp)) (k wl : Nat) (rd : Bool) (n n0 : Nat) (h : Hp) : itX (xX s 79 wl k rd) xl79_0 n0 K (n + 1) ⟨[t0,t1,t2,t3,t4,t5,t6,t7,t8,t9,ta,tb,tc,td,te,tf,tg,th,ti],h⟩ =
  bm (vBin s.P .lss 3 t8 t7) h fun v3 h4 =>
  cnd v3 (
  bm (vIndexAddr s.P 24 t0 t8 h4) h4 fun v5 h6 =>
  bm (vLoad s.P 69 v5 h6) h6 fun v7 h8 =>
  bp (callV (xX s 79 wl k rd) false true t1 [v7] h8) fun v9 h10 =>
  cnd v9 (
  K .ret ⟨[t0,t1,t2,t3,t8,t8,t6,t7,t8,v3,t8,t1,t0,t8,v5,v7,v9,t8,ti],h10⟩) (
  bm (vBin s.P .add 3 t8 (V.lit (Value.int .i64 1))) h10 fun v11 h12 =>
  itX (xX s 79 wl k rd) xl79_0 n0 K n ⟨[(V.kill n0 t0),(V.kill n0 t1),(V.kill n0 t2),(V.kill n0 t3),(V.kill n0 t4),(V.kill n0 t8),(V.kill n0 t6),(V.kill n0 t7),(V.kill n0 v11),.junk,.junk,.junk,.junk,.junk,.junk,.junk,.junk,.junk,.junk],cutH n0 h12⟩)) (
  K (.exit 0) ⟨[(V.kill n0 t0),(V.kill n0 t1),(V.kill n0 t2),(V.kill n0 t3),(V.kill n0 t4),(V.kill n0 t5),(V.kill n0 t6),(V.kill n0 t7),.junk,.junk,.junk,.junk,.junk,.junk,.junk,.junk,.junk,.junk,.junk],cutH n0 h4⟩) :=
  itX_step (go_seq (go_reg0
  (pM fun v3 h4 =>
  (eN
  (go_seq (go_cond (by kernel_rfl)
  (go_skip (go_seq (go_block (go_seq (go_reg0
  (pI t8 h4
  (pI t8 h4
  (eN
  (go_seq (go_reg0
  (pI t1 h4
  (pI t0 h4
  (pI t8 h4
  (pM fun v5 h6 =>
  (pM fun v7 h8 =>
  (pP fun v9 h10 =>
  (eN
  (go_cond (by kernel_rfl)
  (go_seq (go_reg0
  (pI t8 h10
  (pI t8 h10
  (eN
  (go_ret (rt_block_ret (rt_seq_ret (by kernel_rfl)))))))))
  (go_skip (rt_block_norm (go_reg0
  (pM fun v11 h12 =>
  (pI v11 h12
  (eN
  (by kernel_rfl)))))))))))))))))))))))))
  (go_exit (rt_seq_exit (by kernel_rfl)))))))))
theorem xj79_0 (h : Hp) : runK (xX s 79 wl k false) (bodyK s.P Tryz.f79) xk79_0 (.exit 0) ⟨[t0,t1,t2,t3,t4,t5,t6,t7,t8,t9,ta,tb,tc,td,te,tf,tg,th,ti],h⟩ =
  some ((V.lit (Value.int .i64 (-1))),h) :=
  (rt_block_eq (go_seq (go_reg0
  (go_op0 rfl rfl (st_id (v := (V.lit (Value.int .i64 (-1)))) (H := h) (by kernel_rfl)
  (eN
  (go_ret (by kernel_rfl))))))))
theorem xk79_0_ret (cx : Cx) (K : Out → St → Option (V × Hp)) (s : St) : runK cx K xk79_0 .ret s = K .ret s := by kernel_rfl
-- names: xb79,xz79,xr79_0,xj79_0,xk79_0_ret
noncomputable def xl80_0 : Code := codeAt (bodyOf Tryz.f80) [1,0,0]
noncomputable def xk80_0 : List Fr := [.block 0]
noncomputable def xl80_1 : Code := codeAt (bodyOf Tryz.f80) [1,0,0,1,1,0,0,1,1,0,0]
noncomputable def xk80_1 : List Fr := [.block 2,.block 1,.seq (codeAt (bodyOf Tryz.f80) [1,0,0,1,1,1])]
theorem xb80 (h : Hp) : bodyV (xX s 80 wl k false) Tryz.f80 [t0,t1] h =
  bm (vLoad s.P 24 t1 h) h fun v1 h2 =>
  bp (opLen s.P 24 v1 h2) fun v3 h4 =>
  itX (xX s 80 wl k false) xl80_0 h4.length (runK (xX s 80 wl k false) (bodyK s.P Tryz.f80) xk80_0) k ⟨[(V.kill h4.length t0),(V.kill h4.length t1),(V.kill h4.length uu),(V.kill h4.length uu),(V.kill h4.length uu),(V.kill h4.length uu),(V.kill h4.length uu),(V.kill h4.length v1),(V.kill h4.length v3),(V.lit (Value.int .i64 0)),.junk,.junk,.junk,.junk,.junk,.junk,.junk,.junk,.junk,.junk,.junk,.junk,.junk,.junk,.junk,.junk,.junk,.junk],cutH h4.length h4⟩ :=
  bodyV_run rfl (go_seq (go_reg0
  (pM fun v1 h2 =>
  (pP fun v3 h4 =>
  (go_op0 rfl rfl (st_id (v := (V.lit (Value.int .i64 0))) (H := h4) (by kernel_rfl)
  (eN
  (go_block (by kernel_rfl)))))))))
theorem xe80 (k wl : Nat) (h : Hp) : evF Tryz.prog xM (k + 1) wl 80 [t0,t1] h = bodyV (xX (xS k) 80 wl k false) Tryz.f80 [t0,t1] h := by kernel_rfl
theorem xz80 (P : Program) (h : Hp) : bodyK P Tryz.f80 .ret ⟨[t0,t1,t2,t3,t4,t5,t6,t7,t8,t9,ta,tb,tc,td,te,tf,tg,th,ti,tj,tk,tl,tm,tn,tp,tq,tr,ts],h⟩ = some (.tup [],h) := by kernel_rfl
theorem xr80_0 (s : Sys) (K : Out → St → Option (V × Hp)) (k wl : Nat) (rd : Bool) (n n0 : Nat) (h : Hp) : itX (xX s 80 wl k rd) xl80_0 n0 K (n + 1) ⟨[t0,t1,t2,t3,t4,t5,t6,t7,t8,t9,ta,tb,tc,td,te,tf,tg,th,ti,tj,tk,tl,tm,tn,tp,tq,tr,ts],h⟩ =
  bm (vBin s.P .lss 3 t9 t8) h fun v5 h6 =>
  cnd v5 (
  bm (vIndexAddr s.P 24 t7 t9 h6) h6 fun v7 h8 =>
  bm (vLoad s.P 69 v7 h8) h8 fun v9 h10 =>
  bp (opAlloc s.P 69 h10) fun v11 h12 =>
  bs (vStore s.P wl 69 v11 v9 h12) fun h13 =>
  bm (vFieldAddr s.P 69 v11 1) h13 fun v14 h15 =>
  bm (vLoad s.P 65 v14 h15) h15 fun v16 h17 =>
  bp (opLen s.P 65 v16 h17) fun v18 h19 =>
  itX (xX s 80 wl k rd) xl80_1 h19.length (runK (xX s 80 wl k rd) (nextK (xX s 80 wl k rd) xl80_0 n0 K n) xk80_1) k ⟨[(V.kill h19.length t0),(V.kill h19.length t1),(V.kill h19.length t2),(V.kill h19.length t9),(V.kill h19.length v11),(V.kill h19.length t5),(V.kill h19.length t6),(V.kill h19.length t7),(V.kill h19.length t8),(V.kill h19.length t9),(V.kill h19.length v5),(V.kill h19.length t9),(V.kill h19.length v7),(V.kill h19.length v9),(V.kill h19.length v14),(V.kill h19.length v16),(V.kill h19.length v18),(V.lit (Value.int .i64 0)),.junk,.junk,.junk,.junk,.junk,.junk,.junk,.junk,.junk,(V.kill h19.length ts)],cutH h19.length h19⟩) (
  K (.exit 0) ⟨[(V.kill n0 t0),(V.kill n0 t1),(V.kill n0 t2),(V.kill n0 t3),(V.kill n0 t4),(V.kill n0 t5),(V.kill n0 t6),(V.kill n0 t7),(V.kill n0 t8),.junk,.junk,.junk,.junk,.junk,.junk,.junk,.junk,.junk,.junk,.junk,.junk,.junk,.junk,.junk,.junk,.junk,.junk,.junk],cutH n0 h6⟩) :=
  itX_step (go_seq (go_reg0
  (pM fun v5 h6 =>
  (eN
  (go_seq (go_cond (by kernel_rfl)
  (go_skip (go_seq (go_block (go_seq (go_reg0
  (pI t9 h6
  (pM fun v7 h8 =>
  (pM fun v9 h10 =>
  (pP fun v11 h12 =>
  (pI t9 h12
  (pS fun h13 =>
  (eN
  (go_seq (go_reg0
  (pM fun v14 h15 =>
  (pM fun v16 h17 =>
  (pP fun v18 h19 =>
  (go_op0 rfl rfl (st_id (v := (V.lit (Value.int .i64 0))) (H := h19) (by kernel_rfl)
  (eN
  (go_block (by kernel_rfl))))))))))))))))))))))
  (go_exit (rt_seq_exit (by kernel_rfl)))))))))
theorem xj80_0 (s : Sys) (k wl : Nat) (zz : List V) (h : Hp) : runK (xX s 80 wl k false) (bodyK s.P Tryz.f80) xk80_0 (.exit 0) ⟨(t0::zz),h⟩ =
  some (.tup [],h) :=
  (rt_block_eq (by kernel_rfl))
theorem xr80_1 (s : Sys) (K : Out → St → Option (V × Hp)) (k wl : Nat) (rd : Bool) (n n0 : Nat) (h : Hp) : itX (xX s 80 wl k rd) xl80_1 n0 K (n + 1) ⟨[t0,t1,t2,t3,t4,t5,t6,t7,t8,t9,ta,tb,tc,td,te,tf,tg,th,ti,tj,tk,tl,tm,tn,tp,tq,tr,ts],h⟩ =
  bm (vBin s.P .lss 3 th tg) h fun v20 h21 =>
  cnd v20 (
  bm (vIndexAddr s.P 65 tf th h21) h21 fun v22 h23 =>
  bm (vLoad s.P 3 v22 h23) h23 fun v24 h25 =>
  bp (callV (xX s 80 wl k rd) false true t0 [v24,t3] h25) fun v26 h27 =>
  bm (vUn .not v26) h27 fun v28 h29 =>
  cnd v28 (
  K .ret ⟨[t0,t1,t2,t3,t4,t5,v24,t7,t8,t9,ta,tb,tc,td,te,tf,tg,th,v20,v22,v24,t0,v24,t3,v26,v28,tr,ts],h29⟩) (
  bm (vBin s.P .add 3 th (V.lit (Value.int .i64 1))) h29 fun v30 h31 =>
  itX (xX s 80 wl k rd) xl80_1 n0 K n ⟨[(V.kill n0 t0),(V.kill n0 t1),(V.kill n0 t2),(V.kill n0 t3),(V.kill n0 t4),(V.kill n0 t5),(V.kill n0 v24),(V.kill n0 t7),(V.kill n0 t8),(V.kill n0 t9),(V.kill n0 ta),(V.kill n0 tb),(V.kill n0 tc),(V.kill n0 td),(V.kill n0 te),(V.kill n0 tf),(V.kill n0 tg),(V.kill n0 v30),.junk,.junk,.junk,.junk,.junk,.junk,.junk,.junk,.junk,(V.kill n0 ts)],cutH n0 h31⟩)) (
  K (.exit 2) ⟨[(V.kill n0 t0),(V.kill n0 t1),(V.kill n0 t2),(V.kill n0 t3),(V.kill n0 t4),(V.kill n0 t5),(V.kill n0 t6),(V.kill n0 t7),(V.kill n0 t8),(V.kill n0 t9),(V.kill n0 ta),(V.kill n0 tb),(V.kill n0 tc),(V.kill n0 td),(V.kill n0 te),(V.kill n0 tf),(V.kill n0 tg),.junk,.junk,.junk,.junk,.junk,.junk,.junk,.junk,.junk,.junk,(V.kill n0 ts)],cutH n0 h21⟩) :=
  itX_step (go_seq (go_reg0
  (pM fun v20 h21 =>
  (eN
  (go_seq (go_cond (by kernel_rfl)
  (go_skip (go_seq (go_block (go_seq (go_reg0
  (pM fun v22 h23 =>
  (pM fun v24 h25 =>
  (pI v24 h25
  (eN
  (go_seq (go_reg0
  (pI t0 h25
  (pI v24 h25
  (pI t3 h25
  (pP fun v26 h27 =>
  (pM fun v28 h29 =>
  (eN
  (go_cond (by kernel_rfl)
  (go_ret (rt_block_ret (rt_seq_ret (by kernel_rfl))))
  (go_skip (rt_block_norm (go_reg0
  (pM fun v30 h31 =>
  (pI v30 h31
  (eN
  (by kernel_rfl)))))))))))))))))))))))))
  (go_exit (rt_seq_exit (by kernel_rfl)))))))))
theorem xj80_1 (s : Sys) (K : Out → St → Option (V × Hp)) (k wl : Nat) (rd : Bool) (n n0 : Nat) (h : Hp) : runK (xX s 80 wl k rd) (nextK (xX s 80 wl k rd) xl80_0 n0 K n) xk80_1 (.exit 2) ⟨[t0,t1,t2,t3,t4,t5,t6,t7,t8,t9,ta,tb,tc,td,te,tf,tg,th,ti,tj,tk,tl,tm,tn,tp,tq,tr,ts],h⟩ =
  bm (vBin s.P .add 3 t9 (V.lit (Value.int .i64 1))) h fun v32 h33 =>
  itX (xX s 80 wl k rd) xl80_0 n0 K n ⟨[(V.kill n0 t0),(V.kill n0 t1),(V.kill n0 t2),(V.kill n0 t3),(V.kill n0 t4),(V.kill n0 t5),(V.kill n0 t6),(V.kill n0 t7),(V.kill n0 t8),(V.kill n0 v32),.junk,.junk,.junk,.junk,.junk,.junk,.junk,.junk,.junk,.junk,.junk,.junk,.junk,.junk,.junk,.junk,.junk,.junk],cutH n0 h33⟩ :=
  (rt_block_eq (rt_block_norm (go_reg0
  (pM fun v32 h33 =>
  (pI v32 h33
  (eN
  (by kernel_rfl)))))))
theorem xk80_0_ret (cx : Cx) (K : Out → St → Option (V × Hp)) (s : St) : runK cx K xk80_0 .ret s = K .ret s := by kernel_rfl
theorem xk80_1_ret (cx : Cx) (K : Out → St → Option (V × Hp)) (s : St) : runK cx K xk80_1 .ret s = K .ret s := by kernel_rfl
-- names: xb80,xz80,xr80_0,xj80_0,xr80_1,xj80_1,xk80_0_ret,xk80_1_ret
end Go.Ab
