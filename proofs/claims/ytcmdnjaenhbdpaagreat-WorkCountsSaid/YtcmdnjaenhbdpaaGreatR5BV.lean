/- The program's code,point by point: printed by gen.py. -/
import Derived.Test.YtcmdnjaenhbdpaaGreatR5Seat
import Derived.Test.YtcmdnjaenhbdpaaGreatAbLibC
set_option linter.unusedVariables false
set_option linter.unusedSimpArgs false
set_option maxRecDepth 100000
set_option linter.unusedVariables false
namespace Go.Ab
open Go.Proofs
variable (s : Sys) (k wl : Nat) (m0 : Nat) (ac : List Nat × List Nat) (t0 t1 t2 t3 t4 t5 t6 t7 t8 t9 ta tb tc td te tf tg th ti tj tk tl tm tn tp tq tr ts tt tu tv tw tx ty tz tA tB tC tD tE tF tG tH tI tJ tK tL tM tN tO : V)
noncomputable def xg9_0 : Code := codeAt (bodyOf Tryz.f9) [1,1,0]
noncomputable def xk9_0 : List Fr := [.seq (codeAt (bodyOf Tryz.f9) [1,1,1])]
theorem xb9 (h : Hp) : bodyV (xX s 9 wl k false) Tryz.f9 [t0,t1] h =
  bp (opBox t1 h) fun v1 h2 =>
  bp (callV (xX s 9 wl k false) false true (.fn (.func 19) [] []) [t0] h2) fun v3 h4 =>
  gd v3 (
  bm (vFieldAddr s.P 32 v1 1) h4 fun v5 h6 =>
  bm (vLoad s.P 27 v5 h6) h6 fun v7 h8 =>
  bp (opLen s.P 27 v7 h8) fun v9 h10 =>
  bm (vBin s.P .leq 3 v9 (V.lit (Value.int .i64 40))) h10 fun v11 h12 =>
  opsP (xX s 9 wl k false) xg9_0 6 h4.length ([],[]) (runK (xX s 9 wl k false) (bodyK s.P Tryz.f9) xk9_0) ⟨[t0,t1,uu,v1,(V.lit (Value.bool false)),v3,t0,v3,v3,(V.lit (Value.bool true)),v5,v7,v9,v11,uu],h12⟩) (
  opsP (xX s 9 wl k false) xg9_0 6 h4.length ([],[]) (runK (xX s 9 wl k false) (bodyK s.P Tryz.f9) xk9_0) ⟨[t0,t1,uu,v1,(V.lit (Value.bool false)),v3,t0,v3,v3,(V.lit (Value.bool false)),uu,uu,uu,uu,uu],h4⟩) (
  opsP (xX s 9 wl k false) xg9_0 3 h4.length ([],[]) (runK (xX s 9 wl k false) (bodyK s.P Tryz.f9) xk9_0) ⟨[t0,t1,uu,v1,(V.lit (Value.bool false)),v3,t0,v3,v3,v3,uu,uu,uu,uu,uu],h4⟩) :=
  bodyV_run rfl (go_seq (go_reg0
  (pP fun v1 h2 =>
  (go_op0 rfl rfl (st_id (v := (V.lit (Value.bool false))) (H := h2) (by kernel_rfl)
  (eN
  (go_seq (go_reg0
  (pI t0 h2
  (pP fun v3 h4 =>
  (pI v3 h4
  (eN
  (go_seq (go_reg0
  (pI v3 h4
  (pI v3 h4
  (go_gdT0 rfl rfl rfl (by kernel_rfl)
  (st_bm (by kernel_rfl) fun v5 h6 =>
  (rN (st_bm (by kernel_rfl) fun v7 h8 =>
  (rN (st_bp (by kernel_rfl) fun v9 h10 =>
  (rN (st_bm (by kernel_rfl) fun v11 h12 =>
  (by kernel_rfl))))))))
  (sK
  (sK
  (sK
  (by kernel_rfl))))
  (by kernel_rfl))))))))))))))))))
theorem xe9 (k wl : Nat) (h : Hp) : evF Tryz.prog xM (k + 1) wl 9 [t0,t1] h = bodyV (xX (xS k) 9 wl k false) Tryz.f9 [t0,t1] h := by kernel_rfl
theorem xm9_0 (h : Hp) : opsP (xX s 9 wl k false) xg9_0 6 m0 ac (runK (xX s 9 wl k false) (bodyK s.P Tryz.f9) xk9_0) ⟨[t0,t1,t2,t3,t4,t5,t6,t7,t8,t9,ta,tb,tc,td,te],h⟩ =
  bm (vPick t9 td (V.lit (Value.bool false))) h fun v13 h14 =>
  some (v13,h14) :=
  (pM fun v13 h14 =>
  (pI v13 h14
  (eN
  (go_ret (by kernel_rfl)))))
theorem xk9_0_ret (cx : Cx) (K : Out → St → Option (V × Hp)) (s : St) : runK cx K xk9_0 .ret s = K .ret s := by kernel_rfl
-- names: xb9,xm9_0,xk9_0_ret
noncomputable def xg11_0 : Code := codeAt (bodyOf Tryz.f11) [1,0]
noncomputable def xk11_0 : List Fr := [.seq (codeAt (bodyOf Tryz.f11) [1,1])]
theorem xb11 (h : Hp) : bodyV (xX s 11 wl k false) Tryz.f11 [t0,t1,t2,t3,t4] h =
  bp (opBox t0 h) fun v1 h2 =>
  bp (opBox t4 h2) fun v3 h4 =>
  bm (vLoad s.P 23 v1 h4) h4 fun v5 h6 =>
  bp (callV (xX s 11 wl k false) false true (.fn (.func 37) [] []) [v5] h6) fun v7 h8 =>
  gd v7 (
  bp (opLen s.P 26 t2 h8) fun v9 h10 =>
  bm (vLoad s.P 23 v1 h10) h10 fun v11 h12 =>
  bp (callV (xX s 11 wl k false) false true (.fn (.func 38) [] []) [v11] h12) fun v13 h14 =>
  bm (vBin s.P .eql 3 v9 v13) h14 fun v15 h16 =>
  opsP (xX s 11 wl k false) xg11_0 8 h4.length ([],[]) (runK (xX s 11 wl k false) (bodyK s.P Tryz.f11) xk11_0) ⟨[t0,t1,t2,t3,t4,v1,uu,uu,uu,v3,(V.lit (Value.bool false)),v5,v7,(V.lit (Value.bool true)),t2,v9,v11,v13,v15,uu,uu,uu,uu,uu,uu,uu,uu,uu,uu,uu,uu,uu,uu,uu,uu,uu,uu,uu,uu,uu,uu,uu,uu,uu,uu,uu,uu,uu,uu,uu],h16⟩) (
  opsP (xX s 11 wl k false) xg11_0 8 h4.length ([],[]) (runK (xX s 11 wl k false) (bodyK s.P Tryz.f11) xk11_0) ⟨[t0,t1,t2,t3,t4,v1,uu,uu,uu,v3,(V.lit (Value.bool false)),v5,v7,(V.lit (Value.bool false)),uu,uu,uu,uu,uu,uu,uu,uu,uu,uu,uu,uu,uu,uu,uu,uu,uu,uu,uu,uu,uu,uu,uu,uu,uu,uu,uu,uu,uu,uu,uu,uu,uu,uu,uu,uu],h8⟩) (
  opsP (xX s 11 wl k false) xg11_0 4 h4.length ([],[]) (runK (xX s 11 wl k false) (bodyK s.P Tryz.f11) xk11_0) ⟨[t0,t1,t2,t3,t4,v1,uu,uu,uu,v3,(V.lit (Value.bool false)),v5,v7,v7,uu,uu,uu,uu,uu,uu,uu,uu,uu,uu,uu,uu,uu,uu,uu,uu,uu,uu,uu,uu,uu,uu,uu,uu,uu,uu,uu,uu,uu,uu,uu,uu,uu,uu,uu,uu],h8⟩) :=
  bodyV_run rfl (go_seq (go_reg0
  (pP fun v1 h2 =>
  (pP fun v3 h4 =>
  (go_op0 rfl rfl (st_id (v := (V.lit (Value.bool false))) (H := h4) (by kernel_rfl)
  (eN
  (go_seq (go_reg0
  (pM fun v5 h6 =>
  (pP fun v7 h8 =>
  (pI v7 h8
  (go_gdT0 rfl rfl rfl (by kernel_rfl)
  (st_id (v := t2) (H := h8) (by kernel_rfl)
  (rN (st_bp (by kernel_rfl) fun v9 h10 =>
  (rN (st_bm (by kernel_rfl) fun v11 h12 =>
  (rN (st_bp (by kernel_rfl) fun v13 h14 =>
  (rN (st_bm (by kernel_rfl) fun v15 h16 =>
  (by kernel_rfl))))))))))
  (sK
  (sK
  (sK
  (sK
  (by kernel_rfl)))))
  (by kernel_rfl))))))))))))))
theorem xe11 (k wl : Nat) (h : Hp) : evF Tryz.prog xM (k + 1) wl 11 [t0,t1,t2,t3,t4] h = bodyV (xX (xS k) 11 wl k false) Tryz.f11 [t0,t1,t2,t3,t4] h := by kernel_rfl
theorem xm11_0 (zz : List V) (h : Hp) : opsP (xX s 11 wl k false) xg11_0 8 m0 ac (runK (xX s 11 wl k false) (bodyK s.P Tryz.f11) xk11_0) ⟨(t0::t1::t2::t3::t4::t5::t6::t7::t8::t9::ta::tb::tc::td::te::tf::tg::th::ti::tj::tk::tl::tm::zz),h⟩ =
  bm (vPick td ti (V.lit (Value.bool false))) h fun v17 h18 =>
  gd v17 (
  bp (callV (xX s 11 wl k false) false true (.fn (.func 39) [] []) [t1] h18) fun v19 h20 =>
  opsP (xX s 11 wl k false) xg11_0 12 m0 ac (runK (xX s 11 wl k false) (bodyK s.P Tryz.f11) xk11_0) ⟨(t0::t1::t2::t3::t4::t5::t6::t7::t8::t9::ta::tb::tc::td::te::tf::tg::th::ti::v17::(V.lit (Value.bool true))::t1::v19::zz),h20⟩) (
  opsP (xX s 11 wl k false) xg11_0 12 m0 ac (runK (xX s 11 wl k false) (bodyK s.P Tryz.f11) xk11_0) ⟨(t0::t1::t2::t3::t4::t5::t6::t7::t8::t9::ta::tb::tc::td::te::tf::tg::th::ti::v17::(V.lit (Value.bool false))::uu::uu::zz),h18⟩) (
  opsP (xX s 11 wl k false) xg11_0 11 m0 ac (runK (xX s 11 wl k false) (bodyK s.P Tryz.f11) xk11_0) ⟨(t0::t1::t2::t3::t4::t5::t6::t7::t8::t9::ta::tb::tc::td::te::tf::tg::th::ti::v17::v17::uu::tm::zz),h18⟩) :=
  (pM fun v17 h18 =>
  (pI v17 h18
  (go_gdT0 rfl rfl rfl (by kernel_rfl)
  (st_id (v := t1) (H := h18) (by kernel_rfl)
  (rN (st_bp (by kernel_rfl) fun v19 h20 =>
  (by kernel_rfl))))
  (sK
  (by kernel_rfl))
  (by kernel_rfl))))
theorem xm11_1 (zz : List V) (h : Hp) : opsP (xX s 11 wl k false) xg11_0 12 m0 ac (runK (xX s 11 wl k false) (bodyK s.P Tryz.f11) xk11_0) ⟨(t0::t1::t2::t3::t4::t5::t6::t7::t8::t9::ta::tb::tc::td::te::tf::tg::th::ti::tj::tk::tl::tm::tn::tp::tq::tr::zz),h⟩ =
  bm (vPick tk tm (V.lit (Value.bool false))) h fun v21 h22 =>
  gd v21 (
  bm (vBin s.P .geq 3 t3 (V.lit (Value.int .i64 0))) h22 fun v23 h24 =>
  opsP (xX s 11 wl k false) xg11_0 16 m0 ac (runK (xX s 11 wl k false) (bodyK s.P Tryz.f11) xk11_0) ⟨(t0::t1::t2::t3::t4::t5::t6::t7::t8::t9::ta::tb::tc::td::te::tf::tg::th::ti::tj::tk::tl::tm::v21::(V.lit (Value.bool true))::t3::v23::zz),h24⟩) (
  opsP (xX s 11 wl k false) xg11_0 16 m0 ac (runK (xX s 11 wl k false) (bodyK s.P Tryz.f11) xk11_0) ⟨(t0::t1::t2::t3::t4::t5::t6::t7::t8::t9::ta::tb::tc::td::te::tf::tg::th::ti::tj::tk::tl::tm::v21::(V.lit (Value.bool false))::uu::uu::zz),h22⟩) (
  opsP (xX s 11 wl k false) xg11_0 15 m0 ac (runK (xX s 11 wl k false) (bodyK s.P Tryz.f11) xk11_0) ⟨(t0::t1::t2::t3::t4::t5::t6::t7::t8::t9::ta::tb::tc::td::te::tf::tg::th::ti::tj::tk::tl::tm::v21::v21::uu::tr::zz),h22⟩) :=
  (pM fun v21 h22 =>
  (pI v21 h22
  (go_gdT0 rfl rfl rfl (by kernel_rfl)
  (st_id (v := t3) (H := h22) (by kernel_rfl)
  (rN (st_bm (by kernel_rfl) fun v23 h24 =>
  (by kernel_rfl))))
  (sK
  (by kernel_rfl))
  (by kernel_rfl))))
theorem xm11_2 (zz : List V) (h : Hp) : opsP (xX s 11 wl k false) xg11_0 16 m0 ac (runK (xX s 11 wl k false) (bodyK s.P Tryz.f11) xk11_0) ⟨(t0::t1::t2::t3::t4::t5::t6::t7::t8::t9::ta::tb::tc::td::te::tf::tg::th::ti::tj::tk::tl::tm::tn::tp::tq::tr::ts::tt::tu::tv::tw::tx::zz),h⟩ =
  bm (vPick tp tr (V.lit (Value.bool false))) h fun v25 h26 =>
  gd v25 (
  bm (vFieldAddr s.P 23 t5 0) h26 fun v27 h28 =>
  bm (vLoad s.P 3 v27 h28) h28 fun v29 h30 =>
  bm (vBin s.P .lss 3 t3 v29) h30 fun v31 h32 =>
  opsP (xX s 11 wl k false) xg11_0 22 m0 ac (runK (xX s 11 wl k false) (bodyK s.P Tryz.f11) xk11_0) ⟨(t0::t1::t2::t3::t4::t5::t6::t7::t8::t9::ta::tb::tc::td::te::tf::tg::th::ti::tj::tk::tl::tm::tn::tp::tq::tr::v25::(V.lit (Value.bool true))::t3::v27::v29::v31::zz),h32⟩) (
  opsP (xX s 11 wl k false) xg11_0 22 m0 ac (runK (xX s 11 wl k false) (bodyK s.P Tryz.f11) xk11_0) ⟨(t0::t1::t2::t3::t4::t5::t6::t7::t8::t9::ta::tb::tc::td::te::tf::tg::th::ti::tj::tk::tl::tm::tn::tp::tq::tr::v25::(V.lit (Value.bool false))::uu::uu::uu::uu::zz),h26⟩) (
  opsP (xX s 11 wl k false) xg11_0 19 m0 ac (runK (xX s 11 wl k false) (bodyK s.P Tryz.f11) xk11_0) ⟨(t0::t1::t2::t3::t4::t5::t6::t7::t8::t9::ta::tb::tc::td::te::tf::tg::th::ti::tj::tk::tl::tm::tn::tp::tq::tr::v25::v25::uu::tv::tw::tx::zz),h26⟩) :=
  (pM fun v25 h26 =>
  (pI v25 h26
  (go_gdT0 rfl rfl rfl (by kernel_rfl)
  (st_id (v := t3) (H := h26) (by kernel_rfl)
  (rN (st_bm (by kernel_rfl) fun v27 h28 =>
  (rN (st_bm (by kernel_rfl) fun v29 h30 =>
  (rN (st_bm (by kernel_rfl) fun v31 h32 =>
  (by kernel_rfl))))))))
  (sK
  (sK
  (sK
  (by kernel_rfl))))
  (by kernel_rfl))))
theorem xm11_3 (h : Hp) : opsP (xX s 11 wl k false) xg11_0 22 m0 ac (runK (xX s 11 wl k false) (bodyK s.P Tryz.f11) xk11_0) ⟨[t0,t1,t2,t3,t4,t5,t6,t7,t8,t9,ta,tb,tc,td,te,tf,tg,th,ti,tj,tk,tl,tm,tn,tp,tq,tr,ts,tt,tu,tv,tw,tx,ty,tz,tA,tB,tC,tD,tE,tF,tG,tH,tI,tJ,tK,tL,tM,tN,tO],h⟩ =
  bm (vPick tt tx (V.lit (Value.bool false))) h fun v33 h34 =>
  gd v33 (
  bm (vFieldAddr s.P 32 t9 0) h34 fun v35 h36 =>
  bm (vLoad s.P 3 v35 h36) h36 fun v37 h38 =>
  bm (vBin s.P .geq 3 v37 (V.lit (Value.int .i64 0))) h38 fun v39 h40 =>
  opsP (xX s 11 wl k false) xg11_0 27 m0 ac (runK (xX s 11 wl k false) (bodyK s.P Tryz.f11) xk11_0) ⟨[t0,t1,t2,t3,t4,t5,t6,t7,t8,t9,ta,tb,tc,td,te,tf,tg,th,ti,tj,tk,tl,tm,tn,tp,tq,tr,ts,tt,tu,tv,tw,tx,v33,(V.lit (Value.bool true)),v35,v37,v39,tD,tE,tF,tG,tH,tI,tJ,tK,tL,tM,tN,tO],h40⟩) (
  opsP (xX s 11 wl k false) xg11_0 27 m0 ac (runK (xX s 11 wl k false) (bodyK s.P Tryz.f11) xk11_0) ⟨[t0,t1,t2,t3,t4,t5,t6,t7,t8,t9,ta,tb,tc,td,te,tf,tg,th,ti,tj,tk,tl,tm,tn,tp,tq,tr,ts,tt,tu,tv,tw,tx,v33,(V.lit (Value.bool false)),uu,uu,uu,tD,tE,tF,tG,tH,tI,tJ,tK,tL,tM,tN,tO],h34⟩) (
  opsP (xX s 11 wl k false) xg11_0 25 m0 ac (runK (xX s 11 wl k false) (bodyK s.P Tryz.f11) xk11_0) ⟨[t0,t1,t2,t3,t4,t5,t6,t7,t8,t9,ta,tb,tc,td,te,tf,tg,th,ti,tj,tk,tl,tm,tn,tp,tq,tr,ts,tt,tu,tv,tw,tx,v33,v33,uu,tB,tC,tD,tE,tF,tG,tH,tI,tJ,tK,tL,tM,tN,tO],h34⟩) :=
  (pM fun v33 h34 =>
  (pI v33 h34
  (go_gdT0 rfl rfl rfl (by kernel_rfl)
  (st_bm (by kernel_rfl) fun v35 h36 =>
  (rN (st_bm (by kernel_rfl) fun v37 h38 =>
  (rN (st_bm (by kernel_rfl) fun v39 h40 =>
  (by kernel_rfl))))))
  (sK
  (sK
  (by kernel_rfl)))
  (by kernel_rfl))))
theorem xm11_4 (h : Hp) : opsP (xX s 11 wl k false) xg11_0 27 m0 ac (runK (xX s 11 wl k false) (bodyK s.P Tryz.f11) xk11_0) ⟨[t0,t1,t2,t3,t4,t5,t6,t7,t8,t9,ta,tb,tc,td,te,tf,tg,th,ti,tj,tk,tl,tm,tn,tp,tq,tr,ts,tt,tu,tv,tw,tx,ty,tz,tA,tB,tC,tD,tE,tF,tG,tH,tI,tJ,tK,tL,tM,tN,tO],h⟩ =
  bm (vPick tz tC (V.lit (Value.bool false))) h fun v41 h42 =>
  gd v41 (
  bm (vFieldAddr s.P 32 t9 0) h42 fun v43 h44 =>
  bm (vLoad s.P 3 v43 h44) h44 fun v45 h46 =>
  bm (vBin s.P .lss 3 v45 (V.lit (Value.int .i64 16))) h46 fun v47 h48 =>
  opsP (xX s 11 wl k false) xg11_0 32 m0 ac (runK (xX s 11 wl k false) (bodyK s.P Tryz.f11) xk11_0) ⟨[t0,t1,t2,t3,t4,t5,t6,t7,t8,t9,ta,tb,tc,td,te,tf,tg,th,ti,tj,tk,tl,tm,tn,tp,tq,tr,ts,tt,tu,tv,tw,tx,ty,tz,tA,tB,tC,v41,(V.lit (Value.bool true)),v43,v45,v47,tI,tJ,tK,tL,tM,tN,tO],h48⟩) (
  opsP (xX s 11 wl k false) xg11_0 32 m0 ac (runK (xX s 11 wl k false) (bodyK s.P Tryz.f11) xk11_0) ⟨[t0,t1,t2,t3,t4,t5,t6,t7,t8,t9,ta,tb,tc,td,te,tf,tg,th,ti,tj,tk,tl,tm,tn,tp,tq,tr,ts,tt,tu,tv,tw,tx,ty,tz,tA,tB,tC,v41,(V.lit (Value.bool false)),uu,uu,uu,tI,tJ,tK,tL,tM,tN,tO],h42⟩) (
  opsP (xX s 11 wl k false) xg11_0 30 m0 ac (runK (xX s 11 wl k false) (bodyK s.P Tryz.f11) xk11_0) ⟨[t0,t1,t2,t3,t4,t5,t6,t7,t8,t9,ta,tb,tc,td,te,tf,tg,th,ti,tj,tk,tl,tm,tn,tp,tq,tr,ts,tt,tu,tv,tw,tx,ty,tz,tA,tB,tC,v41,v41,uu,tG,tH,tI,tJ,tK,tL,tM,tN,tO],h42⟩) :=
  (pM fun v41 h42 =>
  (pI v41 h42
  (go_gdT0 rfl rfl rfl (by kernel_rfl)
  (st_bm (by kernel_rfl) fun v43 h44 =>
  (rN (st_bm (by kernel_rfl) fun v45 h46 =>
  (rN (st_bm (by kernel_rfl) fun v47 h48 =>
  (by kernel_rfl))))))
  (sK
  (sK
  (by kernel_rfl)))
  (by kernel_rfl))))
theorem xm11_5 (h : Hp) : opsP (xX s 11 wl k false) xg11_0 32 m0 ac (runK (xX s 11 wl k false) (bodyK s.P Tryz.f11) xk11_0) ⟨[t0,t1,t2,t3,t4,t5,t6,t7,t8,t9,ta,tb,tc,td,te,tf,tg,th,ti,tj,tk,tl,tm,tn,tp,tq,tr,ts,tt,tu,tv,tw,tx,ty,tz,tA,tB,tC,tD,tE,tF,tG,tH,tI,tJ,tK,tL,tM,tN,tO],h⟩ =
  bm (vPick tE tH (V.lit (Value.bool false))) h fun v49 h50 =>
  gd v49 (
  bm (vFieldAddr s.P 32 t9 1) h50 fun v51 h52 =>
  bm (vLoad s.P 27 v51 h52) h52 fun v53 h54 =>
  bp (callV (xX s 11 wl k false) false true (.fn (.func 40) [] []) [t1,v53] h54) fun v55 h56 =>
  opsP (xX s 11 wl k false) xg11_0 38 m0 ac (runK (xX s 11 wl k false) (bodyK s.P Tryz.f11) xk11_0) ⟨[t0,t1,t2,t3,t4,t5,t6,t7,t8,t9,ta,tb,tc,td,te,tf,tg,th,ti,tj,tk,tl,tm,tn,tp,tq,tr,ts,tt,tu,tv,tw,tx,ty,tz,tA,tB,tC,tD,tE,tF,tG,tH,v49,(V.lit (Value.bool true)),t1,v51,v53,v55,tO],h56⟩) (
  opsP (xX s 11 wl k false) xg11_0 38 m0 ac (runK (xX s 11 wl k false) (bodyK s.P Tryz.f11) xk11_0) ⟨[t0,t1,t2,t3,t4,t5,t6,t7,t8,t9,ta,tb,tc,td,te,tf,tg,th,ti,tj,tk,tl,tm,tn,tp,tq,tr,ts,tt,tu,tv,tw,tx,ty,tz,tA,tB,tC,tD,tE,tF,tG,tH,v49,(V.lit (Value.bool false)),uu,uu,uu,uu,tO],h50⟩) (
  opsP (xX s 11 wl k false) xg11_0 35 m0 ac (runK (xX s 11 wl k false) (bodyK s.P Tryz.f11) xk11_0) ⟨[t0,t1,t2,t3,t4,t5,t6,t7,t8,t9,ta,tb,tc,td,te,tf,tg,th,ti,tj,tk,tl,tm,tn,tp,tq,tr,ts,tt,tu,tv,tw,tx,ty,tz,tA,tB,tC,tD,tE,tF,tG,tH,v49,v49,uu,tL,tM,tN,tO],h50⟩) :=
  (pM fun v49 h50 =>
  (pI v49 h50
  (go_gdT0 rfl rfl rfl (by kernel_rfl)
  (st_id (v := t1) (H := h50) (by kernel_rfl)
  (rN (st_bm (by kernel_rfl) fun v51 h52 =>
  (rN (st_bm (by kernel_rfl) fun v53 h54 =>
  (rN (st_bp (by kernel_rfl) fun v55 h56 =>
  (by kernel_rfl))))))))
  (sK
  (sK
  (sK
  (by kernel_rfl))))
  (by kernel_rfl))))
theorem xm11_6 (h : Hp) : opsP (xX s 11 wl k false) xg11_0 38 m0 ac (runK (xX s 11 wl k false) (bodyK s.P Tryz.f11) xk11_0) ⟨[t0,t1,t2,t3,t4,t5,t6,t7,t8,t9,ta,tb,tc,td,te,tf,tg,th,ti,tj,tk,tl,tm,tn,tp,tq,tr,ts,tt,tu,tv,tw,tx,ty,tz,tA,tB,tC,tD,tE,tF,tG,tH,tI,tJ,tK,tL,tM,tN,tO],h⟩ =
  bm (vPick tJ tN (V.lit (Value.bool false))) h fun v57 h58 =>
  some (v57,h58) :=
  (pM fun v57 h58 =>
  (pI v57 h58
  (eN
  (go_ret (by kernel_rfl)))))
theorem xk11_0_ret (cx : Cx) (K : Out → St → Option (V × Hp)) (s : St) : runK cx K xk11_0 .ret s = K .ret s := by kernel_rfl
-- names: xb11,xm11_0,xm11_1,xm11_2,xm11_3,xm11_4,xm11_5,xm11_6,xk11_0_ret
theorem xb14 (h : Hp) : bodyV (xX s 14 wl k false) Tryz.f14 [t0] h =
  bp (opBox t0 h) fun v1 h2 =>
  bp (vBuildSlice s.P wl 65 5 [(0,(V.lit (Value.int .i64 2))),(1,(V.lit (Value.int .i64 3))),(2,(V.lit (Value.int .i64 4))),(3,(V.lit (Value.int .i64 5))),(4,(V.lit (Value.int .i64 6)))] h2) fun v3 h4 =>
  bm (vFieldAddr s.P 32 v1 0) h4 fun v5 h6 =>
  bm (vLoad s.P 3 v5 h6) h6 fun v7 h8 =>
  bp (callV (xX s 14 wl k false) false true (.fn (.func 43) [] []) [v3,v7] h8) fun v9 h10 =>
  some (v9,h10) :=
  bodyV_run rfl (go_seq (go_reg0
  (pP fun v1 h2 =>
  (go_op0 rfl rfl (st_id (v := (V.lit (Value.bool false))) (H := h2) (by kernel_rfl)
  (eN
  (go_seq (go_reg0
  (pP fun v3 h4 =>
  (pM fun v5 h6 =>
  (pM fun v7 h8 =>
  (pP fun v9 h10 =>
  (pI v9 h10
  (eN
  (go_ret (by kernel_rfl))))))))))))))))
theorem xe14 (k wl : Nat) (h : Hp) : evF Tryz.prog xM (k + 1) wl 14 [t0] h = bodyV (xX (xS k) 14 wl k false) Tryz.f14 [t0] h := by kernel_rfl
-- names: xb14,

theorem xb43 (h : Hp) : bodyV (xX s 43 wl k false) Tryz.f43 [t0,t1] h =
  bp (callV (xX s 43 wl k false) false true (.fn (.func 67) [] []) [t0,t1] h) fun v1 h2 =>
  bm (vBin s.P .geq 3 v1 (V.lit (Value.int .i64 0))) h2 fun v3 h4 =>
  some (v3,h4) :=
  bodyV_run rfl (go_seq (go_reg0
  (go_op0 rfl rfl (st_id (v := (V.lit (Value.bool false))) (H := h) (by kernel_rfl)
  (eN
  (go_seq (go_reg0
  (pI t0 h
  (pI t1 h
  (pP fun v1 h2 =>
  (pM fun v3 h4 =>
  (pI v3 h4
  (eN
  (go_ret (by kernel_rfl)))))))))))))))
theorem xe43 (k wl : Nat) (h : Hp) : evF Tryz.prog xM (k + 1) wl 43 [t0,t1] h = bodyV (xX (xS k) 43 wl k false) Tryz.f43 [t0,t1] h := by kernel_rfl
-- names: xb43,
noncomputable def xl67_0 : Code := codeAt (bodyOf Tryz.f67) [1,0,1,0,0]
noncomputable def xk67_0 : List Fr := [.block 0,.seq (codeAt (bodyOf Tryz.f67) [1,1])]
theorem xb67 (h : Hp) : bodyV (xX s 67 wl k false) Tryz.f67 [t0,t1] h =
  bp (opLen s.P 65 t0 h) fun v1 h2 =>
  itX (xX s 67 wl k false) xl67_0 h2.length (runK (xX s 67 wl k false) (bodyK s.P Tryz.f67) xk67_0) k ⟨[(V.kill h2.length t0),(V.kill h2.length t1),(V.kill h2.length uu),(V.kill h2.length uu),(V.lit (Value.int .i64 0)),(V.kill h2.length uu),(V.kill h2.length t0),(V.kill h2.length v1),(V.lit (Value.int .i64 0)),.junk,.junk,.junk,.junk,.junk,.junk,.junk,.junk,.junk,.junk],cutH h2.length h2⟩ :=
  bodyV_run rfl (go_seq (go_reg0
  (go_op0 rfl rfl (st_id (v := (V.lit (Value.int .i64 0))) (H := h) (by kernel_rfl)
  (eN
  (go_seq (go_seq (go_reg0
  (pI t0 h
  (pP fun v1 h2 =>
  (go_op0 rfl rfl (st_id (v := (V.lit (Value.int .i64 0))) (H := h2) (by kernel_rfl)
  (eN
  (go_block (by kernel_rfl)))))))))))))))
theorem xe67 (k wl : Nat) (h : Hp) : evF Tryz.prog xM (k + 1) wl 67 [t0,t1] h = bodyV (xX (xS k) 67 wl k false) Tryz.f67 [t0,t1] h := by kernel_rfl
theorem xz67 (P : Program) (h : Hp) : bodyK P Tryz.f67 .ret ⟨[t0,t1,t2,t3,t4,t5,t6,t7,t8,t9,ta,tb,tc,td,te,tf,tg,th,ti],h⟩ = some (t4,h) := by kernel_rfl
theorem xr67_0 (s : Sys) (K : Out → St → Option (V × Hp)) (k wl : Nat) (rd : Bool) (n n0 : Nat) (h : Hp) : itX (xX s 67 wl k rd) xl67_0 n0 K (n + 1) ⟨[t0,t1,t2,t3,t4,t5,t6,t7,t8,t9,ta,tb,tc,td,te,tf,tg,th,ti],h⟩ =
  bm (vBin s.P .lss 3 t8 t7) h fun v3 h4 =>
  cnd v3 (
  bm (vIndexAddr s.P 65 t0 t8 h4) h4 fun v5 h6 =>
  bm (vLoad s.P 3 v5 h6) h6 fun v7 h8 =>
  bm (vBin s.P .eql 3 t1 v7) h8 fun v9 h10 =>
  cnd v9 (
  K .ret ⟨[t0,t1,t2,t3,t8,t8,t6,t7,t8,v3,t8,t1,t0,t8,v5,v7,v9,t8,ti],h10⟩) (
  bm (vBin s.P .add 3 t8 (V.lit (Value.int .i64 1))) h10 fun v11 h12 =>
  itX (xX s 67 wl k rd) xl67_0 n0 K n ⟨[(V.kill n0 t0),(V.kill n0 t1),(V.kill n0 t2),(V.kill n0 t3),(V.kill n0 t4),(V.kill n0 t8),(V.kill n0 t6),(V.kill n0 t7),(V.kill n0 v11),.junk,.junk,.junk,.junk,.junk,.junk,.junk,.junk,.junk,.junk],cutH n0 h12⟩)) (
  K (.exit 0) ⟨[(V.kill n0 t0),(V.kill n0 t1),(V.kill n0 t2),(V.kill n0 t3),(V.kill n0 t4),(V.kill n0 t5),(V.kill n0 t6),(V.kill n0 t7),.junk,.junk,.junk,.junk,.junk,.junk,.junk,.junk,.junk,.junk,.junk],cutH n0 h4⟩) :=
  itX_step (go_seq (go_reg0
  (pM fun v3 h4 =>
  (eN
  (go_seq (go_cond (by kernel_rfl)
  (go_skip (go_seq (go_block (go_seq (go_reg0
  (pI t8 h4
  (pI t8 h4
  (eN
  (go_seq (go_reg0
  (pI t1 h4
  (pI t0 h4
  (pI t8 h4
  (pM fun v5 h6 =>
  (pM fun v7 h8 =>
  (pM fun v9 h10 =>
  (eN
  (go_cond (by kernel_rfl)
  (go_seq (go_reg0
  (pI t8 h10
  (pI t8 h10
  (eN
  (go_ret (rt_block_ret (rt_seq_ret (by kernel_rfl)))))))))
  (go_skip (rt_block_norm (go_reg0
  (pM fun v11 h12 =>
  (pI v11 h12
  (eN
  (by kernel_rfl)))))))))))))))))))))))))
  (go_exit (rt_seq_exit (by kernel_rfl)))))))))
theorem xj67_0 (h : Hp) : runK (xX s 67 wl k false) (bodyK s.P Tryz.f67) xk67_0 (.exit 0) ⟨[t0,t1,t2,t3,t4,t5,t6,t7,t8,t9,ta,tb,tc,td,te,tf,tg,th,ti],h⟩ =
  some ((V.lit (Value.int .i64 (-1))),h) :=
  (rt_block_eq (go_seq (go_reg0
  (go_op0 rfl rfl (st_id (v := (V.lit (Value.int .i64 (-1)))) (H := h) (by kernel_rfl)
  (eN
  (go_ret (by kernel_rfl))))))))
theorem xk67_0_ret (cx : Cx) (K : Out → St → Option (V × Hp)) (s : St) : runK cx K xk67_0 .ret s = K .ret s := by kernel_rfl
-- names: xb67,xz67,xr67_0,xj67_0,xk67_0_ret
noncomputable def xg51_0 : Code := codeAt (bodyOf Tryz.f51) [1,0,0]
noncomputable def xk51_0 : List Fr := [.seq (codeAt (bodyOf Tryz.f51) [1,0,1]),.seq (codeAt (bodyOf Tryz.f51) [1,1])]
theorem xb51 (h : Hp) : bodyV (xX s 51 wl k false) Tryz.f51 [t0,t1,t2] h =
  bm (vBin s.P .lss 3 t2 (V.lit (Value.int .i64 2))) h fun v1 h2 =>
  gd v1 (
  opsP (xX s 51 wl k false) xg51_0 7 h.length ([],[]) (runK (xX s 51 wl k false) (bodyK s.P Tryz.f51) xk51_0) ⟨[t0,t1,t2,uu,uu,uu,(V.lit (Value.int .i64 0)),uu,t2,v1,(V.lit (Value.bool true)),uu,uu,uu,uu,uu,uu,uu,uu,uu,uu,uu,uu,uu,uu,uu,uu,uu,uu],h2⟩) (
  bp (callV (xX s 51 wl k false) false true (.fn (.func 74) [] []) [t1,t2] h2) fun v3 h4 =>
  bm (vUn .not v3) h4 fun v5 h6 =>
  opsP (xX s 51 wl k false) xg51_0 7 h.length ([],[]) (runK (xX s 51 wl k false) (bodyK s.P Tryz.f51) xk51_0) ⟨[t0,t1,t2,uu,uu,uu,(V.lit (Value.int .i64 0)),uu,t2,v1,(V.lit (Value.bool false)),t1,t2,v3,v5,uu,uu,uu,uu,uu,uu,uu,uu,uu,uu,uu,uu,uu,uu],h6⟩) (
  opsP (xX s 51 wl k false) xg51_0 4 h.length ([],[]) (runK (xX s 51 wl k false) (bodyK s.P Tryz.f51) xk51_0) ⟨[t0,t1,t2,uu,uu,uu,(V.lit (Value.int .i64 0)),uu,t2,v1,v1,uu,uu,uu,uu,uu,uu,uu,uu,uu,uu,uu,uu,uu,uu,uu,uu,uu,uu],h2⟩) :=
  bodyV_run rfl (go_seq (go_reg0
  (go_op0 rfl rfl (st_id (v := (V.lit (Value.int .i64 0))) (H := h) (by kernel_rfl)
  (eN
  (go_seq (go_seq (go_reg0
  (pI t2 h
  (pM fun v1 h2 =>
  (pI v1 h2
  (go_gdF0 rfl rfl rfl (by kernel_rfl)
  (sK
  (sK
  (sK
  (by kernel_rfl))))
  (st_id (v := t1) (H := h2) (by kernel_rfl)
  (rN (st_id (v := t2) (H := h2) (by kernel_rfl)
  (rN (st_bp (by kernel_rfl) fun v3 h4 =>
  (rN (st_bm (by kernel_rfl) fun v5 h6 =>
  (by kernel_rfl))))))))
  (by kernel_rfl)))))))))))))
theorem xe51 (k wl : Nat) (h : Hp) : evF Tryz.prog xM (k + 1) wl 51 [t0,t1,t2] h = bodyV (xX (xS k) 51 wl k false) Tryz.f51 [t0,t1,t2] h := by kernel_rfl
theorem xm51_0 (h : Hp) : opsP (xX s 51 wl k false) xg51_0 7 m0 ac (runK (xX s 51 wl k false) (bodyK s.P Tryz.f51) xk51_0) ⟨[t0,t1,t2,t3,t4,t5,t6,t7,t8,t9,ta,tb,tc,td,te,tf,tg,th,ti,tj,tk,tl,tm,tn,tp,tq,tr,ts,tt],h⟩ =
  bm (vPick ta (V.lit (Value.bool true)) te) h fun v7 h8 =>
  cnd v7 (
  some ((V.lit (Value.int .i64 (-1))),h8)) (
  bm (vConv s.P 3 28 t2) h8 fun v9 h10 =>
  bm (vConv s.P 3 28 t1) h10 fun v11 h12 =>
  bm (vBin s.P .add 28 v11 (V.lit (Value.int .u64 1))) h12 fun v13 h14 =>
  bm (vBin s.P .sub 28 v9 (V.lit (Value.int .u64 1))) h14 fun v15 h16 =>
  bm (vBin s.P .rem 28 t0 v15) h16 fun v17 h18 =>
  bm (vBin s.P .add 28 v13 v17) h18 fun v19 h20 =>
  bm (vBin s.P .rem 28 v19 v9) h20 fun v21 h22 =>
  bm (vConv s.P 28 3 v21) h22 fun v23 h24 =>
  some (v23,h24)) :=
  (pM fun v7 h8 =>
  (eN
  (go_cond (by kernel_rfl)
  (go_seq (go_reg0
  (go_op0 rfl rfl (st_id (v := (V.lit (Value.int .i64 (-1)))) (H := h8) (by kernel_rfl)
  (eN
  (go_ret (rt_seq_ret (by kernel_rfl))))))))
  (go_skip (go_seq (go_reg0
  (pI t2 h8
  (pM fun v9 h10 =>
  (pI v9 h10
  (eN
  (go_seq (go_reg0
  (pI t1 h10
  (pM fun v11 h12 =>
  (pM fun v13 h14 =>
  (pI t0 h14
  (pI v9 h14
  (pM fun v15 h16 =>
  (pM fun v17 h18 =>
  (pM fun v19 h20 =>
  (pI v9 h20
  (pM fun v21 h22 =>
  (pM fun v23 h24 =>
  (pI v23 h24
  (eN
  (go_ret (by kernel_rfl)))))))))))))))))))))))))))
theorem xk51_0_ret (cx : Cx) (K : Out → St → Option (V × Hp)) (s : St) : runK cx K xk51_0 .ret s = K .ret s := by kernel_rfl
-- names: xb51,xm51_0,xk51_0_ret
noncomputable def xg74_0 : Code := codeAt (bodyOf Tryz.f74) [1,0]
noncomputable def xk74_0 : List Fr := [.seq (codeAt (bodyOf Tryz.f74) [1,1])]
theorem xb74 (h : Hp) : bodyV (xX s 74 wl k false) Tryz.f74 [t0,t1] h =
  bm (vBin s.P .geq 3 t0 (V.lit (Value.int .i64 0))) h fun v1 h2 =>
  gd v1 (
  bm (vBin s.P .lss 3 t0 t1) h2 fun v3 h4 =>
  opsP (xX s 74 wl k false) xg74_0 6 h.length ([],[]) (runK (xX s 74 wl k false) (bodyK s.P Tryz.f74) xk74_0) ⟨[t0,t1,uu,uu,(V.lit (Value.bool false)),t0,v1,(V.lit (Value.bool true)),t0,t1,v3,uu],h4⟩) (
  opsP (xX s 74 wl k false) xg74_0 6 h.length ([],[]) (runK (xX s 74 wl k false) (bodyK s.P Tryz.f74) xk74_0) ⟨[t0,t1,uu,uu,(V.lit (Value.bool false)),t0,v1,(V.lit (Value.bool false)),uu,uu,uu,uu],h2⟩) (
  opsP (xX s 74 wl k false) xg74_0 4 h.length ([],[]) (runK (xX s 74 wl k false) (bodyK s.P Tryz.f74) xk74_0) ⟨[t0,t1,uu,uu,(V.lit (Value.bool false)),t0,v1,v1,uu,uu,uu,uu],h2⟩) :=
  bodyV_run rfl (go_seq (go_reg0
  (go_op0 rfl rfl (st_id (v := (V.lit (Value.bool false))) (H := h) (by kernel_rfl)
  (eN
  (go_seq (go_reg0
  (pI t0 h
  (pM fun v1 h2 =>
  (pI v1 h2
  (go_gdT0 rfl rfl rfl (by kernel_rfl)
  (st_id (v := t0) (H := h2) (by kernel_rfl)
  (rN (st_id (v := t1) (H := h2) (by kernel_rfl)
  (rN (st_bm (by kernel_rfl) fun v3 h4 =>
  (by kernel_rfl))))))
  (sK
  (sK
  (by kernel_rfl)))
  (by kernel_rfl))))))))))))
theorem xe74 (k wl : Nat) (h : Hp) : evF Tryz.prog xM (k + 1) wl 74 [t0,t1] h = bodyV (xX (xS k) 74 wl k false) Tryz.f74 [t0,t1] h := by kernel_rfl
theorem xm74_0 (h : Hp) : opsP (xX s 74 wl k false) xg74_0 6 m0 ac (runK (xX s 74 wl k false) (bodyK s.P Tryz.f74) xk74_0) ⟨[t0,t1,t2,t3,t4,t5,t6,t7,t8,t9,ta,tb],h⟩ =
  bm (vPick t7 ta (V.lit (Value.bool false))) h fun v5 h6 =>
  some (v5,h6) :=
  (pM fun v5 h6 =>
  (pI v5 h6
  (eN
  (go_ret (by kernel_rfl)))))
theorem xk74_0_ret (cx : Cx) (K : Out → St → Option (V × Hp)) (s : St) : runK cx K xk74_0 .ret s = K .ret s := by kernel_rfl
-- names: xb74,xm74_0,xk74_0_ret
end Go.Ab
