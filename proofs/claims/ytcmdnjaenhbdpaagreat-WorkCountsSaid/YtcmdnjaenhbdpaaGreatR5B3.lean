/- The program's code,point by point: printed by gen.py. -/
import Derived.Test.YtcmdnjaenhbdpaaGreatR5Seat
import Derived.Test.YtcmdnjaenhbdpaaGreatAbLibC
set_option linter.unusedVariables false
set_option linter.unusedSimpArgs false
set_option maxRecDepth 100000
set_option linter.unusedVariables false
namespace Go.Ab
open Go.Proofs
variable (s : Sys) (k wl : Nat) (m0 : Nat) (ac : List Nat × List Nat) (t0 t1 t2 t3 t4 t5 t6 t7 t8 t9 ta tb tc td te tf tg th ti tj tk tl tm tn tp tq tr ts tt tu tv tw tx ty tz tA tB tC tD tE tF tG tH tI tJ tK tL tM tN tO tP tQ tR tS tT tU tV tW tX : V)
noncomputable def xg99_0 : Code := codeAt (bodyOf Tryz.f99) [1,0]
noncomputable def xk99_0 : List Fr := [.seq (codeAt (bodyOf Tryz.f99) [1,1])]
theorem xb99 (h : Hp) : bodyV (xX s 99 wl k false) Tryz.f99 [t0,t1,t2,t3,t4] h =
  bp (opBox t0 h) fun v1 h2 =>
  bp (opBox t2 h2) fun v3 h4 =>
  bm (vLoad s.P 23 v1 h4) h4 fun v5 h6 =>
  bp (callV (xX s 99 wl k false) false true (.fn (.func 37) [] []) [v5] h6) fun v7 h8 =>
  gd v7 (
  bp (opLen s.P 26 t1 h8) fun v9 h10 =>
  bm (vLoad s.P 23 v1 h10) h10 fun v11 h12 =>
  bp (callV (xX s 99 wl k false) false true (.fn (.func 38) [] []) [v11] h12) fun v13 h14 =>
  bm (vBin s.P .eql 3 v9 v13) h14 fun v15 h16 =>
  opsP (xX s 99 wl k false) xg99_0 8 h4.length ([],[]) (runK (xX s 99 wl k false) (bodyK s.P Tryz.f99) xk99_0) ⟨[t0,t1,t2,t3,t4,v1,uu,v3,uu,uu,(V.lit (Value.bool false)),v5,v7,(V.lit (Value.bool true)),t1,v9,v11,v13,v15,uu,uu,uu,uu,uu,uu,uu,uu,uu,uu,uu,uu,uu,uu,uu,uu,uu,uu,uu,uu,uu,uu,uu,uu,uu,uu,uu,uu,uu,uu,uu,uu,uu,uu,uu],h16⟩) (
  opsP (xX s 99 wl k false) xg99_0 8 h4.length ([],[]) (runK (xX s 99 wl k false) (bodyK s.P Tryz.f99) xk99_0) ⟨[t0,t1,t2,t3,t4,v1,uu,v3,uu,uu,(V.lit (Value.bool false)),v5,v7,(V.lit (Value.bool false)),uu,uu,uu,uu,uu,uu,uu,uu,uu,uu,uu,uu,uu,uu,uu,uu,uu,uu,uu,uu,uu,uu,uu,uu,uu,uu,uu,uu,uu,uu,uu,uu,uu,uu,uu,uu,uu,uu,uu,uu],h8⟩) (
  opsP (xX s 99 wl k false) xg99_0 4 h4.length ([],[]) (runK (xX s 99 wl k false) (bodyK s.P Tryz.f99) xk99_0) ⟨[t0,t1,t2,t3,t4,v1,uu,v3,uu,uu,(V.lit (Value.bool false)),v5,v7,v7,uu,uu,uu,uu,uu,uu,uu,uu,uu,uu,uu,uu,uu,uu,uu,uu,uu,uu,uu,uu,uu,uu,uu,uu,uu,uu,uu,uu,uu,uu,uu,uu,uu,uu,uu,uu,uu,uu,uu,uu],h8⟩) :=
  bodyV_run rfl (go_seq (go_reg0
  (pP fun v1 h2 =>
  (pP fun v3 h4 =>
  (go_op0 rfl rfl (st_id (v := (V.lit (Value.bool false))) (H := h4) (by kernel_rfl)
  (eN
  (go_seq (go_reg0
  (pM fun v5 h6 =>
  (pP fun v7 h8 =>
  (pI v7 h8
  (go_gdT0 rfl rfl rfl (by kernel_rfl)
  (st_id (v := t1) (H := h8) (by kernel_rfl)
  (rN (st_bp (by kernel_rfl) fun v9 h10 =>
  (rN (st_bm (by kernel_rfl) fun v11 h12 =>
  (rN (st_bp (by kernel_rfl) fun v13 h14 =>
  (rN (st_bm (by kernel_rfl) fun v15 h16 =>
  (by kernel_rfl))))))))))
  (sK
  (sK
  (sK
  (sK
  (by kernel_rfl)))))
  (by kernel_rfl))))))))))))))
theorem xe99 (k wl : Nat) (h : Hp) : evF Tryz.prog xM (k + 1) wl 99 [t0,t1,t2,t3,t4] h = bodyV (xX (xS k) 99 wl k false) Tryz.f99 [t0,t1,t2,t3,t4] h := by kernel_rfl
theorem xm99_0 (zz : List V) (h : Hp) : opsP (xX s 99 wl k false) xg99_0 8 m0 ac (runK (xX s 99 wl k false) (bodyK s.P Tryz.f99) xk99_0) ⟨(t0::t1::t2::t3::t4::t5::t6::t7::t8::t9::ta::tb::tc::td::te::tf::tg::th::ti::tj::tk::tl::tm::tn::zz),h⟩ =
  bm (vPick td ti (V.lit (Value.bool false))) h fun v17 h18 =>
  gd v17 (
  bm (vLoad s.P 30 t7 h18) h18 fun v19 h20 =>
  bp (callV (xX s 99 wl k false) false true (.fn (.func 68) [] []) [v19] h20) fun v21 h22 =>
  bm (vUn .not v21) h22 fun v23 h24 =>
  opsP (xX s 99 wl k false) xg99_0 13 m0 ac (runK (xX s 99 wl k false) (bodyK s.P Tryz.f99) xk99_0) ⟨(t0::t1::t2::t3::t4::t5::t6::t7::t8::t9::ta::tb::tc::td::te::tf::tg::th::ti::v17::(V.lit (Value.bool true))::v19::v21::v23::zz),h24⟩) (
  opsP (xX s 99 wl k false) xg99_0 13 m0 ac (runK (xX s 99 wl k false) (bodyK s.P Tryz.f99) xk99_0) ⟨(t0::t1::t2::t3::t4::t5::t6::t7::t8::t9::ta::tb::tc::td::te::tf::tg::th::ti::v17::(V.lit (Value.bool false))::uu::uu::uu::zz),h18⟩) (
  opsP (xX s 99 wl k false) xg99_0 11 m0 ac (runK (xX s 99 wl k false) (bodyK s.P Tryz.f99) xk99_0) ⟨(t0::t1::t2::t3::t4::t5::t6::t7::t8::t9::ta::tb::tc::td::te::tf::tg::th::ti::v17::v17::uu::tm::tn::zz),h18⟩) :=
  (pM fun v17 h18 =>
  (pI v17 h18
  (go_gdT0 rfl rfl rfl (by kernel_rfl)
  (st_bm (by kernel_rfl) fun v19 h20 =>
  (rN (st_bp (by kernel_rfl) fun v21 h22 =>
  (rN (st_bm (by kernel_rfl) fun v23 h24 =>
  (by kernel_rfl))))))
  (sK
  (sK
  (by kernel_rfl)))
  (by kernel_rfl))))
theorem xm99_1 (zz : List V) (h : Hp) : opsP (xX s 99 wl k false) xg99_0 13 m0 ac (runK (xX s 99 wl k false) (bodyK s.P Tryz.f99) xk99_0) ⟨(t0::t1::t2::t3::t4::t5::t6::t7::t8::t9::ta::tb::tc::td::te::tf::tg::th::ti::tj::tk::tl::tm::tn::tp::tq::tr::ts::tt::zz),h⟩ =
  bm (vPick tk tn (V.lit (Value.bool false))) h fun v25 h26 =>
  gd v25 (
  bm (vFieldAddr s.P 30 t7 2) h26 fun v27 h28 =>
  bm (vLoad s.P 3 v27 h28) h28 fun v29 h30 =>
  bm (vBin s.P .geq 3 v29 (V.lit (Value.int .i64 0))) h30 fun v31 h32 =>
  opsP (xX s 99 wl k false) xg99_0 18 m0 ac (runK (xX s 99 wl k false) (bodyK s.P Tryz.f99) xk99_0) ⟨(t0::t1::t2::t3::t4::t5::t6::t7::t8::t9::ta::tb::tc::td::te::tf::tg::th::ti::tj::tk::tl::tm::tn::v25::(V.lit (Value.bool true))::v27::v29::v31::zz),h32⟩) (
  opsP (xX s 99 wl k false) xg99_0 18 m0 ac (runK (xX s 99 wl k false) (bodyK s.P Tryz.f99) xk99_0) ⟨(t0::t1::t2::t3::t4::t5::t6::t7::t8::t9::ta::tb::tc::td::te::tf::tg::th::ti::tj::tk::tl::tm::tn::v25::(V.lit (Value.bool false))::uu::uu::uu::zz),h26⟩) (
  opsP (xX s 99 wl k false) xg99_0 16 m0 ac (runK (xX s 99 wl k false) (bodyK s.P Tryz.f99) xk99_0) ⟨(t0::t1::t2::t3::t4::t5::t6::t7::t8::t9::ta::tb::tc::td::te::tf::tg::th::ti::tj::tk::tl::tm::tn::v25::v25::uu::ts::tt::zz),h26⟩) :=
  (pM fun v25 h26 =>
  (pI v25 h26
  (go_gdT0 rfl rfl rfl (by kernel_rfl)
  (st_bm (by kernel_rfl) fun v27 h28 =>
  (rN (st_bm (by kernel_rfl) fun v29 h30 =>
  (rN (st_bm (by kernel_rfl) fun v31 h32 =>
  (by kernel_rfl))))))
  (sK
  (sK
  (by kernel_rfl)))
  (by kernel_rfl))))
theorem xm99_2 (zz : List V) (h : Hp) : opsP (xX s 99 wl k false) xg99_0 18 m0 ac (runK (xX s 99 wl k false) (bodyK s.P Tryz.f99) xk99_0) ⟨(t0::t1::t2::t3::t4::t5::t6::t7::t8::t9::ta::tb::tc::td::te::tf::tg::th::ti::tj::tk::tl::tm::tn::tp::tq::tr::ts::tt::tu::tv::tw::tx::ty::tz::tA::zz),h⟩ =
  bm (vPick tq tt (V.lit (Value.bool false))) h fun v33 h34 =>
  gd v33 (
  bm (vFieldAddr s.P 30 t7 2) h34 fun v35 h36 =>
  bm (vLoad s.P 3 v35 h36) h36 fun v37 h38 =>
  bm (vFieldAddr s.P 23 t5 0) h38 fun v39 h40 =>
  bm (vLoad s.P 3 v39 h40) h40 fun v41 h42 =>
  bm (vBin s.P .lss 3 v37 v41) h42 fun v43 h44 =>
  opsP (xX s 99 wl k false) xg99_0 25 m0 ac (runK (xX s 99 wl k false) (bodyK s.P Tryz.f99) xk99_0) ⟨(t0::t1::t2::t3::t4::t5::t6::t7::t8::t9::ta::tb::tc::td::te::tf::tg::th::ti::tj::tk::tl::tm::tn::tp::tq::tr::ts::tt::v33::(V.lit (Value.bool true))::v35::v37::v39::v41::v43::zz),h44⟩) (
  opsP (xX s 99 wl k false) xg99_0 25 m0 ac (runK (xX s 99 wl k false) (bodyK s.P Tryz.f99) xk99_0) ⟨(t0::t1::t2::t3::t4::t5::t6::t7::t8::t9::ta::tb::tc::td::te::tf::tg::th::ti::tj::tk::tl::tm::tn::tp::tq::tr::ts::tt::v33::(V.lit (Value.bool false))::uu::uu::uu::uu::uu::zz),h34⟩) (
  opsP (xX s 99 wl k false) xg99_0 21 m0 ac (runK (xX s 99 wl k false) (bodyK s.P Tryz.f99) xk99_0) ⟨(t0::t1::t2::t3::t4::t5::t6::t7::t8::t9::ta::tb::tc::td::te::tf::tg::th::ti::tj::tk::tl::tm::tn::tp::tq::tr::ts::tt::v33::v33::uu::tx::ty::tz::tA::zz),h34⟩) :=
  (pM fun v33 h34 =>
  (pI v33 h34
  (go_gdT0 rfl rfl rfl (by kernel_rfl)
  (st_bm (by kernel_rfl) fun v35 h36 =>
  (rN (st_bm (by kernel_rfl) fun v37 h38 =>
  (rN (st_bm (by kernel_rfl) fun v39 h40 =>
  (rN (st_bm (by kernel_rfl) fun v41 h42 =>
  (rN (st_bm (by kernel_rfl) fun v43 h44 =>
  (by kernel_rfl))))))))))
  (sK
  (sK
  (sK
  (sK
  (by kernel_rfl)))))
  (by kernel_rfl))))
theorem xm99_3 (h : Hp) : opsP (xX s 99 wl k false) xg99_0 25 m0 ac (runK (xX s 99 wl k false) (bodyK s.P Tryz.f99) xk99_0) ⟨[t0,t1,t2,t3,t4,t5,t6,t7,t8,t9,ta,tb,tc,td,te,tf,tg,th,ti,tj,tk,tl,tm,tn,tp,tq,tr,ts,tt,tu,tv,tw,tx,ty,tz,tA,tB,tC,tD,tE,tF,tG,tH,tI,tJ,tK,tL,tM,tN,tO,tP,tQ,tR,tS],h⟩ =
  bm (vPick tv tA (V.lit (Value.bool false))) h fun v45 h46 =>
  gd v45 (
  bm (vFieldAddr s.P 30 t7 0) h46 fun v47 h48 =>
  bm (vLoad s.P 3 v47 h48) h48 fun v49 h50 =>
  bm (vBin s.P .eql 3 v49 t3) h50 fun v51 h52 =>
  opsP (xX s 99 wl k false) xg99_0 31 m0 ac (runK (xX s 99 wl k false) (bodyK s.P Tryz.f99) xk99_0) ⟨[t0,t1,t2,t3,t4,t5,t6,t7,t8,t9,ta,tb,tc,td,te,tf,tg,th,ti,tj,tk,tl,tm,tn,tp,tq,tr,ts,tt,tu,tv,tw,tx,ty,tz,tA,v45,(V.lit (Value.bool true)),v47,v49,t3,v51,tH,tI,tJ,tK,tL,tM,tN,tO,tP,tQ,tR,tS],h52⟩) (
  opsP (xX s 99 wl k false) xg99_0 31 m0 ac (runK (xX s 99 wl k false) (bodyK s.P Tryz.f99) xk99_0) ⟨[t0,t1,t2,t3,t4,t5,t6,t7,t8,t9,ta,tb,tc,td,te,tf,tg,th,ti,tj,tk,tl,tm,tn,tp,tq,tr,ts,tt,tu,tv,tw,tx,ty,tz,tA,v45,(V.lit (Value.bool false)),uu,uu,uu,uu,tH,tI,tJ,tK,tL,tM,tN,tO,tP,tQ,tR,tS],h46⟩) (
  opsP (xX s 99 wl k false) xg99_0 28 m0 ac (runK (xX s 99 wl k false) (bodyK s.P Tryz.f99) xk99_0) ⟨[t0,t1,t2,t3,t4,t5,t6,t7,t8,t9,ta,tb,tc,td,te,tf,tg,th,ti,tj,tk,tl,tm,tn,tp,tq,tr,ts,tt,tu,tv,tw,tx,ty,tz,tA,v45,v45,uu,tE,tF,tG,tH,tI,tJ,tK,tL,tM,tN,tO,tP,tQ,tR,tS],h46⟩) :=
  (pM fun v45 h46 =>
  (pI v45 h46
  (go_gdT0 rfl rfl rfl (by kernel_rfl)
  (st_bm (by kernel_rfl) fun v47 h48 =>
  (rN (st_bm (by kernel_rfl) fun v49 h50 =>
  (rN (st_id (v := t3) (H := h50) (by kernel_rfl)
  (rN (st_bm (by kernel_rfl) fun v51 h52 =>
  (by kernel_rfl))))))))
  (sK
  (sK
  (sK
  (by kernel_rfl))))
  (by kernel_rfl))))
theorem xm99_4 (h : Hp) : opsP (xX s 99 wl k false) xg99_0 31 m0 ac (runK (xX s 99 wl k false) (bodyK s.P Tryz.f99) xk99_0) ⟨[t0,t1,t2,t3,t4,t5,t6,t7,t8,t9,ta,tb,tc,td,te,tf,tg,th,ti,tj,tk,tl,tm,tn,tp,tq,tr,ts,tt,tu,tv,tw,tx,ty,tz,tA,tB,tC,tD,tE,tF,tG,tH,tI,tJ,tK,tL,tM,tN,tO,tP,tQ,tR,tS],h⟩ =
  bm (vPick tC tG (V.lit (Value.bool false))) h fun v53 h54 =>
  gd v53 (
  bm (vFieldAddr s.P 30 t7 1) h54 fun v55 h56 =>
  bm (vLoad s.P 3 v55 h56) h56 fun v57 h58 =>
  bm (vBin s.P .geq 3 v57 (V.lit (Value.int .i64 0))) h58 fun v59 h60 =>
  opsP (xX s 99 wl k false) xg99_0 36 m0 ac (runK (xX s 99 wl k false) (bodyK s.P Tryz.f99) xk99_0) ⟨[t0,t1,t2,t3,t4,t5,t6,t7,t8,t9,ta,tb,tc,td,te,tf,tg,th,ti,tj,tk,tl,tm,tn,tp,tq,tr,ts,tt,tu,tv,tw,tx,ty,tz,tA,tB,tC,tD,tE,tF,tG,v53,(V.lit (Value.bool true)),v55,v57,v59,tM,tN,tO,tP,tQ,tR,tS],h60⟩) (
  opsP (xX s 99 wl k false) xg99_0 36 m0 ac (runK (xX s 99 wl k false) (bodyK s.P Tryz.f99) xk99_0) ⟨[t0,t1,t2,t3,t4,t5,t6,t7,t8,t9,ta,tb,tc,td,te,tf,tg,th,ti,tj,tk,tl,tm,tn,tp,tq,tr,ts,tt,tu,tv,tw,tx,ty,tz,tA,tB,tC,tD,tE,tF,tG,v53,(V.lit (Value.bool false)),uu,uu,uu,tM,tN,tO,tP,tQ,tR,tS],h54⟩) (
  opsP (xX s 99 wl k false) xg99_0 34 m0 ac (runK (xX s 99 wl k false) (bodyK s.P Tryz.f99) xk99_0) ⟨[t0,t1,t2,t3,t4,t5,t6,t7,t8,t9,ta,tb,tc,td,te,tf,tg,th,ti,tj,tk,tl,tm,tn,tp,tq,tr,ts,tt,tu,tv,tw,tx,ty,tz,tA,tB,tC,tD,tE,tF,tG,v53,v53,uu,tK,tL,tM,tN,tO,tP,tQ,tR,tS],h54⟩) :=
  (pM fun v53 h54 =>
  (pI v53 h54
  (go_gdT0 rfl rfl rfl (by kernel_rfl)
  (st_bm (by kernel_rfl) fun v55 h56 =>
  (rN (st_bm (by kernel_rfl) fun v57 h58 =>
  (rN (st_bm (by kernel_rfl) fun v59 h60 =>
  (by kernel_rfl))))))
  (sK
  (sK
  (by kernel_rfl)))
  (by kernel_rfl))))
theorem xm99_5 (h : Hp) : opsP (xX s 99 wl k false) xg99_0 36 m0 ac (runK (xX s 99 wl k false) (bodyK s.P Tryz.f99) xk99_0) ⟨[t0,t1,t2,t3,t4,t5,t6,t7,t8,t9,ta,tb,tc,td,te,tf,tg,th,ti,tj,tk,tl,tm,tn,tp,tq,tr,ts,tt,tu,tv,tw,tx,ty,tz,tA,tB,tC,tD,tE,tF,tG,tH,tI,tJ,tK,tL,tM,tN,tO,tP,tQ,tR,tS],h⟩ =
  bm (vPick tI tL (V.lit (Value.bool false))) h fun v61 h62 =>
  gd v61 (
  bm (vFieldAddr s.P 30 t7 1) h62 fun v63 h64 =>
  bm (vLoad s.P 3 v63 h64) h64 fun v65 h66 =>
  bm (vBin s.P .lss 3 v65 t4) h66 fun v67 h68 =>
  opsP (xX s 99 wl k false) xg99_0 42 m0 ac (runK (xX s 99 wl k false) (bodyK s.P Tryz.f99) xk99_0) ⟨[t0,t1,t2,t3,t4,t5,t6,t7,t8,t9,ta,tb,tc,td,te,tf,tg,th,ti,tj,tk,tl,tm,tn,tp,tq,tr,ts,tt,tu,tv,tw,tx,ty,tz,tA,tB,tC,tD,tE,tF,tG,tH,tI,tJ,tK,tL,v61,(V.lit (Value.bool true)),v63,v65,t4,v67,tS],h68⟩) (
  opsP (xX s 99 wl k false) xg99_0 42 m0 ac (runK (xX s 99 wl k false) (bodyK s.P Tryz.f99) xk99_0) ⟨[t0,t1,t2,t3,t4,t5,t6,t7,t8,t9,ta,tb,tc,td,te,tf,tg,th,ti,tj,tk,tl,tm,tn,tp,tq,tr,ts,tt,tu,tv,tw,tx,ty,tz,tA,tB,tC,tD,tE,tF,tG,tH,tI,tJ,tK,tL,v61,(V.lit (Value.bool false)),uu,uu,uu,uu,tS],h62⟩) (
  opsP (xX s 99 wl k false) xg99_0 39 m0 ac (runK (xX s 99 wl k false) (bodyK s.P Tryz.f99) xk99_0) ⟨[t0,t1,t2,t3,t4,t5,t6,t7,t8,t9,ta,tb,tc,td,te,tf,tg,th,ti,tj,tk,tl,tm,tn,tp,tq,tr,ts,tt,tu,tv,tw,tx,ty,tz,tA,tB,tC,tD,tE,tF,tG,tH,tI,tJ,tK,tL,v61,v61,uu,tP,tQ,tR,tS],h62⟩) :=
  (pM fun v61 h62 =>
  (pI v61 h62
  (go_gdT0 rfl rfl rfl (by kernel_rfl)
  (st_bm (by kernel_rfl) fun v63 h64 =>
  (rN (st_bm (by kernel_rfl) fun v65 h66 =>
  (rN (st_id (v := t4) (H := h66) (by kernel_rfl)
  (rN (st_bm (by kernel_rfl) fun v67 h68 =>
  (by kernel_rfl))))))))
  (sK
  (sK
  (sK
  (by kernel_rfl))))
  (by kernel_rfl))))
theorem xm99_6 (h : Hp) : opsP (xX s 99 wl k false) xg99_0 42 m0 ac (runK (xX s 99 wl k false) (bodyK s.P Tryz.f99) xk99_0) ⟨[t0,t1,t2,t3,t4,t5,t6,t7,t8,t9,ta,tb,tc,td,te,tf,tg,th,ti,tj,tk,tl,tm,tn,tp,tq,tr,ts,tt,tu,tv,tw,tx,ty,tz,tA,tB,tC,tD,tE,tF,tG,tH,tI,tJ,tK,tL,tM,tN,tO,tP,tQ,tR,tS],h⟩ =
  bm (vPick tN tR (V.lit (Value.bool false))) h fun v69 h70 =>
  some (v69,h70) :=
  (pM fun v69 h70 =>
  (pI v69 h70
  (eN
  (go_ret (by kernel_rfl)))))
theorem xk99_0_ret (cx : Cx) (K : Out → St → Option (V × Hp)) (s : St) : runK cx K xk99_0 .ret s = K .ret s := by kernel_rfl
-- names: xb99,xm99_0,xm99_1,xm99_2,xm99_3,xm99_4,xm99_5,xm99_6,xk99_0_ret
noncomputable def xg84_0 : Code := codeAt (bodyOf Tryz.f84) [1,0]
noncomputable def xk84_0 : List Fr := [.seq (codeAt (bodyOf Tryz.f84) [1,1,1,1])]
noncomputable def xg84_1 : Code := codeAt (bodyOf Tryz.f84) [1,1,1,1,0]
theorem xo84_1 : orderIx (opsOf xg84_0) = [0,1,2,3,4,5,6] := by kernel_rfl
theorem xo84_1a : (rgOf (opsOf xg84_0)).any = false := by kernel_rfl
theorem xo84_1r : regOk (opsOf xg84_0) = true := by kernel_rfl
theorem xo84_5 : orderIx (opsOf xg84_1) = [0,1,2,3,4,5,6,7,8,9] := by kernel_rfl
theorem xo84_5a : (rgOf (opsOf xg84_1)).any = false := by kernel_rfl
theorem xo84_5r : regOk (opsOf xg84_1) = true := by kernel_rfl
theorem xb84 (h : Hp) : bodyV (xX s 84 wl k false) Tryz.f84 [t0,t1,t2] h =
  bp (opBox t0 h) fun v1 h2 =>
  bp (opBox t2 h2) fun v3 h4 =>
  bp (some (.own h4.length 0 0,h4 ++ [.rows 0 [] 0 true])) fun v5 h6 =>
  bp (opAlloc s.P 30 h6) fun v7 h8 =>
  stO h8.length v3 (
  bm (vLoad s.P 30 v3 h8) h8 fun v9 h10 =>
  stO h8.length v1 (
  bm (vLoad s.P 23 v1 h10) h10 fun v11 h12 =>
  bp (callV (xX s 84 wl k false) true true (.fn (.func 20) [] []) [t1] h12) fun v13 h14 =>
  bm (vBuild s.P 125 [(0,v9),(1,v11),(2,v13)]) h14 fun v15 h16 =>
  bp (opBox v15 h16) fun v17 h18 =>
  bm (vBuild s.P 126 [(0,(.fn (.func 107) [v17] [])),(1,(.fn (.func 108) [v17] [])),(2,(.fn (.func 109) [v17] [])),(3,(.fn (.func 110) [v17] []))]) h18 fun v19 h20 =>
  bp (opAlloc s.P 126 h20) fun v21 h22 =>
  bs (vStore s.P wl 126 v21 v19 h22) fun h23 =>
  bm (vLoad s.P 23 v1 h23) h23 fun v24 h25 =>
  bm (vLoad s.P 30 v3 h25) h25 fun v26 h27 =>
  bp (callV (xX s 84 wl k false) false true (.fn (.func 99) [] []) [v24,t1,v26,(V.lit (Value.int .i64 0)),(V.lit (Value.int .i64 4))] h27) fun v28 h29 =>
  cnd v28 (
  bm (vFieldAddr s.P 30 v3 1) h29 fun v30 h31 =>
  bm (vLoad s.P 3 v30 h31) h31 fun v32 h33 =>
  bm (vIndexAddr s.P 126 v21 v32 h33) h33 fun v34 h35 =>
  bm (vLoad s.P 1 v34 h35) h35 fun v36 h37 =>
  bp (callV (xX s 84 wl k false) false true v36 [] h37) fun v38 h39 =>
  runK (xX s 84 wl k false) (bodyK s.P Tryz.f84) xk84_0 .norm ⟨[t0,t1,t2,v1,uu,v3,v5,v7,v17,v21,v9,v11,t1,v13,v15,v17,v17,(.fn (.func 107) [v17] []),v17,(.fn (.func 108) [v17] []),v17,(.fn (.func 109) [v17] []),v17,(.fn (.func 110) [v17] []),v19,v24,t1,v26,v28,v30,v32,v34,v36,v38,uu,uu,uu,uu,uu,uu,uu,uu],h39⟩) (
  runK (xX s 84 wl k false) (bodyK s.P Tryz.f84) xk84_0 .norm ⟨[t0,t1,t2,v1,uu,v3,v5,v7,v17,v21,v9,v11,t1,v13,v15,v17,v17,(.fn (.func 107) [v17] []),v17,(.fn (.func 108) [v17] []),v17,(.fn (.func 109) [v17] []),v17,(.fn (.func 110) [v17] []),v19,v24,t1,v26,v28,uu,uu,uu,uu,uu,uu,uu,uu,uu,uu,uu,uu,uu],h29⟩))) :=
  bodyV_run rfl (go_seq (go_reg0
  (pP fun v1 h2 =>
  (pP fun v3 h4 =>
  (pP fun v5 h6 =>
  (pP fun v7 h8 =>
  (eN
  (go_seq (go_reg1 xo84_1r
  (go_op1 xo84_1 xo84_1a rfl rfl rfl (st_yes (by kernel_rfl) (st_bm (by kernel_rfl) fun v9 h10 =>
  (go_op1 xo84_1 xo84_1a rfl rfl rfl (st_yes (by kernel_rfl) (st_bm (by kernel_rfl) fun v11 h12 =>
  (qI xo84_1 xo84_1a t1 h12
  (qP xo84_1 xo84_1a fun v13 h14 =>
  (qM xo84_1 xo84_1a fun v15 h16 =>
  (qP xo84_1 xo84_1a fun v17 h18 =>
  (qI xo84_1 xo84_1a v17 h18
  (go_end1 xo84_1 (by kernel_rfl) xo84_1a
  (go_seq (go_reg0
  (pI v17 h18
  (go_op0 rfl rfl (st_id (v := (.fn (.func 107) [v17] [])) (H := h18) (by kernel_rfl)
  (pI v17 h18
  (go_op0 rfl rfl (st_id (v := (.fn (.func 108) [v17] [])) (H := h18) (by kernel_rfl)
  (pI v17 h18
  (go_op0 rfl rfl (st_id (v := (.fn (.func 109) [v17] [])) (H := h18) (by kernel_rfl)
  (pI v17 h18
  (go_op0 rfl rfl (st_id (v := (.fn (.func 110) [v17] [])) (H := h18) (by kernel_rfl)
  (pM fun v19 h20 =>
  (pP fun v21 h22 =>
  (pS fun h23 =>
  (eN
  (go_seq (go_seq (go_reg0
  (pM fun v24 h25 =>
  (pI t1 h25
  (pM fun v26 h27 =>
  (pP fun v28 h29 =>
  (eN
  (go_cond (by kernel_rfl)
  (go_reg0
  (pM fun v30 h31 =>
  (pM fun v32 h33 =>
  (pM fun v34 h35 =>
  (pM fun v36 h37 =>
  (pP fun v38 h39 =>
  (eN
  (by kernel_rfl))))))))
  (go_skip (by kernel_rfl))))))))))))))))))))))))))))))))))))))))))))))))))
theorem xe84 (k wl : Nat) (h : Hp) : evF Tryz.prog xM (k + 1) wl 84 [t0,t1,t2] h = bodyV (xX (xS k) 84 wl k false) Tryz.f84 [t0,t1,t2] h := by kernel_rfl
theorem xj84_0 (h : Hp) : runK (xX s 84 wl k false) (bodyK s.P Tryz.f84) xk84_0 .norm ⟨[t0,t1,t2,t3,t4,t5,t6,t7,t8,t9,ta,tb,tc,td,te,tf,tg,th,ti,tj,tk,tl,tm,tn,tp,tq,tr,ts,tt,tu,tv,tw,tx,ty,tz,tA,tB,tC,tD,tE,tF,tG],h⟩ =
  bm (vNil t8 h) h fun v40 h41 =>
  bm (vFieldAddr s.P 125 v40 2) h41 fun v42 h43 =>
  bm (vLoad s.P 26 v42 h43) h43 fun v44 h45 =>
  bm (vNil t8 h45) h45 fun v46 h47 =>
  bm (vFieldAddr s.P 125 v46 0) h47 fun v48 h49 =>
  bm (vLoad s.P 30 v48 h49) h49 fun v50 h51 =>
  bs (vStore s.P wl 30 t7 v50 h51) fun h52 =>
  resO [some v44,vLoad s.P 30 t7 h52] h52 :=
  (go_seq (go_reg1 xo84_5r
  (qI xo84_5 xo84_5a t8 h
  (qM xo84_5 xo84_5a fun v40 h41 =>
  (qM xo84_5 xo84_5a fun v42 h43 =>
  (qM xo84_5 xo84_5a fun v44 h45 =>
  (qI xo84_5 xo84_5a t8 h45
  (qM xo84_5 xo84_5a fun v46 h47 =>
  (qM xo84_5 xo84_5a fun v48 h49 =>
  (qM xo84_5 xo84_5a fun v50 h51 =>
  (qI xo84_5 xo84_5a v44 h51
  (qS xo84_5 xo84_5a fun h52 =>
  (go_end1 xo84_5 (by kernel_rfl) xo84_5a
  (go_ret (by kernel_rfl)))))))))))))))
theorem xk84_0_ret (cx : Cx) (K : Out → St → Option (V × Hp)) (s : St) : runK cx K xk84_0 .ret s = K .ret s := by kernel_rfl
-- names: xb84,xj84_0,xk84_0_ret
noncomputable def xg107_0 : Code := codeAt (bodyOf Tryz.f107) [0]
theorem xo107_0 : orderIx (opsOf xg107_0) = [0,1,2,3,4,5,6,7,8,9,10,11,12,13,14,15,16,17,18,19] := by kernel_rfl
theorem xo107_0a : (rgOf (opsOf xg107_0)).any = false := by kernel_rfl
theorem xo107_0r : regOk (opsOf xg107_0) = true := by kernel_rfl
theorem xb107 (h : Hp) : bodyV (xX s 107 wl k false) Tryz.f107 [t0] h =
  stO h.length t0 (
  bm (vNil t0 h) h fun v1 h2 =>
  bm (vFieldAddr s.P 125 v1 2) h2 fun v3 h4 =>
  stO h.length v3 (
  bm (vLoad s.P 26 v3 h4) h4 fun v5 h6 =>
  bm (vNil t0 h6) h6 fun v7 h8 =>
  bm (vFieldAddr s.P 125 v7 1) h8 fun v9 h10 =>
  bm (vLoad s.P 23 v9 h10) h10 fun v11 h12 =>
  bm (vNil t0 h12) h12 fun v13 h14 =>
  bm (vFieldAddr s.P 125 v13 0) h14 fun v15 h16 =>
  bm (vFieldAddr s.P 30 v15 2) h16 fun v17 h18 =>
  bm (vLoad s.P 3 v17 h18) h18 fun v19 h20 =>
  bp (callV (xX s 107 wl k false) true true (.fn (.func 54) [] []) [v11,v19] h20) fun v21 h22 =>
  bp (callV (xX s 107 wl k false) false true (.fn (.func 13) [] []) [v5,v21] h22) fun v23 h24 =>
  bm (vNil t0 h24) h24 fun v25 h26 =>
  bm (vFieldAddr s.P 125 v25 0) h26 fun v27 h28 =>
  bm (vFieldAddr s.P 30 v27 4) h28 fun v29 h30 =>
  bs (vStore s.P wl 28 v29 v23 h30) fun h31 =>
  bm (vNil t0 h31) h31 fun v32 h33 =>
  bm (vFieldAddr s.P 125 v32 0) h33 fun v34 h35 =>
  bm (vFieldAddr s.P 30 v34 1) h35 fun v36 h37 =>
  bs (vStore s.P wl 3 v36 (V.lit (Value.int .i64 1)) h37) fun h38 =>
  some (.tup [],h38))) :=
  bodyV_run rfl (go_seq (go_reg1 xo107_0r
  (qI xo107_0 xo107_0a t0 h
  (qI xo107_0 xo107_0a t0 h
  (go_op1 xo107_0 xo107_0a rfl rfl rfl (st_yes (by kernel_rfl) (st_bm (by kernel_rfl) fun v1 h2 =>
  (qM xo107_0 xo107_0a fun v3 h4 =>
  (go_op1 xo107_0 xo107_0a rfl rfl rfl (st_yes (by kernel_rfl) (st_bm (by kernel_rfl) fun v5 h6 =>
  (qI xo107_0 xo107_0a t0 h6
  (qM xo107_0 xo107_0a fun v7 h8 =>
  (qM xo107_0 xo107_0a fun v9 h10 =>
  (qM xo107_0 xo107_0a fun v11 h12 =>
  (qI xo107_0 xo107_0a t0 h12
  (qM xo107_0 xo107_0a fun v13 h14 =>
  (qM xo107_0 xo107_0a fun v15 h16 =>
  (qM xo107_0 xo107_0a fun v17 h18 =>
  (qM xo107_0 xo107_0a fun v19 h20 =>
  (qP xo107_0 xo107_0a fun v21 h22 =>
  (qP xo107_0 xo107_0a fun v23 h24 =>
  (qM xo107_0 xo107_0a fun v25 h26 =>
  (qM xo107_0 xo107_0a fun v27 h28 =>
  (qM xo107_0 xo107_0a fun v29 h30 =>
  (qS xo107_0 xo107_0a fun h31 =>
  (go_end1 xo107_0 (by kernel_rfl) xo107_0a
  (go_reg0
  (pI t0 h31
  (pM fun v32 h33 =>
  (pM fun v34 h35 =>
  (pM fun v36 h37 =>
  (pS fun h38 =>
  (eN
  (by kernel_rfl)))))))))))))))))))))))))))))))))))
theorem xe107 (k wl : Nat) (h : Hp) : evF Tryz.prog xM (k + 1) wl 107 [t0] h = bodyV (xX (xS k) 107 wl k false) Tryz.f107 [t0] h := by kernel_rfl
-- names: xb107,
noncomputable def xg108_0 : Code := codeAt (bodyOf Tryz.f108) [0]
noncomputable def xg108_1 : Code := codeAt (bodyOf Tryz.f108) [1,1,0]
noncomputable def xg108_2 : Code := codeAt (bodyOf Tryz.f108) [1,1,1,0]
theorem xo108_0 : orderIx (opsOf xg108_0) = [0,1,2,3,4,5,6,7,8,9,10,11,12,13,14,15,16,17,18,19] := by kernel_rfl
theorem xo108_0a : (rgOf (opsOf xg108_0)).any = false := by kernel_rfl
theorem xo108_0r : regOk (opsOf xg108_0) = true := by kernel_rfl
theorem xo108_2 : orderIx (opsOf xg108_1) = [0,1,2,3,4,5,6,7,8,9,10,11,12,13,14,15,16,17] := by kernel_rfl
theorem xo108_2a : (rgOf (opsOf xg108_1)).any = false := by kernel_rfl
theorem xo108_2r : regOk (opsOf xg108_1) = true := by kernel_rfl
theorem xo108_3 : orderIx (opsOf xg108_2) = [0,1,2,3,4,5,6,7,8,9,10,11,12,13] := by kernel_rfl
theorem xo108_3a : (rgOf (opsOf xg108_2)).any = false := by kernel_rfl
theorem xo108_3r : regOk (opsOf xg108_2) = true := by kernel_rfl
theorem xb108 (h : Hp) : bodyV (xX s 108 wl k false) Tryz.f108 [t0] h =
  stO h.length t0 (
  bm (vNil t0 h) h fun v1 h2 =>
  bm (vFieldAddr s.P 125 v1 2) h2 fun v3 h4 =>
  stO h.length v3 (
  bm (vLoad s.P 26 v3 h4) h4 fun v5 h6 =>
  bm (vNil t0 h6) h6 fun v7 h8 =>
  bm (vFieldAddr s.P 125 v7 1) h8 fun v9 h10 =>
  bm (vLoad s.P 23 v9 h10) h10 fun v11 h12 =>
  bm (vNil t0 h12) h12 fun v13 h14 =>
  bm (vFieldAddr s.P 125 v13 0) h14 fun v15 h16 =>
  bm (vFieldAddr s.P 30 v15 2) h16 fun v17 h18 =>
  bm (vLoad s.P 3 v17 h18) h18 fun v19 h20 =>
  bp (callV (xX s 108 wl k false) true true (.fn (.func 52) [] []) [v11,v19] h20) fun v21 h22 =>
  bp (callV (xX s 108 wl k false) false true (.fn (.func 13) [] []) [v5,v21] h22) fun v23 h24 =>
  bm (vNil t0 h24) h24 fun v25 h26 =>
  bm (vFieldAddr s.P 125 v25 0) h26 fun v27 h28 =>
  bm (vFieldAddr s.P 30 v27 5) h28 fun v29 h30 =>
  bs (vStore s.P wl 28 v29 v23 h30) fun h31 =>
  bm (vNil t0 h31) h31 fun v32 h33 =>
  bm (vFieldAddr s.P 125 v32 0) h33 fun v34 h35 =>
  bm (vFieldAddr s.P 30 v34 1) h35 fun v36 h37 =>
  bs (vStore s.P wl 3 v36 (V.lit (Value.int .i64 2)) h37) fun h38 =>
  bm (vNil t0 h38) h38 fun v39 h40 =>
  bm (vFieldAddr s.P 125 v39 0) h40 fun v41 h42 =>
  bm (vFieldAddr s.P 30 v41 4) h42 fun v43 h44 =>
  bm (vLoad s.P 28 v43 h44) h44 fun v45 h46 =>
  bm (vNil t0 h46) h46 fun v47 h48 =>
  bm (vFieldAddr s.P 125 v47 0) h48 fun v49 h50 =>
  bm (vFieldAddr s.P 30 v49 5) h50 fun v51 h52 =>
  bm (vLoad s.P 28 v51 h52) h52 fun v53 h54 =>
  bm (vBin s.P .sub 28 v45 v53) h54 fun v55 h56 =>
  bm (vNil t0 h56) h56 fun v57 h58 =>
  bm (vFieldAddr s.P 125 v57 1) h58 fun v59 h60 =>
  bm (vFieldAddr s.P 23 v59 1) h60 fun v61 h62 =>
  bm (vLoad s.P 3 v61 h62) h62 fun v63 h64 =>
  bm (vConv s.P 3 28 v63) h64 fun v65 h66 =>
  bm (vBin s.P .geq 28 v55 v65) h66 fun v67 h68 =>
  cnd v67 (
  bm (vNil t0 h68) h68 fun v69 h70 =>
  bm (vFieldAddr s.P 125 v69 0) h70 fun v71 h72 =>
  bm (vLoad s.P 30 v71 h72) h72 fun v73 h74 =>
  bm (vNil t0 h74) h74 fun v75 h76 =>
  bm (vFieldAddr s.P 125 v75 0) h76 fun v77 h78 =>
  bm (vFieldAddr s.P 30 v77 3) h78 fun v79 h80 =>
  bm (vLoad s.P 28 v79 h80) h80 fun v81 h82 =>
  bp (callV (xX s 108 wl k false) false true (.fn (.func 104) [] []) [v73,(V.lit (Value.int .i64 2)),v81] h82) fun v83 h84 =>
  bm (vNil t0 h84) h84 fun v85 h86 =>
  bm (vFieldAddr s.P 125 v85 0) h86 fun v87 h88 =>
  bs (vStore s.P wl 30 v87 v83 h88) fun h89 =>
  some (.tup [],h89)) (
  some (.tup [],h68)))) :=
  bodyV_run rfl (go_seq (go_reg1 xo108_0r
  (qI xo108_0 xo108_0a t0 h
  (qI xo108_0 xo108_0a t0 h
  (go_op1 xo108_0 xo108_0a rfl rfl rfl (st_yes (by kernel_rfl) (st_bm (by kernel_rfl) fun v1 h2 =>
  (qM xo108_0 xo108_0a fun v3 h4 =>
  (go_op1 xo108_0 xo108_0a rfl rfl rfl (st_yes (by kernel_rfl) (st_bm (by kernel_rfl) fun v5 h6 =>
  (qI xo108_0 xo108_0a t0 h6
  (qM xo108_0 xo108_0a fun v7 h8 =>
  (qM xo108_0 xo108_0a fun v9 h10 =>
  (qM xo108_0 xo108_0a fun v11 h12 =>
  (qI xo108_0 xo108_0a t0 h12
  (qM xo108_0 xo108_0a fun v13 h14 =>
  (qM xo108_0 xo108_0a fun v15 h16 =>
  (qM xo108_0 xo108_0a fun v17 h18 =>
  (qM xo108_0 xo108_0a fun v19 h20 =>
  (qP xo108_0 xo108_0a fun v21 h22 =>
  (qP xo108_0 xo108_0a fun v23 h24 =>
  (qM xo108_0 xo108_0a fun v25 h26 =>
  (qM xo108_0 xo108_0a fun v27 h28 =>
  (qM xo108_0 xo108_0a fun v29 h30 =>
  (qS xo108_0 xo108_0a fun h31 =>
  (go_end1 xo108_0 (by kernel_rfl) xo108_0a
  (go_seq (go_reg0
  (pI t0 h31
  (pM fun v32 h33 =>
  (pM fun v34 h35 =>
  (pM fun v36 h37 =>
  (pS fun h38 =>
  (eN
  (go_seq (go_reg1 xo108_2r
  (qI xo108_2 xo108_2a t0 h38
  (qM xo108_2 xo108_2a fun v39 h40 =>
  (qM xo108_2 xo108_2a fun v41 h42 =>
  (qM xo108_2 xo108_2a fun v43 h44 =>
  (qM xo108_2 xo108_2a fun v45 h46 =>
  (qI xo108_2 xo108_2a t0 h46
  (qM xo108_2 xo108_2a fun v47 h48 =>
  (qM xo108_2 xo108_2a fun v49 h50 =>
  (qM xo108_2 xo108_2a fun v51 h52 =>
  (qM xo108_2 xo108_2a fun v53 h54 =>
  (qM xo108_2 xo108_2a fun v55 h56 =>
  (qI xo108_2 xo108_2a t0 h56
  (qM xo108_2 xo108_2a fun v57 h58 =>
  (qM xo108_2 xo108_2a fun v59 h60 =>
  (qM xo108_2 xo108_2a fun v61 h62 =>
  (qM xo108_2 xo108_2a fun v63 h64 =>
  (qM xo108_2 xo108_2a fun v65 h66 =>
  (qM xo108_2 xo108_2a fun v67 h68 =>
  (go_end1 xo108_2 (by kernel_rfl) xo108_2a
  (go_cond (by kernel_rfl)
  (go_reg1 xo108_3r
  (qI xo108_3 xo108_3a t0 h68
  (qI xo108_3 xo108_3a t0 h68
  (qM xo108_3 xo108_3a fun v69 h70 =>
  (qM xo108_3 xo108_3a fun v71 h72 =>
  (qM xo108_3 xo108_3a fun v73 h74 =>
  (qI xo108_3 xo108_3a t0 h74
  (qM xo108_3 xo108_3a fun v75 h76 =>
  (qM xo108_3 xo108_3a fun v77 h78 =>
  (qM xo108_3 xo108_3a fun v79 h80 =>
  (qM xo108_3 xo108_3a fun v81 h82 =>
  (qP xo108_3 xo108_3a fun v83 h84 =>
  (qM xo108_3 xo108_3a fun v85 h86 =>
  (qM xo108_3 xo108_3a fun v87 h88 =>
  (qS xo108_3 xo108_3a fun h89 =>
  (go_end1 xo108_3 (by kernel_rfl) xo108_3a
  (by kernel_rfl)))))))))))))))))
  (go_skip (by kernel_rfl)))))))))))))))))))))))))))))))))))))))))))))))))))))))))))
theorem xe108 (k wl : Nat) (h : Hp) : evF Tryz.prog xM (k + 1) wl 108 [t0] h = bodyV (xX (xS k) 108 wl k false) Tryz.f108 [t0] h := by kernel_rfl
-- names: xb108,
noncomputable def xg109_0 : Code := codeAt (bodyOf Tryz.f109) [0]
theorem xo109_0 : orderIx (opsOf xg109_0) = [0,1,2,3,4,5,6,7,8,9,10,11,12,13,14,15,16,17,18,19,20,21,22,23,24,25,26,27,28] := by kernel_rfl
theorem xo109_0a : (rgOf (opsOf xg109_0)).any = false := by kernel_rfl
theorem xo109_0r : regOk (opsOf xg109_0) = true := by kernel_rfl
theorem xb109 (h : Hp) : bodyV (xX s 109 wl k false) Tryz.f109 [t0] h =
  stO h.length t0 (
  bm (vNil t0 h) h fun v1 h2 =>
  bm (vFieldAddr s.P 125 v1 2) h2 fun v3 h4 =>
  stO h.length v3 (
  bm (vLoad s.P 26 v3 h4) h4 fun v5 h6 =>
  bm (vNil t0 h6) h6 fun v7 h8 =>
  bm (vFieldAddr s.P 125 v7 1) h8 fun v9 h10 =>
  bm (vLoad s.P 23 v9 h10) h10 fun v11 h12 =>
  bm (vNil t0 h12) h12 fun v13 h14 =>
  bm (vFieldAddr s.P 125 v13 0) h14 fun v15 h16 =>
  bm (vFieldAddr s.P 30 v15 2) h16 fun v17 h18 =>
  bm (vLoad s.P 3 v17 h18) h18 fun v19 h20 =>
  bm (vNil t0 h20) h20 fun v21 h22 =>
  bm (vFieldAddr s.P 125 v21 0) h22 fun v23 h24 =>
  bm (vFieldAddr s.P 30 v23 4) h24 fun v25 h26 =>
  bm (vLoad s.P 28 v25 h26) h26 fun v27 h28 =>
  bp (callV (xX s 109 wl k false) true true (.fn (.func 113) [] []) [v11,v19,v27] h28) fun v29 h30 =>
  stO h.length t0 (
  bm (vNil t0 h30) h30 fun v31 h32 =>
  bm (vFieldAddr s.P 125 v31 0) h32 fun v33 h34 =>
  bm (vFieldAddr s.P 30 v33 3) h34 fun v35 h36 =>
  stO h.length v35 (
  bm (vLoad s.P 28 v35 h36) h36 fun v37 h38 =>
  bp (callV (xX s 109 wl k false) false true (.fn (.func 112) [] []) [v5,v29,v37] h38) fun v39 h40 =>
  bm (vNil t0 h40) h40 fun v41 h42 =>
  bm (vFieldAddr s.P 125 v41 2) h42 fun v43 h44 =>
  bs (vStore s.P wl 26 v43 v39 h44) fun h45 =>
  bm (vNil t0 h45) h45 fun v46 h47 =>
  bm (vFieldAddr s.P 125 v46 0) h47 fun v48 h49 =>
  bm (vFieldAddr s.P 30 v48 1) h49 fun v50 h51 =>
  bs (vStore s.P wl 3 v50 (V.lit (Value.int .i64 3)) h51) fun h52 =>
  some (.tup [],h52))))) :=
  bodyV_run rfl (go_seq (go_reg1 xo109_0r
  (qI xo109_0 xo109_0a t0 h
  (qI xo109_0 xo109_0a t0 h
  (go_op1 xo109_0 xo109_0a rfl rfl rfl (st_yes (by kernel_rfl) (st_bm (by kernel_rfl) fun v1 h2 =>
  (qM xo109_0 xo109_0a fun v3 h4 =>
  (go_op1 xo109_0 xo109_0a rfl rfl rfl (st_yes (by kernel_rfl) (st_bm (by kernel_rfl) fun v5 h6 =>
  (qI xo109_0 xo109_0a t0 h6
  (qM xo109_0 xo109_0a fun v7 h8 =>
  (qM xo109_0 xo109_0a fun v9 h10 =>
  (qM xo109_0 xo109_0a fun v11 h12 =>
  (qI xo109_0 xo109_0a t0 h12
  (qM xo109_0 xo109_0a fun v13 h14 =>
  (qM xo109_0 xo109_0a fun v15 h16 =>
  (qM xo109_0 xo109_0a fun v17 h18 =>
  (qM xo109_0 xo109_0a fun v19 h20 =>
  (qI xo109_0 xo109_0a t0 h20
  (qM xo109_0 xo109_0a fun v21 h22 =>
  (qM xo109_0 xo109_0a fun v23 h24 =>
  (qM xo109_0 xo109_0a fun v25 h26 =>
  (qM xo109_0 xo109_0a fun v27 h28 =>
  (qP xo109_0 xo109_0a fun v29 h30 =>
  (qI xo109_0 xo109_0a t0 h30
  (go_op1 xo109_0 xo109_0a rfl rfl rfl (st_yes (by kernel_rfl) (st_bm (by kernel_rfl) fun v31 h32 =>
  (qM xo109_0 xo109_0a fun v33 h34 =>
  (qM xo109_0 xo109_0a fun v35 h36 =>
  (go_op1 xo109_0 xo109_0a rfl rfl rfl (st_yes (by kernel_rfl) (st_bm (by kernel_rfl) fun v37 h38 =>
  (qP xo109_0 xo109_0a fun v39 h40 =>
  (qM xo109_0 xo109_0a fun v41 h42 =>
  (qM xo109_0 xo109_0a fun v43 h44 =>
  (qS xo109_0 xo109_0a fun h45 =>
  (go_end1 xo109_0 (by kernel_rfl) xo109_0a
  (go_reg0
  (pI t0 h45
  (pM fun v46 h47 =>
  (pM fun v48 h49 =>
  (pM fun v50 h51 =>
  (pS fun h52 =>
  (eN
  (by kernel_rfl))))))))))))))))))))))))))))))))))))))))))))))))
theorem xe109 (k wl : Nat) (h : Hp) : evF Tryz.prog xM (k + 1) wl 109 [t0] h = bodyV (xX (xS k) 109 wl k false) Tryz.f109 [t0] h := by kernel_rfl
-- names: xb109,
noncomputable def xg110_0 : Code := codeAt (bodyOf Tryz.f110) [0]
noncomputable def xg110_1 : Code := codeAt (bodyOf Tryz.f110) [1]
theorem xo110_0 : orderIx (opsOf xg110_0) = [0,1,2,3,4,5,6,7,8,9,10,11,12,13,14,15,16,17,18,19,20,21,22,23,24] := by kernel_rfl
theorem xo110_0a : (rgOf (opsOf xg110_0)).any = false := by kernel_rfl
theorem xo110_0r : regOk (opsOf xg110_0) = true := by kernel_rfl
theorem xo110_1 : orderIx (opsOf xg110_1) = [0,1,2,3,4,5,6,7,8,9,10,11,12,13] := by kernel_rfl
theorem xo110_1a : (rgOf (opsOf xg110_1)).any = false := by kernel_rfl
theorem xo110_1r : regOk (opsOf xg110_1) = true := by kernel_rfl
theorem xb110 (h : Hp) : bodyV (xX s 110 wl k false) Tryz.f110 [t0] h =
  stO h.length t0 (
  bm (vNil t0 h) h fun v1 h2 =>
  bm (vFieldAddr s.P 125 v1 2) h2 fun v3 h4 =>
  stO h.length v3 (
  bm (vLoad s.P 26 v3 h4) h4 fun v5 h6 =>
  bm (vNil t0 h6) h6 fun v7 h8 =>
  bm (vFieldAddr s.P 125 v7 1) h8 fun v9 h10 =>
  bm (vLoad s.P 23 v9 h10) h10 fun v11 h12 =>
  bm (vNil t0 h12) h12 fun v13 h14 =>
  bm (vFieldAddr s.P 125 v13 0) h14 fun v15 h16 =>
  bm (vFieldAddr s.P 30 v15 2) h16 fun v17 h18 =>
  bm (vLoad s.P 3 v17 h18) h18 fun v19 h20 =>
  bp (callV (xX s 110 wl k false) true true (.fn (.func 54) [] []) [v11,v19] h20) fun v21 h22 =>
  stO h.length t0 (
  bm (vNil t0 h22) h22 fun v23 h24 =>
  bm (vFieldAddr s.P 125 v23 0) h24 fun v25 h26 =>
  bm (vFieldAddr s.P 30 v25 4) h26 fun v27 h28 =>
  stO h.length v27 (
  bm (vLoad s.P 28 v27 h28) h28 fun v29 h30 =>
  bm (vBin s.P .add 28 v29 (V.lit (Value.int .u64 1))) h30 fun v31 h32 =>
  bp (callV (xX s 110 wl k false) false true (.fn (.func 112) [] []) [v5,v21,v31] h32) fun v33 h34 =>
  bm (vNil t0 h34) h34 fun v35 h36 =>
  bm (vFieldAddr s.P 125 v35 2) h36 fun v37 h38 =>
  bs (vStore s.P wl 26 v37 v33 h38) fun h39 =>
  bm (vNil t0 h39) h39 fun v40 h41 =>
  bm (vFieldAddr s.P 125 v40 0) h41 fun v42 h43 =>
  bm (vLoad s.P 30 v42 h43) h43 fun v44 h45 =>
  bm (vNil t0 h45) h45 fun v46 h47 =>
  bm (vFieldAddr s.P 125 v46 0) h47 fun v48 h49 =>
  bm (vFieldAddr s.P 30 v48 3) h49 fun v50 h51 =>
  bm (vLoad s.P 28 v50 h51) h51 fun v52 h53 =>
  bp (callV (xX s 110 wl k false) false true (.fn (.func 104) [] []) [v44,(V.lit (Value.int .i64 1)),v52] h53) fun v54 h55 =>
  bm (vNil t0 h55) h55 fun v56 h57 =>
  bm (vFieldAddr s.P 125 v56 0) h57 fun v58 h59 =>
  bs (vStore s.P wl 30 v58 v54 h59) fun h60 =>
  some (.tup [],h60))))) :=
  bodyV_run rfl (go_seq (go_reg1 xo110_0r
  (qI xo110_0 xo110_0a t0 h
  (qI xo110_0 xo110_0a t0 h
  (go_op1 xo110_0 xo110_0a rfl rfl rfl (st_yes (by kernel_rfl) (st_bm (by kernel_rfl) fun v1 h2 =>
  (qM xo110_0 xo110_0a fun v3 h4 =>
  (go_op1 xo110_0 xo110_0a rfl rfl rfl (st_yes (by kernel_rfl) (st_bm (by kernel_rfl) fun v5 h6 =>
  (qI xo110_0 xo110_0a t0 h6
  (qM xo110_0 xo110_0a fun v7 h8 =>
  (qM xo110_0 xo110_0a fun v9 h10 =>
  (qM xo110_0 xo110_0a fun v11 h12 =>
  (qI xo110_0 xo110_0a t0 h12
  (qM xo110_0 xo110_0a fun v13 h14 =>
  (qM xo110_0 xo110_0a fun v15 h16 =>
  (qM xo110_0 xo110_0a fun v17 h18 =>
  (qM xo110_0 xo110_0a fun v19 h20 =>
  (qP xo110_0 xo110_0a fun v21 h22 =>
  (qI xo110_0 xo110_0a t0 h22
  (go_op1 xo110_0 xo110_0a rfl rfl rfl (st_yes (by kernel_rfl) (st_bm (by kernel_rfl) fun v23 h24 =>
  (qM xo110_0 xo110_0a fun v25 h26 =>
  (qM xo110_0 xo110_0a fun v27 h28 =>
  (go_op1 xo110_0 xo110_0a rfl rfl rfl (st_yes (by kernel_rfl) (st_bm (by kernel_rfl) fun v29 h30 =>
  (qM xo110_0 xo110_0a fun v31 h32 =>
  (qP xo110_0 xo110_0a fun v33 h34 =>
  (qM xo110_0 xo110_0a fun v35 h36 =>
  (qM xo110_0 xo110_0a fun v37 h38 =>
  (qS xo110_0 xo110_0a fun h39 =>
  (go_end1 xo110_0 (by kernel_rfl) xo110_0a
  (go_reg1 xo110_1r
  (qI xo110_1 xo110_1a t0 h39
  (qI xo110_1 xo110_1a t0 h39
  (qM xo110_1 xo110_1a fun v40 h41 =>
  (qM xo110_1 xo110_1a fun v42 h43 =>
  (qM xo110_1 xo110_1a fun v44 h45 =>
  (qI xo110_1 xo110_1a t0 h45
  (qM xo110_1 xo110_1a fun v46 h47 =>
  (qM xo110_1 xo110_1a fun v48 h49 =>
  (qM xo110_1 xo110_1a fun v50 h51 =>
  (qM xo110_1 xo110_1a fun v52 h53 =>
  (qP xo110_1 xo110_1a fun v54 h55 =>
  (qM xo110_1 xo110_1a fun v56 h57 =>
  (qM xo110_1 xo110_1a fun v58 h59 =>
  (qS xo110_1 xo110_1a fun h60 =>
  (go_end1 xo110_1 (by kernel_rfl) xo110_1a
  (by kernel_rfl)))))))))))))))))))))))))))))))))))))))))))))))))))))
theorem xe110 (k wl : Nat) (h : Hp) : evF Tryz.prog xM (k + 1) wl 110 [t0] h = bodyV (xX (xS k) 110 wl k false) Tryz.f110 [t0] h := by kernel_rfl
-- names: xb110,
noncomputable def xg85_0 : Code := codeAt (bodyOf Tryz.f85) [1,0,1,0,1,0,0]
noncomputable def xg85_1 : Code := codeAt (bodyOf Tryz.f85) [1,0,1,1,0]
noncomputable def xg85_2 : Code := codeAt (bodyOf Tryz.f85) [1,0,1,1,1,1,1,1,1,1,1,0]
noncomputable def xg85_3 : Code := codeAt (bodyOf Tryz.f85) [1,0,1,1,1,1,1,0,1,0,1,1,1,1,1,1,1,0,0,0]
noncomputable def xg85_4 : Code := codeAt (bodyOf Tryz.f85) [1,0,1,1,1,1,1,0,1,0,1,1,1,1,1,1,1,0,0,1,1,0,0]
theorem xo85_3 : orderIx (opsOf xg85_0) = [0,1,2,3] := by kernel_rfl
theorem xo85_3a : (rgOf (opsOf xg85_0)).any = false := by kernel_rfl
theorem xo85_3r : regOk (opsOf xg85_0) = true := by kernel_rfl
theorem xo85_4 : orderIx (opsOf xg85_1) = [8,0,1,2,3,4,5,6,7,9,10] := by kernel_rfl
theorem xo85_4a : (rgOf (opsOf xg85_1)).any = false := by kernel_rfl
theorem xo85_4r : regOk (opsOf xg85_1) = true := by kernel_rfl
theorem xo85_29 : orderIx (opsOf xg85_2) = [0,1,2,3] := by kernel_rfl
theorem xo85_29a : (rgOf (opsOf xg85_2)).any = false := by kernel_rfl
theorem xo85_29r : regOk (opsOf xg85_2) = true := by kernel_rfl
theorem xo85_17 : orderIx (opsOf xg85_3) = [0,1,2,3,4,5,6,7,8,9] := by kernel_rfl
theorem xo85_17a : (rgOf (opsOf xg85_3)).any = false := by kernel_rfl
theorem xo85_17r : regOk (opsOf xg85_3) = true := by kernel_rfl
theorem xo85_19 : orderIx (opsOf xg85_4) = [0,1,2,3,4,5,6] := by kernel_rfl
theorem xo85_19a : (rgOf (opsOf xg85_4)).any = false := by kernel_rfl
theorem xo85_19r : regOk (opsOf xg85_4) = true := by kernel_rfl
theorem xb85 (h : Hp) : bodyV (xX s 85 wl k false) Tryz.f85 [t0,t1,t2] h =
  bp (opBox t0 h) fun v1 h2 =>
  bp (opBox t2 h2) fun v3 h4 =>
  bp (some (.own h4.length 0 0,h4 ++ [.rows 0 [] 0 true])) fun v5 h6 =>
  bp (opAlloc s.P 30 h6) fun v7 h8 =>
  bp (callV (xX s 85 wl k false) false true (.fn (.func 20) [] []) [t1] h8) fun v9 h10 =>
  bp (opAlloc s.P 26 h10) fun v11 h12 =>
  bs (vStore s.P wl 26 v11 v9 h12) fun h13 =>
  bm (vLoad s.P 23 v1 h13) h13 fun v14 h15 =>
  bm (vLoad s.P 30 v3 h15) h15 fun v16 h17 =>
  bp (callV (xX s 85 wl k false) false true (.fn (.func 99) [] []) [v14,t1,v16,(V.lit (Value.int .i64 1)),(V.lit (Value.int .i64 7))] h17) fun v18 h19 =>
  bm (vUn .not v18) h19 fun v20 h21 =>
  cnd v20 (
  bm (vLoad s.P 26 v11 h21) h21 fun v22 h23 =>
  bm (vLoad s.P 30 v3 h23) h23 fun v24 h25 =>
  bs (vStore s.P wl 30 v7 v24 h25) fun h26 =>
  resO [some v22,vLoad s.P 30 v7 h26] h26) (
  bp (opAlloc s.P 3 h21) fun v27 h28 =>
  bm (vLoad s.P 23 v1 h28) h28 fun v29 h30 =>
  bm (vFieldAddr s.P 30 v3 2) h30 fun v31 h32 =>
  bm (vLoad s.P 3 v31 h32) h32 fun v33 h34 =>
  bp (callV (xX s 85 wl k false) true true (.fn (.func 52) [] []) [v29,v33] h34) fun v35 h36 =>
  stO h21.length v1 (
  bm (vLoad s.P 23 v1 h36) h36 fun v37 h38 =>
  bm (vFieldAddr s.P 30 v3 2) h38 fun v39 h40 =>
  stO h21.length v39 (
  bm (vLoad s.P 3 v39 h40) h40 fun v41 h42 =>
  bp (callV (xX s 85 wl k false) true true (.fn (.func 54) [] []) [v37,v41] h42) fun v43 h44 =>
  bs (vStore s.P wl 3 v27 v43 h44) fun h45 =>
  bm (vFieldAddr s.P 30 v3 1) h45 fun v46 h47 =>
  bm (vLoad s.P 3 v46 h47) h47 fun v48 h49 =>
  bm (vBin s.P .add 3 v48 (V.lit (Value.int .i64 1))) h49 fun v50 h51 =>
  bm (vFieldAddr s.P 30 v3 1) h51 fun v52 h53 =>
  bm (vLoad s.P 3 v52 h53) h53 fun v54 h55 =>
  bm (vBin s.P .eql 3 v54 (V.lit (Value.int .i64 0))) h55 fun v56 h57 =>
  cnd v56 (
  bm (vLoad s.P 26 v11 h57) h57 fun v58 h59 =>
  bm (vLoad s.P 3 v27 h59) h59 fun v60 h61 =>
  bp (callV (xX s 85 wl k false) false true (.fn (.func 13) [] []) [v58,v60] h61) fun v62 h63 =>
  bm (vBin s.P .sub 28 v62 (V.lit (Value.int .u64 1))) h63 fun v64 h65 =>
  bm (vFieldAddr s.P 30 v3 4) h65 fun v66 h67 =>
  bs (vStore s.P wl 28 v66 v64 h67) fun h68 =>
  bm (vFieldAddr s.P 30 v3 1) h68 fun v69 h70 =>
  bs (vStore s.P wl 3 v69 v50 h70) fun h71 =>
  bm (vLoad s.P 26 v11 h71) h71 fun v72 h73 =>
  bm (vLoad s.P 30 v3 h73) h73 fun v74 h75 =>
  bs (vStore s.P wl 30 v7 v74 h75) fun h76 =>
  resO [some v72,vLoad s.P 30 v7 h76] h76) (
  bm (vBin s.P .eql 3 v54 (V.lit (Value.int .i64 1))) h57 fun v77 h78 =>
  cnd v77 (
  bm (vLoad s.P 26 v11 h78) h78 fun v79 h80 =>
  bm (vLoad s.P 3 v27 h80) h80 fun v81 h82 =>
  bm (vFieldAddr s.P 30 v3 4) h82 fun v83 h84 =>
  bm (vLoad s.P 28 v83 h84) h84 fun v85 h86 =>
  bp (callV (xX s 85 wl k false) false true (.fn (.func 112) [] []) [v79,v81,v85] h86) fun v87 h88 =>
  bs (vStore s.P wl 26 v11 v87 h88) fun h89 =>
  bm (vFieldAddr s.P 30 v3 1) h89 fun v90 h91 =>
  bs (vStore s.P wl 3 v90 v50 h91) fun h92 =>
  bm (vLoad s.P 26 v11 h92) h92 fun v93 h94 =>
  bm (vLoad s.P 30 v3 h94) h94 fun v95 h96 =>
  bs (vStore s.P wl 30 v7 v95 h96) fun h97 =>
  resO [some v93,vLoad s.P 30 v7 h97] h97) (
  bm (vBin s.P .eql 3 v54 (V.lit (Value.int .i64 2))) h78 fun v98 h99 =>
  cnd v98 (
  bm (vLoad s.P 26 v11 h99) h99 fun v100 h101 =>
  bp (callV (xX s 85 wl k false) false true (.fn (.func 13) [] []) [v100,v35] h101) fun v102 h103 =>
  bm (vFieldAddr s.P 30 v3 5) h103 fun v104 h105 =>
  bs (vStore s.P wl 28 v104 v102 h105) fun h106 =>
  bm (vFieldAddr s.P 30 v3 4) h106 fun v107 h108 =>
  bm (vLoad s.P 28 v107 h108) h108 fun v109 h110 =>
  bm (vFieldAddr s.P 30 v3 5) h110 fun v111 h112 =>
  bm (vLoad s.P 28 v111 h112) h112 fun v113 h114 =>
  bp (callV (xX s 85 wl k false) false true (.fn (.func 53) [] []) [v109,v113] h114) fun v115 h116 =>
  bm (vBin s.P .lss 3 v115 (V.lit (Value.int .i64 0))) h116 fun v117 h118 =>
  cnd v117 (
  bm (vFieldAddr s.P 30 v3 1) h118 fun v119 h120 =>
  bs (vStore s.P wl 3 v119 (V.lit (Value.int .i64 6)) h120) fun h121 =>
  bm (vLoad s.P 26 v11 h121) h121 fun v122 h123 =>
  bm (vLoad s.P 30 v3 h123) h123 fun v124 h125 =>
  bs (vStore s.P wl 30 v7 v124 h125) fun h126 =>
  resO [some v122,vLoad s.P 30 v7 h126] h126) (
  bm (vFieldAddr s.P 30 v3 1) h118 fun v127 h128 =>
  bs (vStore s.P wl 3 v127 v50 h128) fun h129 =>
  bm (vLoad s.P 26 v11 h129) h129 fun v130 h131 =>
  bm (vLoad s.P 30 v3 h131) h131 fun v132 h133 =>
  bs (vStore s.P wl 30 v7 v132 h133) fun h134 =>
  resO [some v130,vLoad s.P 30 v7 h134] h134)) (
  bm (vBin s.P .eql 3 v54 (V.lit (Value.int .i64 3))) h99 fun v135 h136 =>
  cnd v135 (
  stO h136.length v11 (
  bm (vLoad s.P 26 v11 h136) h136 fun v137 h138 =>
  bm (vLoad s.P 23 v1 h138) h138 fun v139 h140 =>
  bm (vFieldAddr s.P 30 v3 2) h140 fun v141 h142 =>
  bm (vLoad s.P 3 v141 h142) h142 fun v143 h144 =>
  bm (vFieldAddr s.P 30 v3 4) h144 fun v145 h146 =>
  bm (vLoad s.P 28 v145 h146) h146 fun v147 h148 =>
  bp (callV (xX s 85 wl k false) true true (.fn (.func 113) [] []) [v139,v143,v147] h148) fun v149 h150 =>
  bp (callV (xX s 85 wl k false) false true (.fn (.func 13) [] []) [v137,v149] h150) fun v151 h152 =>
  bm (vFieldAddr s.P 30 v3 3) h152 fun v153 h154 =>
  bs (vStore s.P wl 28 v153 v151 h154) fun h155 =>
  bm (vFieldAddr s.P 30 v3 4) h155 fun v156 h157 =>
  bm (vLoad s.P 28 v156 h157) h157 fun v158 h159 =>
  bm (vFieldAddr s.P 30 v3 5) h159 fun v160 h161 =>
  bm (vLoad s.P 28 v160 h161) h161 fun v162 h163 =>
  bm (vBin s.P .neq 28 v158 v162) h163 fun v164 h165 =>
  cnd v164 (
  stO h165.length v11 (
  bm (vLoad s.P 26 v11 h165) h165 fun v166 h167 =>
  bm (vLoad s.P 30 v3 h167) h167 fun v168 h169 =>
  bm (vFieldAddr s.P 30 v3 3) h169 fun v170 h171 =>
  bm (vLoad s.P 28 v170 h171) h171 fun v172 h173 =>
  bp (callV (xX s 85 wl k false) true true (.fn (.func 104) [] []) [v168,(V.lit (Value.int .i64 1)),v172] h173) fun v174 h175 =>
  bs (vStore s.P wl 30 v7 v174 h175) fun h176 =>
  resO [some v166,vLoad s.P 30 v7 h176] h176)) (
  bm (vFieldAddr s.P 30 v3 1) h165 fun v177 h178 =>
  bs (vStore s.P wl 3 v177 v50 h178) fun h179 =>
  bm (vLoad s.P 26 v11 h179) h179 fun v180 h181 =>
  bm (vLoad s.P 30 v3 h181) h181 fun v182 h183 =>
  bs (vStore s.P wl 30 v7 v182 h183) fun h184 =>
  resO [some v180,vLoad s.P 30 v7 h184] h184))) (
  bm (vBin s.P .eql 3 v54 (V.lit (Value.int .i64 4))) h136 fun v185 h186 =>
  cnd v185 (
  bm (vLoad s.P 26 v11 h186) h186 fun v187 h188 =>
  bm (vFieldAddr s.P 30 v3 5) h188 fun v189 h190 =>
  bm (vLoad s.P 28 v189 h190) h190 fun v191 h192 =>
  bm (vFieldAddr s.P 30 v3 5) h192 fun v193 h194 =>
  bm (vLoad s.P 28 v193 h194) h194 fun v195 h196 =>
  bm (vBin s.P .add 28 v195 (V.lit (Value.int .u64 1))) h196 fun v197 h198 =>
  bp (callV (xX s 85 wl k false) false true (.fn (.func 102) [] []) [v187,v35,v191,v197] h198) fun v199 h200 =>
  bm (vExtract v199 0) h200 fun v201 h202 =>
  bm (vExtract v199 1) h202 fun v203 h204 =>
  bs (vStore s.P wl 26 v11 v201 h204) fun h205 =>
  bm (vUn .not v203) h205 fun v206 h207 =>
  cnd v206 (
  bm (vFieldAddr s.P 30 v3 1) h207 fun v208 h209 =>
  bs (vStore s.P wl 3 v208 (V.lit (Value.int .i64 6)) h209) fun h210 =>
  bm (vLoad s.P 26 v11 h210) h210 fun v211 h212 =>
  bm (vLoad s.P 30 v3 h212) h212 fun v213 h214 =>
  bs (vStore s.P wl 30 v7 v213 h214) fun h215 =>
  resO [some v211,vLoad s.P 30 v7 h215] h215) (
  bm (vFieldAddr s.P 30 v3 1) h207 fun v216 h217 =>
  bs (vStore s.P wl 3 v216 v50 h217) fun h218 =>
  bm (vLoad s.P 26 v11 h218) h218 fun v219 h220 =>
  bm (vLoad s.P 30 v3 h220) h220 fun v221 h222 =>
  bs (vStore s.P wl 30 v7 v221 h222) fun h223 =>
  resO [some v219,vLoad s.P 30 v7 h223] h223)) (
  bm (vBin s.P .eql 3 v54 (V.lit (Value.int .i64 5))) h186 fun v224 h225 =>
  cnd v224 (
  bm (vFieldAddr s.P 30 v3 3) h225 fun v226 h227 =>
  bm (vLoad s.P 28 v226 h227) h227 fun v228 h229 =>
  bp (callV (xX s 85 wl k false) false true (.fn (.func 111) [] [v11,v27,v3]) [(V.lit (Value.int .i64 1)),v228] h229) fun v230 h231 =>
  bm (vExtract v230 0) h231 fun v232 h233 =>
  bm (vExtract v230 1) h233 fun v234 h235 =>
  bs (vStore s.P wl 30 v7 v234 h235) fun h236 =>
  resO [some v232,vLoad s.P 30 v7 h236] h236) (
  bp (callV (xX s 85 wl k false) false true (.fn (.func 111) [] [v11,v27,v3]) [(V.lit (Value.int .i64 3)),(V.lit (Value.int .u64 0))] h225) fun v237 h238 =>
  bm (vExtract v237 0) h238 fun v239 h240 =>
  bm (vExtract v237 1) h240 fun v241 h242 =>
  bs (vStore s.P wl 30 v7 v241 h242) fun h243 =>
  resO [some v239,vLoad s.P 30 v7 h243] h243))))))))) :=
  bodyV_run rfl (go_seq (go_reg0
  (pP fun v1 h2 =>
  (pP fun v3 h4 =>
  (pP fun v5 h6 =>
  (pP fun v7 h8 =>
  (eN
  (go_scope (go_seq (go_reg0
  (pI t1 h8
  (pP fun v9 h10 =>
  (pP fun v11 h12 =>
  (pS fun h13 =>
  (eN
  (go_seq (go_seq (go_reg0
  (pM fun v14 h15 =>
  (pI t1 h15
  (pM fun v16 h17 =>
  (pP fun v18 h19 =>
  (pM fun v20 h21 =>
  (eN
  (go_cond (by kernel_rfl)
  (go_seq (go_reg1 xo85_3r
  (qM xo85_3 xo85_3a fun v22 h23 =>
  (qM xo85_3 xo85_3a fun v24 h25 =>
  (qI xo85_3 xo85_3a v22 h25
  (qS xo85_3 xo85_3a fun h26 =>
  (go_end1 xo85_3 (by kernel_rfl) xo85_3a
  (go_ret (rt_seq_ret (rt_scope_ret (by kernel_rfl)))))))))))
  (go_skip (go_seq (go_reg1 xo85_4r
  (qP xo85_4 xo85_4a fun v27 h28 =>
  (qM xo85_4 xo85_4a fun v29 h30 =>
  (qM xo85_4 xo85_4a fun v31 h32 =>
  (qM xo85_4 xo85_4a fun v33 h34 =>
  (qP xo85_4 xo85_4a fun v35 h36 =>
  (go_op1 xo85_4 xo85_4a rfl rfl rfl (st_yes (by kernel_rfl) (st_bm (by kernel_rfl) fun v37 h38 =>
  (qM xo85_4 xo85_4a fun v39 h40 =>
  (go_op1 xo85_4 xo85_4a rfl rfl rfl (st_yes (by kernel_rfl) (st_bm (by kernel_rfl) fun v41 h42 =>
  (qP xo85_4 xo85_4a fun v43 h44 =>
  (qI xo85_4 xo85_4a v35 h44
  (qS xo85_4 xo85_4a fun h45 =>
  (go_end1 xo85_4 (by kernel_rfl) xo85_4a
  (go_seq (go_reg0
  (go_op0 rfl rfl (st_id (v := (.fn (.func 111) [] [v11,v27,v3])) (H := h45) (by kernel_rfl)
  (go_op0 rfl rfl (st_id (v := (.fn (.func 111) [] [v11,v27,v3])) (H := h45) (by kernel_rfl)
  (eN
  (go_seq (go_reg0
  (pM fun v46 h47 =>
  (pM fun v48 h49 =>
  (pM fun v50 h51 =>
  (pI v50 h51
  (eN
  (go_seq (go_seq (go_reg0
  (pM fun v52 h53 =>
  (pM fun v54 h55 =>
  (eN
  (go_block (go_seq (go_reg0
  (pM fun v56 h57 =>
  (pI v56 h57
  (eN
  (go_cond (by kernel_rfl)
  (go_seq (go_reg0
  (pM fun v58 h59 =>
  (pM fun v60 h61 =>
  (pP fun v62 h63 =>
  (pM fun v64 h65 =>
  (pM fun v66 h67 =>
  (pS fun h68 =>
  (eN
  (go_goto (rt_block_goto (rt_seq_goto (rt_scope_on (by kernel_rfl) (fl_right (by kernel_rfl) (fl_right (by kernel_rfl) (fl_right (by kernel_rfl) (fl_right (by kernel_rfl) (fl_right (by kernel_rfl) (fl_right (by kernel_rfl) (fl_right (by kernel_rfl) (fl_left (by kernel_rfl) (fl_label (go_seq (go_reg0
  (pI v50 h68
  (pM fun v69 h70 =>
  (pS fun h71 =>
  (eN
  (go_seq (go_reg1 xo85_29r
  (qM xo85_29 xo85_29a fun v72 h73 =>
  (qM xo85_29 xo85_29a fun v74 h75 =>
  (qI xo85_29 xo85_29a v72 h75
  (qS xo85_29 xo85_29a fun h76 =>
  (go_end1 xo85_29 (by kernel_rfl) xo85_29a
  (go_ret (rt_scope2_ret (by kernel_rfl))))))))))))))))))))))))))))))))))))))
  (go_seq (go_reg0
  (pM fun v77 h78 =>
  (pI v77 h78
  (eN
  (go_cond (by kernel_rfl)
  (go_seq (go_reg0
  (pM fun v79 h80 =>
  (pM fun v81 h82 =>
  (pM fun v83 h84 =>
  (pM fun v85 h86 =>
  (pP fun v87 h88 =>
  (pS fun h89 =>
  (eN
  (go_goto (rt_block_goto (rt_seq_goto (rt_scope_on (by kernel_rfl) (fl_right (by kernel_rfl) (fl_right (by kernel_rfl) (fl_right (by kernel_rfl) (fl_right (by kernel_rfl) (fl_right (by kernel_rfl) (fl_right (by kernel_rfl) (fl_right (by kernel_rfl) (fl_left (by kernel_rfl) (fl_label (go_seq (go_reg0
  (pI v50 h89
  (pM fun v90 h91 =>
  (pS fun h92 =>
  (eN
  (go_seq (go_reg1 xo85_29r
  (qM xo85_29 xo85_29a fun v93 h94 =>
  (qM xo85_29 xo85_29a fun v95 h96 =>
  (qI xo85_29 xo85_29a v93 h96
  (qS xo85_29 xo85_29a fun h97 =>
  (go_end1 xo85_29 (by kernel_rfl) xo85_29a
  (go_ret (rt_scope2_ret (by kernel_rfl))))))))))))))))))))))))))))))))))))))
  (go_seq (go_reg0
  (pM fun v98 h99 =>
  (pI v98 h99
  (eN
  (go_cond (by kernel_rfl)
  (go_seq (go_seq (go_reg0
  (pM fun v100 h101 =>
  (pI v35 h101
  (pP fun v102 h103 =>
  (pM fun v104 h105 =>
  (pS fun h106 =>
  (eN
  (go_seq (go_reg0
  (pM fun v107 h108 =>
  (pM fun v109 h110 =>
  (pM fun v111 h112 =>
  (pM fun v113 h114 =>
  (pP fun v115 h116 =>
  (pM fun v117 h118 =>
  (eN
  (go_cond (by kernel_rfl)
  (go_reg0
  (go_op0 rfl rfl (st_id (v := (V.lit (Value.int .i64 6))) (H := h118) (by kernel_rfl)
  (eN
  (go_goto (rt_block_goto (rt_seq_goto (rt_scope_on (by kernel_rfl) (fl_right (by kernel_rfl) (fl_right (by kernel_rfl) (fl_right (by kernel_rfl) (fl_right (by kernel_rfl) (fl_right (by kernel_rfl) (fl_right (by kernel_rfl) (fl_right (by kernel_rfl) (fl_left (by kernel_rfl) (fl_label (go_seq (go_reg0
  (go_op0 rfl rfl (st_id (v := (V.lit (Value.int .i64 6))) (H := h118) (by kernel_rfl)
  (pM fun v119 h120 =>
  (pS fun h121 =>
  (eN
  (go_seq (go_reg1 xo85_29r
  (qM xo85_29 xo85_29a fun v122 h123 =>
  (qM xo85_29 xo85_29a fun v124 h125 =>
  (qI xo85_29 xo85_29a v122 h125
  (qS xo85_29 xo85_29a fun h126 =>
  (go_end1 xo85_29 (by kernel_rfl) xo85_29a
  (go_ret (rt_scope2_ret (by kernel_rfl))))))))))))))))))))))))))))))))))
  (go_skip (go_goto (rt_block_goto (rt_seq_goto (rt_scope_on (by kernel_rfl) (fl_right (by kernel_rfl) (fl_right (by kernel_rfl) (fl_right (by kernel_rfl) (fl_right (by kernel_rfl) (fl_right (by kernel_rfl) (fl_right (by kernel_rfl) (fl_right (by kernel_rfl) (fl_left (by kernel_rfl) (fl_label (go_seq (go_reg0
  (pI v50 h118
  (pM fun v127 h128 =>
  (pS fun h129 =>
  (eN
  (go_seq (go_reg1 xo85_29r
  (qM xo85_29 xo85_29a fun v130 h131 =>
  (qM xo85_29 xo85_29a fun v132 h133 =>
  (qI xo85_29 xo85_29a v130 h133
  (qS xo85_29 xo85_29a fun h134 =>
  (go_end1 xo85_29 (by kernel_rfl) xo85_29a
  (go_ret (rt_scope2_ret (by kernel_rfl)))))))))))))))))))))))))))))))))))))))))))))))))
  (go_seq (go_reg0
  (pM fun v135 h136 =>
  (pI v135 h136
  (eN
  (go_cond (by kernel_rfl)
  (go_seq (go_seq (go_reg1 xo85_17r
  (go_op1 xo85_17 xo85_17a rfl rfl rfl (st_yes (by kernel_rfl) (st_bm (by kernel_rfl) fun v137 h138 =>
  (qM xo85_17 xo85_17a fun v139 h140 =>
  (qM xo85_17 xo85_17a fun v141 h142 =>
  (qM xo85_17 xo85_17a fun v143 h144 =>
  (qM xo85_17 xo85_17a fun v145 h146 =>
  (qM xo85_17 xo85_17a fun v147 h148 =>
  (qP xo85_17 xo85_17a fun v149 h150 =>
  (qP xo85_17 xo85_17a fun v151 h152 =>
  (qM xo85_17 xo85_17a fun v153 h154 =>
  (qS xo85_17 xo85_17a fun h155 =>
  (go_end1 xo85_17 (by kernel_rfl) xo85_17a
  (go_seq (go_reg0
  (pM fun v156 h157 =>
  (pM fun v158 h159 =>
  (pM fun v160 h161 =>
  (pM fun v162 h163 =>
  (pM fun v164 h165 =>
  (eN
  (go_cond (by kernel_rfl)
  (go_seq (go_reg1 xo85_19r
  (go_op1 xo85_19 xo85_19a rfl rfl rfl (st_yes (by kernel_rfl) (st_bm (by kernel_rfl) fun v166 h167 =>
  (qM xo85_19 xo85_19a fun v168 h169 =>
  (qM xo85_19 xo85_19a fun v170 h171 =>
  (qM xo85_19 xo85_19a fun v172 h173 =>
  (qP xo85_19 xo85_19a fun v174 h175 =>
  (qI xo85_19 xo85_19a v166 h175
  (qS xo85_19 xo85_19a fun h176 =>
  (go_end1 xo85_19 (by kernel_rfl) xo85_19a
  (go_ret (rt_seq_ret (rt_block_ret (rt_seq_ret (rt_scope_ret (by kernel_rfl))))))))))))))))))
  (go_skip (go_goto (rt_block_goto (rt_seq_goto (rt_scope_on (by kernel_rfl) (fl_right (by kernel_rfl) (fl_right (by kernel_rfl) (fl_right (by kernel_rfl) (fl_right (by kernel_rfl) (fl_right (by kernel_rfl) (fl_right (by kernel_rfl) (fl_right (by kernel_rfl) (fl_left (by kernel_rfl) (fl_label (go_seq (go_reg0
  (pI v50 h165
  (pM fun v177 h178 =>
  (pS fun h179 =>
  (eN
  (go_seq (go_reg1 xo85_29r
  (qM xo85_29 xo85_29a fun v180 h181 =>
  (qM xo85_29 xo85_29a fun v182 h183 =>
  (qI xo85_29 xo85_29a v180 h183
  (qS xo85_29 xo85_29a fun h184 =>
  (go_end1 xo85_29 (by kernel_rfl) xo85_29a
  (go_ret (rt_scope2_ret (by kernel_rfl)))))))))))))))))))))))))))))))))))))))))))))))))))))))
  (go_seq (go_reg0
  (pM fun v185 h186 =>
  (pI v185 h186
  (eN
  (go_cond (by kernel_rfl)
  (go_seq (go_reg0
  (go_op0 rfl rfl (st_id (v := (V.lit (Value.bool false))) (H := h186) (by kernel_rfl)
  (eN
  (go_seq (go_seq (go_reg0
  (pM fun v187 h188 =>
  (pI v35 h188
  (pM fun v189 h190 =>
  (pM fun v191 h192 =>
  (pM fun v193 h194 =>
  (pM fun v195 h196 =>
  (pM fun v197 h198 =>
  (pP fun v199 h200 =>
  (pI v199 h200
  (pM fun v201 h202 =>
  (pM fun v203 h204 =>
  (pS fun h205 =>
  (pI v203 h205
  (eN
  (go_seq (go_reg0
  (pI v203 h205
  (pM fun v206 h207 =>
  (eN
  (go_cond (by kernel_rfl)
  (go_reg0
  (go_op0 rfl rfl (st_id (v := (V.lit (Value.int .i64 6))) (H := h207) (by kernel_rfl)
  (eN
  (go_goto (rt_block_goto (rt_seq_goto (rt_scope_on (by kernel_rfl) (fl_right (by kernel_rfl) (fl_right (by kernel_rfl) (fl_right (by kernel_rfl) (fl_right (by kernel_rfl) (fl_right (by kernel_rfl) (fl_right (by kernel_rfl) (fl_right (by kernel_rfl) (fl_left (by kernel_rfl) (fl_label (go_seq (go_reg0
  (go_op0 rfl rfl (st_id (v := (V.lit (Value.int .i64 6))) (H := h207) (by kernel_rfl)
  (pM fun v208 h209 =>
  (pS fun h210 =>
  (eN
  (go_seq (go_reg1 xo85_29r
  (qM xo85_29 xo85_29a fun v211 h212 =>
  (qM xo85_29 xo85_29a fun v213 h214 =>
  (qI xo85_29 xo85_29a v211 h214
  (qS xo85_29 xo85_29a fun h215 =>
  (go_end1 xo85_29 (by kernel_rfl) xo85_29a
  (go_ret (rt_scope2_ret (by kernel_rfl))))))))))))))))))))))))))))))))))
  (go_skip (go_goto (rt_block_goto (rt_seq_goto (rt_scope_on (by kernel_rfl) (fl_right (by kernel_rfl) (fl_right (by kernel_rfl) (fl_right (by kernel_rfl) (fl_right (by kernel_rfl) (fl_right (by kernel_rfl) (fl_right (by kernel_rfl) (fl_right (by kernel_rfl) (fl_left (by kernel_rfl) (fl_label (go_seq (go_reg0
  (pI v50 h207
  (pM fun v216 h217 =>
  (pS fun h218 =>
  (eN
  (go_seq (go_reg1 xo85_29r
  (qM xo85_29 xo85_29a fun v219 h220 =>
  (qM xo85_29 xo85_29a fun v221 h222 =>
  (qI xo85_29 xo85_29a v219 h222
  (qS xo85_29 xo85_29a fun h223 =>
  (go_end1 xo85_29 (by kernel_rfl) xo85_29a
  (go_ret (rt_scope2_ret (by kernel_rfl))))))))))))))))))))))))))))))))))))))))))))))))))))))))))
  (go_seq (go_reg0
  (pM fun v224 h225 =>
  (pI v224 h225
  (eN
  (go_cond (by kernel_rfl)
  (go_seq (go_reg0
  (go_op0 rfl rfl (st_id (v := (.fn (.func 111) [] [v11,v27,v3])) (H := h225) (by kernel_rfl)
  (pM fun v226 h227 =>
  (pM fun v228 h229 =>
  (pP fun v230 h231 =>
  (pM fun v232 h233 =>
  (pM fun v234 h235 =>
  (pI v232 h235
  (pS fun h236 =>
  (eN
  (go_ret (rt_block_ret (rt_seq_ret (rt_scope_ret (by kernel_rfl)))))))))))))))))
  (go_skip (rt_block_norm (go_seq (go_seq (go_reg0
  (go_op0 rfl rfl (st_id (v := (.fn (.func 111) [] [v11,v27,v3])) (H := h225) (by kernel_rfl)
  (pP fun v237 h238 =>
  (pM fun v239 h240 =>
  (pM fun v241 h242 =>
  (pI v239 h242
  (pS fun h243 =>
  (eN
  (go_ret (rt_seq_ret (rt_scope_ret (by kernel_rfl))))))))))))))))))))))))))))))))))))))))))))))))))))))))))))))))))))))))))))))))))))))))))))))))))))))))))))))))))))))
theorem xe85 (k wl : Nat) (h : Hp) : evF Tryz.prog xM (k + 1) wl 85 [t0,t1,t2] h = bodyV (xX (xS k) 85 wl k false) Tryz.f85 [t0,t1,t2] h := by kernel_rfl
-- names: xb85,
noncomputable def xg111_0 : Code := codeAt (bodyOf Tryz.f111) [1,0]
theorem xo111_1 : orderIx (opsOf xg111_0) = [0,1,2,3,4,5,6,7,8,9,10,11] := by kernel_rfl
theorem xo111_1a : (rgOf (opsOf xg111_0)).any = false := by kernel_rfl
theorem xo111_1r : regOk (opsOf xg111_0) = true := by kernel_rfl
theorem xb111 (h : Hp) : bodyV (xX s 111 wl k false) Tryz.f111 [t0,t1,t2,t3,t4] h =
  bp (some (.own h.length 0 0,h ++ [.rows 0 [] 0 true])) fun v1 h2 =>
  bp (opAlloc s.P 30 h2) fun v3 h4 =>
  bm (vLoad s.P 26 t2 h4) h4 fun v5 h6 =>
  bm (vLoad s.P 3 t3 h6) h6 fun v7 h8 =>
  bm (vFieldAddr s.P 30 t4 4) h8 fun v9 h10 =>
  bm (vLoad s.P 28 v9 h10) h10 fun v11 h12 =>
  bm (vBin s.P .add 28 v11 (V.lit (Value.int .u64 1))) h12 fun v13 h14 =>
  bp (callV (xX s 111 wl k false) true true (.fn (.func 112) [] []) [v5,v7,v13] h14) fun v15 h16 =>
  stO h4.length t4 (
  bm (vLoad s.P 30 t4 h16) h16 fun v17 h18 =>
  bp (callV (xX s 111 wl k false) false true (.fn (.func 104) [] []) [v17,t0,t1] h18) fun v19 h20 =>
  bs (vStore s.P wl 30 v3 v19 h20) fun h21 =>
  resO [some v15,vLoad s.P 30 v3 h21] h21) :=
  bodyV_run rfl (go_seq (go_reg0
  (pP fun v1 h2 =>
  (pP fun v3 h4 =>
  (eN
  (go_seq (go_reg1 xo111_1r
  (qM xo111_1 xo111_1a fun v5 h6 =>
  (qM xo111_1 xo111_1a fun v7 h8 =>
  (qM xo111_1 xo111_1a fun v9 h10 =>
  (qM xo111_1 xo111_1a fun v11 h12 =>
  (qM xo111_1 xo111_1a fun v13 h14 =>
  (qP xo111_1 xo111_1a fun v15 h16 =>
  (go_op1 xo111_1 xo111_1a rfl rfl rfl (st_yes (by kernel_rfl) (st_bm (by kernel_rfl) fun v17 h18 =>
  (qI xo111_1 xo111_1a t0 h18
  (qI xo111_1 xo111_1a t1 h18
  (qP xo111_1 xo111_1a fun v19 h20 =>
  (qI xo111_1 xo111_1a v15 h20
  (qS xo111_1 xo111_1a fun h21 =>
  (go_end1 xo111_1 (by kernel_rfl) xo111_1a
  (go_ret (by kernel_rfl))))))))))))))))))))))))
theorem xe111 (k wl : Nat) (h : Hp) : evF Tryz.prog xM (k + 1) wl 111 [t0,t1,t2,t3,t4] h = bodyV (xX (xS k) 111 wl k false) Tryz.f111 [t0,t1,t2,t3,t4] h := by kernel_rfl
-- names: xb111,
noncomputable def xg86_0 : Code := codeAt (bodyOf Tryz.f86) [1,0,1,0,1,0,0]
noncomputable def xg86_1 : Code := codeAt (bodyOf Tryz.f86) [1,0,1,1,0]
noncomputable def xl86_0 : Code := codeAt (bodyOf Tryz.f86) [1,0,1,1,1,1,1,0,1,0,0]
noncomputable def xk86_0 : List Fr := [.block 0,.seq (codeAt (bodyOf Tryz.f86) [1,0,1,1,1,1,1,1]),.scope (codeAt (bodyOf Tryz.f86) [1,0])]
noncomputable def xg86_2 : Code := codeAt (bodyOf Tryz.f86) [1,0,1,1,1,1,1,1,0]
theorem xo86_3 : orderIx (opsOf xg86_0) = [0,1,2,3] := by kernel_rfl
theorem xo86_3a : (rgOf (opsOf xg86_0)).any = false := by kernel_rfl
theorem xo86_3r : regOk (opsOf xg86_0) = true := by kernel_rfl
theorem xo86_4 : orderIx (opsOf xg86_1) = [8,9,0,1,2,3,4,5,6,7,10,11] := by kernel_rfl
theorem xo86_4a : (rgOf (opsOf xg86_1)).any = false := by kernel_rfl
theorem xo86_4r : regOk (opsOf xg86_1) = true := by kernel_rfl
theorem xo86_14 : orderIx (opsOf xg86_2) = [0,1,2,3] := by kernel_rfl
theorem xo86_14a : (rgOf (opsOf xg86_2)).any = false := by kernel_rfl
theorem xo86_14r : regOk (opsOf xg86_2) = true := by kernel_rfl
theorem xb86 (h : Hp) : bodyV (xX s 86 wl k false) Tryz.f86 [t0,t1,t2] h =
  bp (opBox t0 h) fun v1 h2 =>
  bp (opBox t2 h2) fun v3 h4 =>
  bp (some (.own h4.length 0 0,h4 ++ [.rows 0 [] 0 true])) fun v5 h6 =>
  bp (opAlloc s.P 30 h6) fun v7 h8 =>
  bp (callV (xX s 86 wl k false) false true (.fn (.func 20) [] []) [t1] h8) fun v9 h10 =>
  bp (opAlloc s.P 26 h10) fun v11 h12 =>
  bs (vStore s.P wl 26 v11 v9 h12) fun h13 =>
  bm (vLoad s.P 23 v1 h13) h13 fun v14 h15 =>
  bm (vLoad s.P 30 v3 h15) h15 fun v16 h17 =>
  bp (callV (xX s 86 wl k false) false true (.fn (.func 99) [] []) [v14,t1,v16,(V.lit (Value.int .i64 2)),(V.lit (Value.int .i64 4))] h17) fun v18 h19 =>
  bm (vUn .not v18) h19 fun v20 h21 =>
  cnd v20 (
  bm (vLoad s.P 26 v11 h21) h21 fun v22 h23 =>
  bm (vLoad s.P 30 v3 h23) h23 fun v24 h25 =>
  bs (vStore s.P wl 30 v7 v24 h25) fun h26 =>
  resO [some v22,vLoad s.P 30 v7 h26] h26) (
  bp (opAlloc s.P 3 h21) fun v27 h28 =>
  bp (opAlloc s.P 3 h28) fun v29 h30 =>
  bm (vLoad s.P 23 v1 h30) h30 fun v31 h32 =>
  bm (vFieldAddr s.P 30 v3 2) h32 fun v33 h34 =>
  bm (vLoad s.P 3 v33 h34) h34 fun v35 h36 =>
  bp (callV (xX s 86 wl k false) true true (.fn (.func 52) [] []) [v31,v35] h36) fun v37 h38 =>
  stO h21.length v1 (
  bm (vLoad s.P 23 v1 h38) h38 fun v39 h40 =>
  bm (vFieldAddr s.P 30 v3 2) h40 fun v41 h42 =>
  stO h21.length v41 (
  bm (vLoad s.P 3 v41 h42) h42 fun v43 h44 =>
  bp (callV (xX s 86 wl k false) true true (.fn (.func 54) [] []) [v39,v43] h44) fun v45 h46 =>
  bs (vStore s.P wl 3 v27 v37 h46) fun h47 =>
  bs (vStore s.P wl 3 v29 v45 h47) fun h48 =>
  bp (vBuildSlice s.P wl 130 4 [(0,(.fn (.func 114) [] [v11,v27,v3])),(1,(.fn (.func 115) [] [v11,v29,v3])),(2,(.fn (.func 116) [] [v11,v1,v3])),(3,(.fn (.func 117) [] [v11,v27,v3]))] h48) fun v49 h50 =>
  bp (opLen s.P 130 v49 h50) fun v51 h52 =>
  itX (xX s 86 wl k false) xl86_0 h52.length (runK (xX s 86 wl k false) (bodyK s.P Tryz.f86) xk86_0) k ⟨[(V.kill h52.length t0),(V.kill h52.length t1),(V.kill h52.length t2),(V.kill h52.length v1),(V.kill h52.length uu),(V.kill h52.length v3),(V.kill h52.length v5),(V.kill h52.length v7),(V.kill h52.length v11),(V.kill h52.length v27),(V.kill h52.length v29),(V.kill h52.length v49),(V.kill h52.length uu),(V.kill h52.length uu),(V.kill h52.length t1),(V.kill h52.length v9),(V.kill h52.length v14),(V.kill h52.length t1),(V.kill h52.length v16),(V.kill h52.length v18),(V.kill h52.length v20),(V.kill h52.length uu),(V.kill h52.length uu),(V.kill h52.length v31),(V.kill h52.length v33),(V.kill h52.length v35),(V.kill h52.length v37),(V.kill h52.length v39),(V.kill h52.length v41),(V.kill h52.length v43),(V.kill h52.length v45),(V.kill h52.length (.fn (.func 114) [] [v11,v27,v3])),(V.kill h52.length (.fn (.func 115) [] [v11,v29,v3])),(V.kill h52.length (.fn (.func 116) [] [v11,v1,v3])),(V.kill h52.length (.fn (.func 117) [] [v11,v27,v3])),(V.kill h52.length v49),(V.kill h52.length v49),(V.kill h52.length v51),(V.lit (Value.int .i64 0)),.junk,.junk,.junk,.junk,.junk,.junk,.junk,.junk,.junk,.junk,.junk,.junk,.junk,.junk,.junk,.junk,.junk,.junk,(V.kill h52.length uu),(V.kill h52.length uu)],cutH h52.length h52⟩))) :=
  bodyV_run rfl (go_seq (go_reg0
  (pP fun v1 h2 =>
  (pP fun v3 h4 =>
  (pP fun v5 h6 =>
  (pP fun v7 h8 =>
  (eN
  (go_scope (go_seq (go_reg0
  (pI t1 h8
  (pP fun v9 h10 =>
  (pP fun v11 h12 =>
  (pS fun h13 =>
  (eN
  (go_seq (go_seq (go_reg0
  (pM fun v14 h15 =>
  (pI t1 h15
  (pM fun v16 h17 =>
  (pP fun v18 h19 =>
  (pM fun v20 h21 =>
  (eN
  (go_cond (by kernel_rfl)
  (go_seq (go_reg1 xo86_3r
  (qM xo86_3 xo86_3a fun v22 h23 =>
  (qM xo86_3 xo86_3a fun v24 h25 =>
  (qI xo86_3 xo86_3a v22 h25
  (qS xo86_3 xo86_3a fun h26 =>
  (go_end1 xo86_3 (by kernel_rfl) xo86_3a
  (go_ret (rt_seq_ret (rt_scope_ret (by kernel_rfl)))))))))))
  (go_skip (go_seq (go_reg1 xo86_4r
  (qP xo86_4 xo86_4a fun v27 h28 =>
  (qP xo86_4 xo86_4a fun v29 h30 =>
  (qM xo86_4 xo86_4a fun v31 h32 =>
  (qM xo86_4 xo86_4a fun v33 h34 =>
  (qM xo86_4 xo86_4a fun v35 h36 =>
  (qP xo86_4 xo86_4a fun v37 h38 =>
  (go_op1 xo86_4 xo86_4a rfl rfl rfl (st_yes (by kernel_rfl) (st_bm (by kernel_rfl) fun v39 h40 =>
  (qM xo86_4 xo86_4a fun v41 h42 =>
  (go_op1 xo86_4 xo86_4a rfl rfl rfl (st_yes (by kernel_rfl) (st_bm (by kernel_rfl) fun v43 h44 =>
  (qP xo86_4 xo86_4a fun v45 h46 =>
  (qS xo86_4 xo86_4a fun h47 =>
  (qS xo86_4 xo86_4a fun h48 =>
  (go_end1 xo86_4 (by kernel_rfl) xo86_4a
  (go_seq (go_reg0
  (go_op0 rfl rfl (st_id (v := (.fn (.func 114) [] [v11,v27,v3])) (H := h48) (by kernel_rfl)
  (go_op0 rfl rfl (st_id (v := (.fn (.func 115) [] [v11,v29,v3])) (H := h48) (by kernel_rfl)
  (go_op0 rfl rfl (st_id (v := (.fn (.func 116) [] [v11,v1,v3])) (H := h48) (by kernel_rfl)
  (go_op0 rfl rfl (st_id (v := (.fn (.func 117) [] [v11,v27,v3])) (H := h48) (by kernel_rfl)
  (pP fun v49 h50 =>
  (pI v49 h50
  (eN
  (go_seq (go_label (go_seq (go_seq (go_reg0
  (pI v49 h50
  (pP fun v51 h52 =>
  (go_op0 rfl rfl (st_id (v := (V.lit (Value.int .i64 0))) (H := h52) (by kernel_rfl)
  (eN
  (go_block (by kernel_rfl))))))))))))))))))))))))))))))))))))))))))))))))))))))))))))))))))))))
theorem xe86 (k wl : Nat) (h : Hp) : evF Tryz.prog xM (k + 1) wl 86 [t0,t1,t2] h = bodyV (xX (xS k) 86 wl k false) Tryz.f86 [t0,t1,t2] h := by kernel_rfl
theorem xz86 (P : Program) (h : Hp) : bodyK P Tryz.f86 .ret ⟨[t0,t1,t2,t3,t4,t5,t6,t7,t8,t9,ta,tb,tc,td,te,tf,tg,th,ti,tj,tk,tl,tm,tn,tp,tq,tr,ts,tt,tu,tv,tw,tx,ty,tz,tA,tB,tC,tD,tE,tF,tG,tH,tI,tJ,tK,tL,tM,tN,tO,tP,tQ,tR,tS,tT,tU,tV,tW,tX],h⟩ = resO [some t6,vLoad P 30 t7 h] h := by kernel_rfl
theorem xr86_0 (s : Sys) (K : Out → St → Option (V × Hp)) (k wl : Nat) (rd : Bool) (n n0 : Nat) (h : Hp) : itX (xX s 86 wl k rd) xl86_0 n0 K (n + 1) ⟨[t0,t1,t2,t3,t4,t5,t6,t7,t8,t9,ta,tb,tc,td,te,tf,tg,th,ti,tj,tk,tl,tm,tn,tp,tq,tr,ts,tt,tu,tv,tw,tx,ty,tz,tA,tB,tC,tD,tE,tF,tG,tH,tI,tJ,tK,tL,tM,tN,tO,tP,tQ,tR,tS,tT,tU,tV,tW,tX],h⟩ =
  bm (vBin s.P .lss 3 tD tC) h fun v53 h54 =>
  cnd v53 (
  bm (vIndexAddr s.P 130 tB tD h54) h54 fun v55 h56 =>
  bm (vLoad s.P 1 v55 h56) h56 fun v57 h58 =>
  bm (vFieldAddr s.P 30 t5 1) h58 fun v59 h60 =>
  bm (vLoad s.P 3 v59 h60) h60 fun v61 h62 =>
  bm (vBin s.P .neq 3 tD v61) h62 fun v63 h64 =>
  cnd v63 (
  bm (vBin s.P .add 3 tD (V.lit (Value.int .i64 1))) h64 fun v65 h66 =>
  itX (xX s 86 wl k rd) xl86_0 n0 K n ⟨[(V.kill n0 t0),(V.kill n0 t1),(V.kill n0 t2),(V.kill n0 t3),(V.kill n0 t4),(V.kill n0 t5),(V.kill n0 t6),(V.kill n0 t7),(V.kill n0 t8),(V.kill n0 t9),(V.kill n0 ta),(V.kill n0 tb),(V.kill n0 tD),(V.kill n0 v57),(V.kill n0 te),(V.kill n0 tf),(V.kill n0 tg),(V.kill n0 th),(V.kill n0 ti),(V.kill n0 tj),(V.kill n0 tk),(V.kill n0 tl),(V.kill n0 tm),(V.kill n0 tn),(V.kill n0 tp),(V.kill n0 tq),(V.kill n0 tr),(V.kill n0 ts),(V.kill n0 tt),(V.kill n0 tu),(V.kill n0 tv),(V.kill n0 tw),(V.kill n0 tx),(V.kill n0 ty),(V.kill n0 tz),(V.kill n0 tA),(V.kill n0 tB),(V.kill n0 tC),(V.kill n0 v65),.junk,.junk,.junk,.junk,.junk,.junk,.junk,.junk,.junk,.junk,.junk,.junk,.junk,.junk,.junk,.junk,.junk,.junk,(V.kill n0 tW),(V.kill n0 tX)],cutH n0 h66⟩) (
  bp (callV (xX s 86 wl k rd) false true v57 [] h64) fun v67 h68 =>
  bm (vLoad s.P 30 t5 h68) h68 fun v69 h70 =>
  bp (callV (xX s 86 wl k rd) false true (.fn (.func 68) [] []) [v69] h70) fun v71 h72 =>
  bm (vUn .not v71) h72 fun v73 h74 =>
  cnd v73 (
  bm (vFieldAddr s.P 30 t5 1) h74 fun v75 h76 =>
  bm (vLoad s.P 3 v75 h76) h76 fun v77 h78 =>
  bm (vBin s.P .add 3 v77 (V.lit (Value.int .i64 1))) h78 fun v79 h80 =>
  bm (vFieldAddr s.P 30 t5 1) h80 fun v81 h82 =>
  bs (vStore s.P wl 3 v81 v79 h82) fun h83 =>
  K (.exit 0) ⟨[(V.kill n0 t0),(V.kill n0 t1),(V.kill n0 t2),(V.kill n0 t3),(V.kill n0 t4),(V.kill n0 t5),(V.kill n0 t6),(V.kill n0 t7),(V.kill n0 t8),(V.kill n0 t9),(V.kill n0 ta),(V.kill n0 tb),(V.kill n0 tD),(V.kill n0 v57),(V.kill n0 te),(V.kill n0 tf),(V.kill n0 tg),(V.kill n0 th),(V.kill n0 ti),(V.kill n0 tj),(V.kill n0 tk),(V.kill n0 tl),(V.kill n0 tm),(V.kill n0 tn),(V.kill n0 tp),(V.kill n0 tq),(V.kill n0 tr),(V.kill n0 ts),(V.kill n0 tt),(V.kill n0 tu),(V.kill n0 tv),(V.kill n0 tw),(V.kill n0 tx),(V.kill n0 ty),(V.kill n0 tz),(V.kill n0 tA),(V.kill n0 tB),(V.kill n0 tC),.junk,.junk,.junk,.junk,.junk,.junk,.junk,.junk,.junk,.junk,.junk,.junk,.junk,.junk,.junk,.junk,.junk,.junk,.junk,(V.kill n0 tW),(V.kill n0 tX)],cutH n0 h83⟩) (
  K (.exit 0) ⟨[(V.kill n0 t0),(V.kill n0 t1),(V.kill n0 t2),(V.kill n0 t3),(V.kill n0 t4),(V.kill n0 t5),(V.kill n0 t6),(V.kill n0 t7),(V.kill n0 t8),(V.kill n0 t9),(V.kill n0 ta),(V.kill n0 tb),(V.kill n0 tD),(V.kill n0 v57),(V.kill n0 te),(V.kill n0 tf),(V.kill n0 tg),(V.kill n0 th),(V.kill n0 ti),(V.kill n0 tj),(V.kill n0 tk),(V.kill n0 tl),(V.kill n0 tm),(V.kill n0 tn),(V.kill n0 tp),(V.kill n0 tq),(V.kill n0 tr),(V.kill n0 ts),(V.kill n0 tt),(V.kill n0 tu),(V.kill n0 tv),(V.kill n0 tw),(V.kill n0 tx),(V.kill n0 ty),(V.kill n0 tz),(V.kill n0 tA),(V.kill n0 tB),(V.kill n0 tC),.junk,.junk,.junk,.junk,.junk,.junk,.junk,.junk,.junk,.junk,.junk,.junk,.junk,.junk,.junk,.junk,.junk,.junk,.junk,(V.kill n0 tW),(V.kill n0 tX)],cutH n0 h74⟩))) (
  K (.exit 0) ⟨[(V.kill n0 t0),(V.kill n0 t1),(V.kill n0 t2),(V.kill n0 t3),(V.kill n0 t4),(V.kill n0 t5),(V.kill n0 t6),(V.kill n0 t7),(V.kill n0 t8),(V.kill n0 t9),(V.kill n0 ta),(V.kill n0 tb),(V.kill n0 tc),(V.kill n0 td),(V.kill n0 te),(V.kill n0 tf),(V.kill n0 tg),(V.kill n0 th),(V.kill n0 ti),(V.kill n0 tj),(V.kill n0 tk),(V.kill n0 tl),(V.kill n0 tm),(V.kill n0 tn),(V.kill n0 tp),(V.kill n0 tq),(V.kill n0 tr),(V.kill n0 ts),(V.kill n0 tt),(V.kill n0 tu),(V.kill n0 tv),(V.kill n0 tw),(V.kill n0 tx),(V.kill n0 ty),(V.kill n0 tz),(V.kill n0 tA),(V.kill n0 tB),(V.kill n0 tC),.junk,.junk,.junk,.junk,.junk,.junk,.junk,.junk,.junk,.junk,.junk,.junk,.junk,.junk,.junk,.junk,.junk,.junk,.junk,(V.kill n0 tW),(V.kill n0 tX)],cutH n0 h54⟩) :=
  itX_step (go_seq (go_reg0
  (pM fun v53 h54 =>
  (eN
  (go_seq (go_cond (by kernel_rfl)
  (go_skip (go_seq (go_block (go_seq (go_reg0
  (pI tD h54
  (pM fun v55 h56 =>
  (pM fun v57 h58 =>
  (pI tD h58
  (pI v57 h58
  (eN
  (go_seq (go_seq (go_reg0
  (pI tD h58
  (pM fun v59 h60 =>
  (pM fun v61 h62 =>
  (pM fun v63 h64 =>
  (eN
  (go_cond (by kernel_rfl)
  (go_exit (rt_seq_exit (rt_block_eq (go_reg0
  (pM fun v65 h66 =>
  (pI v65 h66
  (eN
  (by kernel_rfl))))))))
  (go_skip (go_seq (go_seq (go_reg0
  (pI v57 h64
  (pP fun v67 h68 =>
  (eN
  (go_seq (go_reg0
  (pM fun v69 h70 =>
  (pP fun v71 h72 =>
  (pM fun v73 h74 =>
  (eN
  (go_cond (by kernel_rfl)
  (go_reg0
  (pM fun v75 h76 =>
  (pM fun v77 h78 =>
  (pM fun v79 h80 =>
  (pM fun v81 h82 =>
  (pS fun h83 =>
  (eN
  (go_exit (rt_block_ne rfl (rt_seq_exit (by kernel_rfl)))))))))))
  (go_skip (go_exit (rt_block_ne rfl (rt_seq_exit (by kernel_rfl)))))))))))))))))))))))))))))))))))))))
  (go_exit (rt_seq_exit (by kernel_rfl)))))))))
theorem xj86_0 (h : Hp) : runK (xX s 86 wl k false) (bodyK s.P Tryz.f86) xk86_0 (.exit 0) ⟨[t0,t1,t2,t3,t4,t5,t6,t7,t8,t9,ta,tb,tc,td,te,tf,tg,th,ti,tj,tk,tl,tm,tn,tp,tq,tr,ts,tt,tu,tv,tw,tx,ty,tz,tA,tB,tC,tD,tE,tF,tG,tH,tI,tJ,tK,tL,tM,tN,tO,tP,tQ,tR,tS,tT,tU,tV,tW,tX],h⟩ =
  bm (vLoad s.P 26 t8 h) h fun v84 h85 =>
  bm (vLoad s.P 30 t5 h85) h85 fun v86 h87 =>
  bs (vStore s.P wl 30 t7 v86 h87) fun h88 =>
  resO [some v84,vLoad s.P 30 t7 h88] h88 :=
  (rt_block_eq (go_seq (go_reg1 xo86_14r
  (qM xo86_14 xo86_14a fun v84 h85 =>
  (qM xo86_14 xo86_14a fun v86 h87 =>
  (qI xo86_14 xo86_14a v84 h87
  (qS xo86_14 xo86_14a fun h88 =>
  (go_end1 xo86_14 (by kernel_rfl) xo86_14a
  (go_ret (rt_scope_ret (by kernel_rfl)))))))))))
theorem xk86_0_ret (cx : Cx) (K : Out → St → Option (V × Hp)) (s : St) : runK cx K xk86_0 .ret s = K .ret s := by kernel_rfl
-- names: xb86,xz86,xr86_0,xj86_0,xk86_0_ret

theorem xb114 (h : Hp) : bodyV (xX s 114 wl k false) Tryz.f114 [t0,t1,t2] h =
  bm (vLoad s.P 26 t0 h) h fun v1 h2 =>
  bm (vLoad s.P 3 t1 h2) h2 fun v3 h4 =>
  bp (callV (xX s 114 wl k false) false true (.fn (.func 13) [] []) [v1,v3] h4) fun v5 h6 =>
  bm (vFieldAddr s.P 30 t2 5) h6 fun v7 h8 =>
  bs (vStore s.P wl 28 v7 v5 h8) fun h9 =>
  some (.tup [],h9) :=
  bodyV_run rfl (go_reg0
  (pM fun v1 h2 =>
  (pM fun v3 h4 =>
  (pP fun v5 h6 =>
  (pM fun v7 h8 =>
  (pS fun h9 =>
  (eN
  (by kernel_rfl))))))))
theorem xe114 (k wl : Nat) (h : Hp) : evF Tryz.prog xM (k + 1) wl 114 [t0,t1,t2] h = bodyV (xX (xS k) 114 wl k false) Tryz.f114 [t0,t1,t2] h := by kernel_rfl
-- names: xb114,

theorem xb115 (h : Hp) : bodyV (xX s 115 wl k false) Tryz.f115 [t0,t1,t2] h =
  bm (vLoad s.P 26 t0 h) h fun v1 h2 =>
  bm (vLoad s.P 3 t1 h2) h2 fun v3 h4 =>
  bp (callV (xX s 115 wl k false) false true (.fn (.func 13) [] []) [v1,v3] h4) fun v5 h6 =>
  bm (vFieldAddr s.P 30 t2 4) h6 fun v7 h8 =>
  bs (vStore s.P wl 28 v7 v5 h8) fun h9 =>
  bm (vFieldAddr s.P 30 t2 4) h9 fun v10 h11 =>
  bm (vLoad s.P 28 v10 h11) h11 fun v12 h13 =>
  bm (vFieldAddr s.P 30 t2 5) h13 fun v14 h15 =>
  bm (vLoad s.P 28 v14 h15) h15 fun v16 h17 =>
  bp (callV (xX s 115 wl k false) false true (.fn (.func 53) [] []) [v12,v16] h17) fun v18 h19 =>
  bm (vBin s.P .leq 3 v18 (V.lit (Value.int .i64 0))) h19 fun v20 h21 =>
  cnd v20 (
  bm (vLoad s.P 30 t2 h21) h21 fun v22 h23 =>
  bp (callV (xX s 115 wl k false) false true (.fn (.func 104) [] []) [v22,(V.lit (Value.int .i64 3)),(V.lit (Value.int .u64 0))] h23) fun v24 h25 =>
  bs (vStore s.P wl 30 t2 v24 h25) fun h26 =>
  some (.tup [],h26)) (
  some (.tup [],h21)) :=
  bodyV_run rfl (go_seq (go_reg0
  (pM fun v1 h2 =>
  (pM fun v3 h4 =>
  (pP fun v5 h6 =>
  (pM fun v7 h8 =>
  (pS fun h9 =>
  (eN
  (go_seq (go_reg0
  (pM fun v10 h11 =>
  (pM fun v12 h13 =>
  (pM fun v14 h15 =>
  (pM fun v16 h17 =>
  (pP fun v18 h19 =>
  (pM fun v20 h21 =>
  (eN
  (go_cond (by kernel_rfl)
  (go_reg0
  (pM fun v22 h23 =>
  (pP fun v24 h25 =>
  (pS fun h26 =>
  (eN
  (by kernel_rfl))))))
  (go_skip (by kernel_rfl))))))))))))))))))))
theorem xe115 (k wl : Nat) (h : Hp) : evF Tryz.prog xM (k + 1) wl 115 [t0,t1,t2] h = bodyV (xX (xS k) 115 wl k false) Tryz.f115 [t0,t1,t2] h := by kernel_rfl
-- names: xb115,
noncomputable def xg116_0 : Code := codeAt (bodyOf Tryz.f116) []
theorem xo116_0 : orderIx (opsOf xg116_0) = [0,1,2,3,4,5,6,7,8,9] := by kernel_rfl
theorem xo116_0a : (rgOf (opsOf xg116_0)).any = false := by kernel_rfl
theorem xo116_0r : regOk (opsOf xg116_0) = true := by kernel_rfl
theorem xb116 (h : Hp) : bodyV (xX s 116 wl k false) Tryz.f116 [t0,t1,t2] h =
  stO h.length t0 (
  bm (vLoad s.P 26 t0 h) h fun v1 h2 =>
  bm (vLoad s.P 23 t1 h2) h2 fun v3 h4 =>
  bm (vFieldAddr s.P 30 t2 2) h4 fun v5 h6 =>
  bm (vLoad s.P 3 v5 h6) h6 fun v7 h8 =>
  bm (vFieldAddr s.P 30 t2 5) h8 fun v9 h10 =>
  bm (vLoad s.P 28 v9 h10) h10 fun v11 h12 =>
  bp (callV (xX s 116 wl k false) true true (.fn (.func 113) [] []) [v3,v7,v11] h12) fun v13 h14 =>
  bp (callV (xX s 116 wl k false) false true (.fn (.func 13) [] []) [v1,v13] h14) fun v15 h16 =>
  bm (vFieldAddr s.P 30 t2 3) h16 fun v17 h18 =>
  bs (vStore s.P wl 28 v17 v15 h18) fun h19 =>
  some (.tup [],h19)) :=
  bodyV_run rfl (go_reg1 xo116_0r
  (go_op1 xo116_0 xo116_0a rfl rfl rfl (st_yes (by kernel_rfl) (st_bm (by kernel_rfl) fun v1 h2 =>
  (qM xo116_0 xo116_0a fun v3 h4 =>
  (qM xo116_0 xo116_0a fun v5 h6 =>
  (qM xo116_0 xo116_0a fun v7 h8 =>
  (qM xo116_0 xo116_0a fun v9 h10 =>
  (qM xo116_0 xo116_0a fun v11 h12 =>
  (qP xo116_0 xo116_0a fun v13 h14 =>
  (qP xo116_0 xo116_0a fun v15 h16 =>
  (qM xo116_0 xo116_0a fun v17 h18 =>
  (qS xo116_0 xo116_0a fun h19 =>
  (go_end1 xo116_0 (by kernel_rfl) xo116_0a
  (by kernel_rfl)))))))))))))))
theorem xe116 (k wl : Nat) (h : Hp) : evF Tryz.prog xM (k + 1) wl 116 [t0,t1,t2] h = bodyV (xX (xS k) 116 wl k false) Tryz.f116 [t0,t1,t2] h := by kernel_rfl
-- names: xb116,

theorem xb117 (h : Hp) : bodyV (xX s 117 wl k false) Tryz.f117 [t0,t1,t2] h =
  bm (vLoad s.P 26 t0 h) h fun v1 h2 =>
  bm (vLoad s.P 3 t1 h2) h2 fun v3 h4 =>
  bm (vFieldAddr s.P 30 t2 5) h4 fun v5 h6 =>
  bm (vLoad s.P 28 v5 h6) h6 fun v7 h8 =>
  bm (vFieldAddr s.P 30 t2 5) h8 fun v9 h10 =>
  bm (vLoad s.P 28 v9 h10) h10 fun v11 h12 =>
  bm (vBin s.P .add 28 v11 (V.lit (Value.int .u64 1))) h12 fun v13 h14 =>
  bp (callV (xX s 117 wl k false) false true (.fn (.func 102) [] []) [v1,v3,v7,v13] h14) fun v15 h16 =>
  bm (vExtract v15 0) h16 fun v17 h18 =>
  bm (vExtract v15 1) h18 fun v19 h20 =>
  bs (vStore s.P wl 26 t0 v17 h20) fun h21 =>
  cnd v19 (
  bm (vLoad s.P 30 t2 h21) h21 fun v22 h23 =>
  bm (vFieldAddr s.P 30 t2 3) h23 fun v24 h25 =>
  bm (vLoad s.P 28 v24 h25) h25 fun v26 h27 =>
  bp (callV (xX s 117 wl k false) false true (.fn (.func 104) [] []) [v22,(V.lit (Value.int .i64 1)),v26] h27) fun v28 h29 =>
  bs (vStore s.P wl 30 t2 v28 h29) fun h30 =>
  some (.tup [],h30)) (
  bm (vLoad s.P 30 t2 h21) h21 fun v31 h32 =>
  bp (callV (xX s 117 wl k false) false true (.fn (.func 104) [] []) [v31,(V.lit (Value.int .i64 4)),(V.lit (Value.int .u64 0))] h32) fun v33 h34 =>
  bs (vStore s.P wl 30 t2 v33 h34) fun h35 =>
  some (.tup [],h35)) :=
  bodyV_run rfl (go_seq (go_reg0
  (go_op0 rfl rfl (st_id (v := (V.lit (Value.bool false))) (H := h) (by kernel_rfl)
  (eN
  (go_seq (go_reg0
  (pM fun v1 h2 =>
  (pM fun v3 h4 =>
  (pM fun v5 h6 =>
  (pM fun v7 h8 =>
  (pM fun v9 h10 =>
  (pM fun v11 h12 =>
  (pM fun v13 h14 =>
  (pP fun v15 h16 =>
  (pI v15 h16
  (pM fun v17 h18 =>
  (pM fun v19 h20 =>
  (pS fun h21 =>
  (pI v19 h21
  (eN
  (go_seq (go_reg0
  (pI v19 h21
  (eN
  (go_cond (by kernel_rfl)
  (go_reg0
  (pM fun v22 h23 =>
  (pM fun v24 h25 =>
  (pM fun v26 h27 =>
  (pP fun v28 h29 =>
  (pS fun h30 =>
  (eN
  (by kernel_rfl))))))))
  (go_reg0
  (pM fun v31 h32 =>
  (pP fun v33 h34 =>
  (pS fun h35 =>
  (eN
  (by kernel_rfl))))))))))))))))))))))))))))))))
theorem xe117 (k wl : Nat) (h : Hp) : evF Tryz.prog xM (k + 1) wl 117 [t0,t1,t2] h = bodyV (xX (xS k) 117 wl k false) Tryz.f117 [t0,t1,t2] h := by kernel_rfl
-- names: xb117,
noncomputable def xg70_0 : Code := codeAt (bodyOf Tryz.f70) [1,1,0]
theorem xo70_8 : orderIx (opsOf xg70_0) = [0,1,2,3,4] := by kernel_rfl
theorem xo70_8a : (rgOf (opsOf xg70_0)).any = false := by kernel_rfl
theorem xo70_8r : regOk (opsOf xg70_0) = true := by kernel_rfl
theorem xb70 (h : Hp) : bodyV (xX s 70 wl k false) Tryz.f70 [t0,t1,t2] h =
  bp (opBox t0 h) fun v1 h2 =>
  bp (opBox t2 h2) fun v3 h4 =>
  bp (some (.own h4.length 0 0,h4 ++ [.rows 0 [] 0 true])) fun v5 h6 =>
  bp (opAlloc s.P 30 h6) fun v7 h8 =>
  bm (vFieldAddr s.P 30 v3 0) h8 fun v9 h10 =>
  bm (vLoad s.P 3 v9 h10) h10 fun v11 h12 =>
  bm (vBin s.P .eql 3 v11 (V.lit (Value.int .i64 0))) h12 fun v13 h14 =>
  cnd v13 (
  bm (vLoad s.P 23 v1 h14) h14 fun v15 h16 =>
  bm (vLoad s.P 30 v3 h16) h16 fun v17 h18 =>
  bp (callV (xX s 70 wl k false) false true (.fn (.func 84) [] []) [v15,t1,v17] h18) fun v19 h20 =>
  bm (vExtract v19 0) h20 fun v21 h22 =>
  bm (vExtract v19 1) h22 fun v23 h24 =>
  bs (vStore s.P wl 30 v7 v23 h24) fun h25 =>
  resO [some v21,vLoad s.P 30 v7 h25] h25) (
  bm (vBin s.P .eql 3 v11 (V.lit (Value.int .i64 1))) h14 fun v26 h27 =>
  cnd v26 (
  bm (vLoad s.P 23 v1 h27) h27 fun v28 h29 =>
  bm (vLoad s.P 30 v3 h29) h29 fun v30 h31 =>
  bp (callV (xX s 70 wl k false) false true (.fn (.func 85) [] []) [v28,t1,v30] h31) fun v32 h33 =>
  bm (vExtract v32 0) h33 fun v34 h35 =>
  bm (vExtract v32 1) h35 fun v36 h37 =>
  bs (vStore s.P wl 30 v7 v36 h37) fun h38 =>
  resO [some v34,vLoad s.P 30 v7 h38] h38) (
  bm (vBin s.P .eql 3 v11 (V.lit (Value.int .i64 2))) h27 fun v39 h40 =>
  cnd v39 (
  bm (vLoad s.P 23 v1 h40) h40 fun v41 h42 =>
  bm (vLoad s.P 30 v3 h42) h42 fun v43 h44 =>
  bp (callV (xX s 70 wl k false) false true (.fn (.func 86) [] []) [v41,t1,v43] h44) fun v45 h46 =>
  bm (vExtract v45 0) h46 fun v47 h48 =>
  bm (vExtract v45 1) h48 fun v49 h50 =>
  bs (vStore s.P wl 30 v7 v49 h50) fun h51 =>
  resO [some v47,vLoad s.P 30 v7 h51] h51) (
  bp (callV (xX s 70 wl k false) true true (.fn (.func 20) [] []) [t1] h40) fun v52 h53 =>
  stO h40.length v3 (
  bm (vLoad s.P 30 v3 h53) h53 fun v54 h55 =>
  bs (vStore s.P wl 30 v7 v54 h55) fun h56 =>
  resO [some v52,vLoad s.P 30 v7 h56] h56)))) :=
  bodyV_run rfl (go_seq (go_reg0
  (pP fun v1 h2 =>
  (pP fun v3 h4 =>
  (pP fun v5 h6 =>
  (pP fun v7 h8 =>
  (eN
  (go_seq (go_seq (go_reg0
  (pM fun v9 h10 =>
  (pM fun v11 h12 =>
  (eN
  (go_block (go_seq (go_reg0
  (pM fun v13 h14 =>
  (pI v13 h14
  (eN
  (go_cond (by kernel_rfl)
  (go_seq (go_reg0
  (pM fun v15 h16 =>
  (pI t1 h16
  (pM fun v17 h18 =>
  (pP fun v19 h20 =>
  (pM fun v21 h22 =>
  (pM fun v23 h24 =>
  (pI v21 h24
  (pS fun h25 =>
  (eN
  (go_ret (rt_block_ret (rt_seq_ret (by kernel_rfl)))))))))))))))
  (go_seq (go_reg0
  (pM fun v26 h27 =>
  (pI v26 h27
  (eN
  (go_cond (by kernel_rfl)
  (go_seq (go_reg0
  (pM fun v28 h29 =>
  (pI t1 h29
  (pM fun v30 h31 =>
  (pP fun v32 h33 =>
  (pM fun v34 h35 =>
  (pM fun v36 h37 =>
  (pI v34 h37
  (pS fun h38 =>
  (eN
  (go_ret (rt_block_ret (rt_seq_ret (by kernel_rfl)))))))))))))))
  (go_seq (go_reg0
  (pM fun v39 h40 =>
  (pI v39 h40
  (eN
  (go_cond (by kernel_rfl)
  (go_seq (go_reg0
  (pM fun v41 h42 =>
  (pI t1 h42
  (pM fun v43 h44 =>
  (pP fun v45 h46 =>
  (pM fun v47 h48 =>
  (pM fun v49 h50 =>
  (pI v47 h50
  (pS fun h51 =>
  (eN
  (go_ret (rt_block_ret (rt_seq_ret (by kernel_rfl)))))))))))))))
  (go_skip (rt_block_norm (go_seq (go_reg1 xo70_8r
  (qI xo70_8 xo70_8a t1 h40
  (qP xo70_8 xo70_8a fun v52 h53 =>
  (go_op1 xo70_8 xo70_8a rfl rfl rfl (st_yes (by kernel_rfl) (st_bm (by kernel_rfl) fun v54 h55 =>
  (qI xo70_8 xo70_8a v52 h55
  (qS xo70_8 xo70_8a fun h56 =>
  (go_end1 xo70_8 (by kernel_rfl) xo70_8a
  (go_ret (by kernel_rfl))))))))))))))))))))))))))))))))))))))))))))))
theorem xe70 (k wl : Nat) (h : Hp) : evF Tryz.prog xM (k + 1) wl 70 [t0,t1,t2] h = bodyV (xX (xS k) 70 wl k false) Tryz.f70 [t0,t1,t2] h := by kernel_rfl
-- names: xb70,
end Go.Ab
