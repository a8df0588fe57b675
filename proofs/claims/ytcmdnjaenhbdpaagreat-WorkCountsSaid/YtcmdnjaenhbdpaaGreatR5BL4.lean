/- The program's code,point by point: printed by gen.py. -/
import Derived.Test.YtcmdnjaenhbdpaaGreatR5Seat
import Derived.Test.YtcmdnjaenhbdpaaGreatAbLibC
set_option linter.unusedVariables false
set_option linter.unusedSimpArgs false
set_option maxRecDepth 100000
set_option linter.unusedVariables false
namespace Go.Ab
open Go.Proofs
variable (s : Sys) (k wl : Nat) (m0 : Nat) (ac : List Nat × List Nat) (t0 t1 t2 t3 t4 t5 t6 t7 t8 t9 ta tb tc td te tf tg th ti tj tk tl tm tn tp tq tr ts tt tu tv tw tx ty tz tA tB tC tD tE tF tG tH tI tJ tK tL tM tN tO tP tQ tR tS tT tU tV tW tX tY tZ q0 q1 q2 q3 q4 q5 q6 q7 q8 q9 qa qb qc qd qe qf qg qh qi qj qk ql qm qn qo qp qq qr qs qt qu qv qw qx qy qz qA qB qC qD qE qF qG qH qI qJ qK qL qM qN qO qP qQ qR qS qT qU qV qW qX qY : V)
noncomputable def xg4_0 : Code := codeAt (bodyOf Tryz.f4) [1,1,1,0,0]
noncomputable def xk4_0 : List Fr := [.seq (codeAt (bodyOf Tryz.f4) [1,1,1,0,1]),.seq (codeAt (bodyOf Tryz.f4) [1,1,1,1])]
noncomputable def xk4_1 : List Fr := [.seq (codeAt (bodyOf Tryz.f4) [1,1,1,1,1,1,1])]
noncomputable def xk4_2 : List Fr := [.seq (codeAt (bodyOf Tryz.f4) [1,1,1,1,1,1,1,1])]
noncomputable def xl4_0 : Code := codeAt (bodyOf Tryz.f4) [1,1,1,1,1,1,1,1,1,1,0,1,0,0]
noncomputable def xk4_3 : List Fr := [.block 0,.seq (codeAt (bodyOf Tryz.f4) [1,1,1,1,1,1,1,1,1,1,1])]
noncomputable def xk4_4 : List Fr := [.seq (codeAt (bodyOf Tryz.f4) [1,1,1,1,1,1,1,1,1,1,0,1,0,0,1,0,0,1]),.block 1,.seq (codeAt (bodyOf Tryz.f4) [1,1,1,1,1,1,1,1,1,1,0,1,0,0,1,1])]
noncomputable def xg4_1 : Code := codeAt (bodyOf Tryz.f4) [1,1,1,1,1,1,1,1,1,1,1,0]
noncomputable def xk4_5 : List Fr := [.seq (codeAt (bodyOf Tryz.f4) [1,1,1,1,1,1,1,1,1,1,1,1])]
noncomputable def xk4_6 : List Fr := [.seq (codeAt (bodyOf Tryz.f4) [1,1,1,1,1,1,1,1,1,1,0,1,0,0,1,0,0,1,1]),.block 1,.seq (codeAt (bodyOf Tryz.f4) [1,1,1,1,1,1,1,1,1,1,0,1,0,0,1,1])]
noncomputable def xg4_2 : Code := codeAt (bodyOf Tryz.f4) [1,1,1,1,1,1,1,1,1,1,0,1,0,0,1,0,0,1,1]
noncomputable def xk4_7 : List Fr := [.block 1,.seq (codeAt (bodyOf Tryz.f4) [1,1,1,1,1,1,1,1,1,1,0,1,0,0,1,1])]
theorem xb4 (h : Hp) : bodyV (xX s 4 wl k false) Tryz.f4 [t0,t1,t2,t3,t4,t5] h =
  bp (opBox t0 h) fun v1 h2 =>
  bp (opBox t4 h2) fun v3 h4 =>
  bp (callV (xX s 4 wl k false) false true (.fn (.func 8) [] []) [] h4) fun v5 h6 =>
  bm (vLoad s.P 32 v3 h6) h6 fun v7 h8 =>
  bp (callV (xX s 4 wl k false) false true (.fn (.func 9) [] []) [t1,v7] h8) fun v9 h10 =>
  bm (vUn .not v5) h10 fun v11 h12 =>
  gd v11 (
  opsP (xX s 4 wl k false) xg4_0 5 h10.length ([],[]) (runK (xX s 4 wl k false) (bodyK s.P Tryz.f4) xk4_0) ⟨(t0::t1::t2::t3::t4::t5::v1::uu::uu::uu::v3::uu::(V.lit (Value.bool false))::v5::v9::uu::uu::uu::uu::uu::uu::uu::v5::t1::v7::v9::v5::v11::(V.lit (Value.bool true))::uu::uu::uu::uu::uu::uu::uu::uu::uu::uu::uu::uu::uu::uu::uu::uu::uu::uu::uu::uu::uu::uu::uu::uu::uu::uu::uu::uu::uu::uu::uu::uu::uu::uu::uu::uu::uu::uu::uu::uu::uu::uu::uu::uu::uu::uu::uu::uu::uu::uu::uu::uu::uu::uu::uu::uu::uu::uu::uu::uu::uu::uu::uu::uu::uu::uu::uu::uu::uu::uu::uu::uu::uu::uu::uu::uu::uu::uu::uu::uu::uu::uu::uu::uu::uu::uu::uu::uu::uu::uu::uu::uu::uu::[]),h12⟩) (
  bm (vUn .not v9) h12 fun v13 h14 =>
  opsP (xX s 4 wl k false) xg4_0 5 h10.length ([],[]) (runK (xX s 4 wl k false) (bodyK s.P Tryz.f4) xk4_0) ⟨(t0::t1::t2::t3::t4::t5::v1::uu::uu::uu::v3::uu::(V.lit (Value.bool false))::v5::v9::uu::uu::uu::uu::uu::uu::uu::v5::t1::v7::v9::v5::v11::(V.lit (Value.bool false))::v9::v13::uu::uu::uu::uu::uu::uu::uu::uu::uu::uu::uu::uu::uu::uu::uu::uu::uu::uu::uu::uu::uu::uu::uu::uu::uu::uu::uu::uu::uu::uu::uu::uu::uu::uu::uu::uu::uu::uu::uu::uu::uu::uu::uu::uu::uu::uu::uu::uu::uu::uu::uu::uu::uu::uu::uu::uu::uu::uu::uu::uu::uu::uu::uu::uu::uu::uu::uu::uu::uu::uu::uu::uu::uu::uu::uu::uu::uu::uu::uu::uu::uu::uu::uu::uu::uu::uu::uu::uu::uu::uu::uu::[]),h14⟩) (
  opsP (xX s 4 wl k false) xg4_0 4 h10.length ([],[]) (runK (xX s 4 wl k false) (bodyK s.P Tryz.f4) xk4_0) ⟨(t0::t1::t2::t3::t4::t5::v1::uu::uu::uu::v3::uu::(V.lit (Value.bool false))::v5::v9::uu::uu::uu::uu::uu::uu::uu::v5::t1::v7::v9::v5::v11::v11::uu::uu::uu::uu::uu::uu::uu::uu::uu::uu::uu::uu::uu::uu::uu::uu::uu::uu::uu::uu::uu::uu::uu::uu::uu::uu::uu::uu::uu::uu::uu::uu::uu::uu::uu::uu::uu::uu::uu::uu::uu::uu::uu::uu::uu::uu::uu::uu::uu::uu::uu::uu::uu::uu::uu::uu::uu::uu::uu::uu::uu::uu::uu::uu::uu::uu::uu::uu::uu::uu::uu::uu::uu::uu::uu::uu::uu::uu::uu::uu::uu::uu::uu::uu::uu::uu::uu::uu::uu::uu::uu::uu::uu::[]),h12⟩) :=
  bodyV_run rfl (go_seq (go_reg0
  (pP fun v1 h2 =>
  (pP fun v3 h4 =>
  (go_op0 rfl rfl (st_id (v := (V.lit (Value.bool false))) (H := h4) (by kernel_rfl)
  (eN
  (go_seq (go_reg0
  (pP fun v5 h6 =>
  (pI v5 h6
  (eN
  (go_seq (go_reg0
  (pI t1 h6
  (pM fun v7 h8 =>
  (pP fun v9 h10 =>
  (pI v9 h10
  (eN
  (go_seq (go_seq (go_reg0
  (pI v5 h10
  (pM fun v11 h12 =>
  (pI v11 h12
  (go_gdF0 rfl rfl rfl (by kernel_rfl)
  (sK
  (by kernel_rfl))
  (st_id (v := v9) (H := h12) (by kernel_rfl)
  (rN (st_bm (by kernel_rfl) fun v13 h14 =>
  (by kernel_rfl))))
  (by kernel_rfl)))))))))))))))))))))))))))
theorem xe4 (k wl : Nat) (h : Hp) : evF Tryz.prog xM (k + 1) wl 4 [t0,t1,t2,t3,t4,t5] h = bodyV (xX (xS k) 4 wl k false) Tryz.f4 [t0,t1,t2,t3,t4,t5] h := by kernel_rfl
theorem xz4 (P : Program) (h : Hp) : bodyK P Tryz.f4 .ret ⟨(t0::t1::t2::t3::t4::t5::t6::t7::t8::t9::ta::tb::tc::td::te::tf::tg::th::ti::tj::tk::tl::tm::tn::tp::tq::tr::ts::tt::tu::tv::tw::tx::ty::tz::tA::tB::tC::tD::tE::tF::tG::tH::tI::tJ::tK::tL::tM::tN::tO::tP::tQ::tR::tS::tT::tU::tV::tW::tX::tY::tZ::q0::q1::q2::q3::q4::q5::q6::q7::q8::q9::qa::qb::qc::qd::qe::qf::qg::qh::qi::qj::qk::ql::qm::qn::qo::qp::qq::qr::qs::qt::qu::qv::qw::qx::qy::qz::qA::qB::qC::qD::qE::qF::qG::qH::qI::qJ::qK::qL::qM::qN::qO::qP::qQ::qR::qS::qT::qU::qV::qW::qX::qY::[]),h⟩ = some (tc,h) := by kernel_rfl
theorem xm4_0 (zz : List V) (h : Hp) : opsP (xX s 4 wl k false) xg4_0 5 m0 ac (runK (xX s 4 wl k false) (bodyK s.P Tryz.f4) xk4_0) ⟨(t0::t1::t2::t3::t4::t5::t6::t7::t8::t9::ta::tb::tc::td::te::tf::tg::th::ti::tj::tk::tl::tm::tn::tp::tq::tr::ts::tt::tu::tv::tw::tx::ty::tz::tA::zz),h⟩ =
  bm (vPick tt (V.lit (Value.bool true)) tv) h fun v15 h16 =>
  gd v15 (
  opsP (xX s 4 wl k false) xg4_0 10 m0 ac (runK (xX s 4 wl k false) (bodyK s.P Tryz.f4) xk4_0) ⟨(t0::t1::t2::t3::t4::t5::t6::t7::t8::t9::ta::tb::tc::td::te::tf::tg::th::ti::tj::tk::tl::tm::tn::tp::tq::tr::ts::tt::tu::tv::v15::(V.lit (Value.bool true))::uu::uu::uu::zz),h16⟩) (
  bp (opLen s.P 26 t2 h16) fun v17 h18 =>
  bm (vBin s.P .gtr 3 v17 (V.lit (Value.int .i64 500))) h18 fun v19 h20 =>
  opsP (xX s 4 wl k false) xg4_0 10 m0 ac (runK (xX s 4 wl k false) (bodyK s.P Tryz.f4) xk4_0) ⟨(t0::t1::t2::t3::t4::t5::t6::t7::t8::t9::ta::tb::tc::td::te::tf::tg::th::ti::tj::tk::tl::tm::tn::tp::tq::tr::ts::tt::tu::tv::v15::(V.lit (Value.bool false))::t2::v17::v19::zz),h20⟩) (
  opsP (xX s 4 wl k false) xg4_0 8 m0 ac (runK (xX s 4 wl k false) (bodyK s.P Tryz.f4) xk4_0) ⟨(t0::t1::t2::t3::t4::t5::t6::t7::t8::t9::ta::tb::tc::td::te::tf::tg::th::ti::tj::tk::tl::tm::tn::tp::tq::tr::ts::tt::tu::tv::v15::v15::uu::tz::tA::zz),h16⟩) :=
  (pM fun v15 h16 =>
  (pI v15 h16
  (go_gdF0 rfl rfl rfl (by kernel_rfl)
  (sK
  (sK
  (by kernel_rfl)))
  (st_id (v := t2) (H := h16) (by kernel_rfl)
  (rN (st_bp (by kernel_rfl) fun v17 h18 =>
  (rN (st_bm (by kernel_rfl) fun v19 h20 =>
  (by kernel_rfl))))))
  (by kernel_rfl))))
theorem xm4_1 (zz : List V) (h : Hp) : opsP (xX s 4 wl k false) xg4_0 10 m0 ac (runK (xX s 4 wl k false) (bodyK s.P Tryz.f4) xk4_0) ⟨(t0::t1::t2::t3::t4::t5::t6::t7::t8::t9::ta::tb::tc::td::te::tf::tg::th::ti::tj::tk::tl::tm::tn::tp::tq::tr::ts::tt::tu::tv::tw::tx::ty::tz::tA::tB::tC::tD::tE::tF::tG::tH::tI::tJ::zz),h⟩ =
  bm (vPick tx (V.lit (Value.bool true)) tA) h fun v21 h22 =>
  gd v21 (
  opsP (xX s 4 wl k false) xg4_0 19 m0 ac (runK (xX s 4 wl k false) (bodyK s.P Tryz.f4) xk4_0) ⟨(t0::t1::t2::t3::t4::t5::t6::t7::t8::t9::ta::tb::tc::td::te::tf::tg::th::ti::tj::tk::tl::tm::tn::tp::tq::tr::ts::tt::tu::tv::tw::tx::ty::tz::tA::v21::(V.lit (Value.bool true))::uu::uu::uu::uu::uu::uu::uu::zz),h22⟩) (
  bm (vLoad s.P 23 t6 h22) h22 fun v23 h24 =>
  bm (vLoad s.P 32 ta h24) h24 fun v25 h26 =>
  bp (callV (xX s 4 wl k false) false true (.fn (.func 11) [] []) [v23,t1,t2,t3,v25] h26) fun v27 h28 =>
  bm (vUn .not v27) h28 fun v29 h30 =>
  opsP (xX s 4 wl k false) xg4_0 19 m0 ac (runK (xX s 4 wl k false) (bodyK s.P Tryz.f4) xk4_0) ⟨(t0::t1::t2::t3::t4::t5::t6::t7::t8::t9::ta::tb::tc::td::te::tf::tg::th::ti::tj::tk::tl::tm::tn::tp::tq::tr::ts::tt::tu::tv::tw::tx::ty::tz::tA::v21::(V.lit (Value.bool false))::v23::t1::t2::t3::v25::v27::v29::zz),h30⟩) (
  opsP (xX s 4 wl k false) xg4_0 13 m0 ac (runK (xX s 4 wl k false) (bodyK s.P Tryz.f4) xk4_0) ⟨(t0::t1::t2::t3::t4::t5::t6::t7::t8::t9::ta::tb::tc::td::te::tf::tg::th::ti::tj::tk::tl::tm::tn::tp::tq::tr::ts::tt::tu::tv::tw::tx::ty::tz::tA::v21::v21::uu::tE::tF::tG::tH::tI::tJ::zz),h22⟩) :=
  (pM fun v21 h22 =>
  (pI v21 h22
  (go_gdF0 rfl rfl rfl (by kernel_rfl)
  (sK
  (sK
  (sK
  (sK
  (sK
  (sK
  (by kernel_rfl)))))))
  (st_bm (by kernel_rfl) fun v23 h24 =>
  (rN (st_id (v := t1) (H := h24) (by kernel_rfl)
  (rN (st_id (v := t2) (H := h24) (by kernel_rfl)
  (rN (st_id (v := t3) (H := h24) (by kernel_rfl)
  (rN (st_bm (by kernel_rfl) fun v25 h26 =>
  (rN (st_bp (by kernel_rfl) fun v27 h28 =>
  (rN (st_bm (by kernel_rfl) fun v29 h30 =>
  (by kernel_rfl))))))))))))))
  (by kernel_rfl))))
theorem xm4_2 (zz : List V) (h : Hp) : opsP (xX s 4 wl k false) xg4_0 19 m0 ac (runK (xX s 4 wl k false) (bodyK s.P Tryz.f4) xk4_0) ⟨(t0::t1::t2::t3::t4::t5::t6::t7::t8::t9::ta::tb::tc::td::te::tf::tg::th::ti::tj::tk::tl::tm::tn::tp::tq::tr::ts::tt::tu::tv::tw::tx::ty::tz::tA::tB::tC::tD::tE::tF::tG::tH::tI::tJ::tK::tL::tM::tN::tO::tP::tQ::tR::tS::tT::tU::tV::tW::tX::tY::tZ::q0::q1::q2::zz),h⟩ =
  bm (vPick tC (V.lit (Value.bool true)) tJ) h fun v31 h32 =>
  cnd v31 (
  some (td,h32)) (
  bm (vLoad s.P 23 t6 h32) h32 fun v33 h34 =>
  bm (vLoad s.P 32 ta h34) h34 fun v35 h36 =>
  bp (callV (xX s 4 wl k false) false true (.fn (.func 10) [] []) [v33,t1,t2,t3,v35,t5] h36) fun v37 h38 =>
  bm (vExtract v37 0) h38 fun v39 h40 =>
  bm (vExtract v37 1) h40 fun v41 h42 =>
  bm (vExtract v37 2) h42 fun v43 h44 =>
  bp (opAlloc s.P 32 h44) fun v45 h46 =>
  bs (vStore s.P wl 32 v45 v41 h46) fun h47 =>
  bp (callV (xX s 4 wl k false) false true (.fn (.func 13) [] []) [t2,(V.lit (Value.int .i64 1))] h47) fun v48 h49 =>
  bm (vLoad s.P 32 v45 h49) h49 fun v50 h51 =>
  bp (callV (xX s 4 wl k false) false true (.fn (.func 14) [] []) [v50] h51) fun v52 h53 =>
  cnd v52 (
  bm (vBin s.P .add 28 v48 (V.lit (Value.int .u64 1))) h53 fun v54 h55 =>
  runK (xX s 4 wl k false) (bodyK s.P Tryz.f4) xk4_1 .norm ⟨(t0::t1::t2::t3::t4::t5::t6::t7::t8::t9::ta::tb::tc::td::te::v39::v45::v43::v54::tj::tk::tl::tm::tn::tp::tq::tr::ts::tt::tu::tv::tw::tx::ty::tz::tA::tB::tC::tD::tE::tF::tG::tH::tI::tJ::v31::tL::v37::v33::t1::t2::t3::v35::t5::v37::v39::v41::v43::t2::v48::v50::v52::v48::v54::zz),h55⟩) (
  runK (xX s 4 wl k false) (bodyK s.P Tryz.f4) xk4_1 .norm ⟨(t0::t1::t2::t3::t4::t5::t6::t7::t8::t9::ta::tb::tc::td::te::v39::v45::v43::v48::tj::tk::tl::tm::tn::tp::tq::tr::ts::tt::tu::tv::tw::tx::ty::tz::tA::tB::tC::tD::tE::tF::tG::tH::tI::tJ::v31::tL::v37::v33::t1::t2::t3::v35::t5::v37::v39::v41::v43::t2::v48::v50::v52::q1::q2::zz),h53⟩)) :=
  (pM fun v31 h32 =>
  (eN
  (go_cond (by kernel_rfl)
  (go_seq (go_reg0
  (pI td h32
  (pI td h32
  (eN
  (go_ret (rt_seq_ret (by kernel_rfl))))))))
  (go_skip (go_seq (go_reg0
  (pM fun v33 h34 =>
  (pI t1 h34
  (pI t2 h34
  (pI t3 h34
  (pM fun v35 h36 =>
  (pI t5 h36
  (pP fun v37 h38 =>
  (pI v37 h38
  (pM fun v39 h40 =>
  (pM fun v41 h42 =>
  (pM fun v43 h44 =>
  (pP fun v45 h46 =>
  (pI v39 h46
  (pS fun h47 =>
  (pI v43 h47
  (eN
  (go_seq (go_reg0
  (pI t2 h47
  (pP fun v48 h49 =>
  (pI v48 h49
  (eN
  (go_seq (go_seq (go_reg0
  (pM fun v50 h51 =>
  (pP fun v52 h53 =>
  (eN
  (go_cond (by kernel_rfl)
  (go_reg0
  (pI v48 h53
  (pM fun v54 h55 =>
  (pI v54 h55
  (eN
  (by kernel_rfl))))))
  (go_skip (by kernel_rfl)))))))))))))))))))))))))))))))))))))
theorem xj4_3 (s : Sys) (k wl : Nat) (zz : List V) (h : Hp) : runK (xX s 4 wl k false) (bodyK s.P Tryz.f4) xk4_1 .norm ⟨(t0::t1::t2::t3::t4::t5::t6::t7::t8::t9::ta::tb::tc::td::te::tf::tg::th::ti::tj::tk::tl::tm::tn::tp::tq::tr::ts::tt::tu::tv::tw::tx::ty::tz::tA::tB::tC::tD::tE::tF::tG::tH::tI::tJ::tK::tL::tM::tN::tO::tP::tQ::tR::tS::tT::tU::tV::tW::tX::tY::tZ::q0::q1::q2::q3::q4::q5::q6::zz),h⟩ =
  bm (vLoad s.P 32 ta h) h fun v56 h57 =>
  bp (callV (xX s 4 wl k false) false true (.fn (.func 14) [] []) [v56] h57) fun v58 h59 =>
  cnd v58 (
  bm (vBin s.P .sub 28 ti (V.lit (Value.int .u64 1))) h59 fun v60 h61 =>
  runK (xX s 4 wl k false) (bodyK s.P Tryz.f4) xk4_2 .norm ⟨(t0::t1::t2::t3::t4::t5::t6::t7::t8::t9::ta::tb::tc::td::te::tf::tg::th::v60::tj::tk::tl::tm::tn::tp::tq::tr::ts::tt::tu::tv::tw::tx::ty::tz::tA::tB::tC::tD::tE::tF::tG::tH::tI::tJ::tK::tL::tM::tN::tO::tP::tQ::tR::tS::tT::tU::tV::tW::tX::tY::tZ::q0::q1::q2::v56::v58::ti::v60::zz),h61⟩) (
  runK (xX s 4 wl k false) (bodyK s.P Tryz.f4) xk4_2 .norm ⟨(t0::t1::t2::t3::t4::t5::t6::t7::t8::t9::ta::tb::tc::td::te::tf::tg::th::ti::tj::tk::tl::tm::tn::tp::tq::tr::ts::tt::tu::tv::tw::tx::ty::tz::tA::tB::tC::tD::tE::tF::tG::tH::tI::tJ::tK::tL::tM::tN::tO::tP::tQ::tR::tS::tT::tU::tV::tW::tX::tY::tZ::q0::q1::q2::v56::v58::q5::q6::zz),h59⟩) :=
  (go_seq (go_seq (go_reg0
  (pM fun v56 h57 =>
  (pP fun v58 h59 =>
  (eN
  (go_cond (by kernel_rfl)
  (go_reg0
  (pI ti h59
  (pM fun v60 h61 =>
  (pI v60 h61
  (eN
  (by kernel_rfl))))))
  (go_skip (by kernel_rfl)))))))))
theorem xj4_4 (h : Hp) : runK (xX s 4 wl k false) (bodyK s.P Tryz.f4) xk4_2 .norm ⟨(t0::t1::t2::t3::t4::t5::t6::t7::t8::t9::ta::tb::tc::td::te::tf::tg::th::ti::tj::tk::tl::tm::tn::tp::tq::tr::ts::tt::tu::tv::tw::tx::ty::tz::tA::tB::tC::tD::tE::tF::tG::tH::tI::tJ::tK::tL::tM::tN::tO::tP::tQ::tR::tS::tT::tU::tV::tW::tX::tY::tZ::q0::q1::q2::q3::q4::q5::q6::q7::q8::q9::qa::qb::qc::qd::qe::qf::qg::qh::qi::qj::qk::ql::qm::qn::qo::qp::qq::qr::qs::qt::qu::qv::qw::qx::qy::qz::qA::qB::qC::qD::qE::qF::qG::qH::qI::qJ::qK::qL::qM::qN::qO::qP::qQ::qR::qS::qT::qU::qV::qW::qX::qY::[]),h⟩ =
  bp (callV (xX s 4 wl k false) false true (.fn (.func 13) [] []) [t2,(V.lit (Value.int .i64 0))] h) fun v62 h63 =>
  itX (xX s 4 wl k false) xl4_0 h63.length (runK (xX s 4 wl k false) (bodyK s.P Tryz.f4) xk4_3) k ⟨((V.kill h63.length t0)::(V.kill h63.length t1)::(V.kill h63.length t2)::(V.kill h63.length t3)::(V.kill h63.length t4)::(V.kill h63.length t5)::(V.kill h63.length t6)::(V.kill h63.length t7)::(V.kill h63.length t8)::(V.kill h63.length t9)::(V.kill h63.length ta)::(V.kill h63.length tb)::(V.kill h63.length tc)::(V.kill h63.length td)::(V.kill h63.length te)::(V.kill h63.length tf)::(V.kill h63.length tg)::(V.kill h63.length th)::(V.kill h63.length ti)::(V.kill h63.length v62)::(V.lit (Value.bool false))::(V.lit (Value.int .i64 0))::(V.kill h63.length tm)::(V.kill h63.length tn)::(V.kill h63.length tp)::(V.kill h63.length tq)::(V.kill h63.length tr)::(V.kill h63.length ts)::(V.kill h63.length tt)::(V.kill h63.length tu)::(V.kill h63.length tv)::(V.kill h63.length tw)::(V.kill h63.length tx)::(V.kill h63.length ty)::(V.kill h63.length tz)::(V.kill h63.length tA)::(V.kill h63.length tB)::(V.kill h63.length tC)::(V.kill h63.length tD)::(V.kill h63.length tE)::(V.kill h63.length tF)::(V.kill h63.length tG)::(V.kill h63.length tH)::(V.kill h63.length tI)::(V.kill h63.length tJ)::(V.kill h63.length tK)::(V.kill h63.length tL)::(V.kill h63.length tM)::(V.kill h63.length tN)::(V.kill h63.length tO)::(V.kill h63.length tP)::(V.kill h63.length tQ)::(V.kill h63.length tR)::(V.kill h63.length tS)::(V.kill h63.length tT)::(V.kill h63.length tU)::(V.kill h63.length tV)::(V.kill h63.length tW)::(V.kill h63.length tX)::(V.kill h63.length tY)::(V.kill h63.length tZ)::(V.kill h63.length q0)::(V.kill h63.length q1)::(V.kill h63.length q2)::(V.kill h63.length q3)::(V.kill h63.length q4)::(V.kill h63.length q5)::(V.kill h63.length q6)::(V.kill h63.length t2)::(V.kill h63.length v62)::.junk::.junk::.junk::.junk::.junk::.junk::.junk::.junk::.junk::.junk::.junk::.junk::.junk::.junk::.junk::.junk::.junk::.junk::.junk::.junk::.junk::.junk::.junk::.junk::.junk::.junk::.junk::.junk::.junk::.junk::.junk::(V.kill h63.length qE)::(V.kill h63.length qF)::(V.kill h63.length qG)::(V.kill h63.length qH)::(V.kill h63.length qI)::(V.kill h63.length qJ)::(V.kill h63.length qK)::(V.kill h63.length qL)::(V.kill h63.length qM)::(V.kill h63.length qN)::(V.kill h63.length qO)::(V.kill h63.length qP)::(V.kill h63.length qQ)::(V.kill h63.length qR)::(V.kill h63.length qS)::(V.kill h63.length qT)::(V.kill h63.length qU)::(V.kill h63.length qV)::(V.kill h63.length qW)::(V.kill h63.length qX)::(V.kill h63.length qY)::[]),cutH h63.length h63⟩ :=
  (go_seq (go_reg0
  (pI t2 h
  (pP fun v62 h63 =>
  (pI v62 h63
  (eN
  (go_seq (go_reg0
  (go_op0 rfl rfl (st_id (v := (V.lit (Value.bool false))) (H := h63) (by kernel_rfl)
  (eN
  (go_seq (go_seq (go_reg0
  (go_op0 rfl rfl (st_id (v := (V.lit (Value.int .i64 0))) (H := h63) (by kernel_rfl)
  (eN
  (go_block (by kernel_rfl)))))))))))))))))))
theorem xr4_0 (s : Sys) (K : Out → St → Option (V × Hp)) (k wl : Nat) (rd : Bool) (n n0 : Nat) (h : Hp) : itX (xX s 4 wl k rd) xl4_0 n0 K (n + 1) ⟨(t0::t1::t2::t3::t4::t5::t6::t7::t8::t9::ta::tb::tc::td::te::tf::tg::th::ti::tj::tk::tl::tm::tn::tp::tq::tr::ts::tt::tu::tv::tw::tx::ty::tz::tA::tB::tC::tD::tE::tF::tG::tH::tI::tJ::tK::tL::tM::tN::tO::tP::tQ::tR::tS::tT::tU::tV::tW::tX::tY::tZ::q0::q1::q2::q3::q4::q5::q6::q7::q8::q9::qa::qb::qc::qd::qe::qf::qg::qh::qi::qj::qk::ql::qm::qn::qo::qp::qq::qr::qs::qt::qu::qv::qw::qx::qy::qz::qA::qB::qC::qD::qE::qF::qG::qH::qI::qJ::qK::qL::qM::qN::qO::qP::qQ::qR::qS::qT::qU::qV::qW::qX::qY::[]),h⟩ =
  bp (opLen s.P 35 th h) fun v64 h65 =>
  bm (vBin s.P .lss 3 tl v64) h65 fun v66 h67 =>
  cnd v66 (
  bm (vIndexAddr s.P 35 th tl h67) h67 fun v68 h69 =>
  bm (vFieldAddr s.P 44 v68 0) h69 fun v70 h71 =>
  bm (vLoad s.P 3 v70 h71) h71 fun v72 h73 =>
  bm (vBin s.P .eql 3 v72 (V.lit (Value.int .i64 3))) h73 fun v74 h75 =>
  cnd v74 (
  bm (vBin s.P .add 28 tj (V.lit (Value.int .u64 1))) h75 fun v76 h77 =>
  runK (xX s 4 wl k rd) (nextK (xX s 4 wl k rd) xl4_0 n0 K n) xk4_4 .norm ⟨(t0::t1::t2::t3::t4::t5::t6::t7::t8::t9::ta::tb::tc::td::te::tf::tg::th::ti::v76::tk::tl::tm::tn::tp::tq::tr::ts::tt::tu::tv::tw::tx::ty::tz::tA::tB::tC::tD::tE::tF::tG::tH::tI::tJ::tK::tL::tM::tN::tO::tP::tQ::tR::tS::tT::tU::tV::tW::tX::tY::tZ::q0::q1::q2::q3::q4::q5::q6::q7::q8::tl::th::v64::v66::qd::qe::th::tl::v68::v70::v72::v74::tj::v76::qn::qo::qp::qq::qr::qs::qt::qu::qv::qw::qx::qy::qz::qA::qB::qC::qD::qE::qF::qG::qH::qI::qJ::qK::qL::qM::qN::qO::qP::qQ::qR::qS::qT::qU::qV::qW::qX::qY::[]),h77⟩) (
  runK (xX s 4 wl k rd) (nextK (xX s 4 wl k rd) xl4_0 n0 K n) xk4_4 .norm ⟨(t0::t1::t2::t3::t4::t5::t6::t7::t8::t9::ta::tb::tc::td::te::tf::tg::th::ti::tj::tk::tl::tm::tn::tp::tq::tr::ts::tt::tu::tv::tw::tx::ty::tz::tA::tB::tC::tD::tE::tF::tG::tH::tI::tJ::tK::tL::tM::tN::tO::tP::tQ::tR::tS::tT::tU::tV::tW::tX::tY::tZ::q0::q1::q2::q3::q4::q5::q6::q7::q8::tl::th::v64::v66::qd::qe::th::tl::v68::v70::v72::v74::ql::qm::qn::qo::qp::qq::qr::qs::qt::qu::qv::qw::qx::qy::qz::qA::qB::qC::qD::qE::qF::qG::qH::qI::qJ::qK::qL::qM::qN::qO::qP::qQ::qR::qS::qT::qU::qV::qW::qX::qY::[]),h75⟩)) (
  K (.exit 0) ⟨((V.kill n0 t0)::(V.kill n0 t1)::(V.kill n0 t2)::(V.kill n0 t3)::(V.kill n0 t4)::(V.kill n0 t5)::(V.kill n0 t6)::(V.kill n0 t7)::(V.kill n0 t8)::(V.kill n0 t9)::(V.kill n0 ta)::(V.kill n0 tb)::(V.kill n0 tc)::(V.kill n0 td)::(V.kill n0 te)::(V.kill n0 tf)::(V.kill n0 tg)::(V.kill n0 th)::(V.kill n0 ti)::(V.kill n0 tj)::(V.kill n0 tk)::(V.kill n0 tl)::(V.kill n0 tm)::(V.kill n0 tn)::(V.kill n0 tp)::(V.kill n0 tq)::(V.kill n0 tr)::(V.kill n0 ts)::(V.kill n0 tt)::(V.kill n0 tu)::(V.kill n0 tv)::(V.kill n0 tw)::(V.kill n0 tx)::(V.kill n0 ty)::(V.kill n0 tz)::(V.kill n0 tA)::(V.kill n0 tB)::(V.kill n0 tC)::(V.kill n0 tD)::(V.kill n0 tE)::(V.kill n0 tF)::(V.kill n0 tG)::(V.kill n0 tH)::(V.kill n0 tI)::(V.kill n0 tJ)::(V.kill n0 tK)::(V.kill n0 tL)::(V.kill n0 tM)::(V.kill n0 tN)::(V.kill n0 tO)::(V.kill n0 tP)::(V.kill n0 tQ)::(V.kill n0 tR)::(V.kill n0 tS)::(V.kill n0 tT)::(V.kill n0 tU)::(V.kill n0 tV)::(V.kill n0 tW)::(V.kill n0 tX)::(V.kill n0 tY)::(V.kill n0 tZ)::(V.kill n0 q0)::(V.kill n0 q1)::(V.kill n0 q2)::(V.kill n0 q3)::(V.kill n0 q4)::(V.kill n0 q5)::(V.kill n0 q6)::(V.kill n0 q7)::(V.kill n0 q8)::.junk::.junk::.junk::.junk::.junk::.junk::.junk::.junk::.junk::.junk::.junk::.junk::.junk::.junk::.junk::.junk::.junk::.junk::.junk::.junk::.junk::.junk::.junk::.junk::.junk::.junk::.junk::.junk::.junk::.junk::.junk::(V.kill n0 qE)::(V.kill n0 qF)::(V.kill n0 qG)::(V.kill n0 qH)::(V.kill n0 qI)::(V.kill n0 qJ)::(V.kill n0 qK)::(V.kill n0 qL)::(V.kill n0 qM)::(V.kill n0 qN)::(V.kill n0 qO)::(V.kill n0 qP)::(V.kill n0 qQ)::(V.kill n0 qR)::(V.kill n0 qS)::(V.kill n0 qT)::(V.kill n0 qU)::(V.kill n0 qV)::(V.kill n0 qW)::(V.kill n0 qX)::(V.kill n0 qY)::[]),cutH n0 h67⟩) :=
  itX_step (go_seq (go_seq (go_reg0
  (pI tl h
  (pI th h
  (pP fun v64 h65 =>
  (pM fun v66 h67 =>
  (eN
  (go_cond (by kernel_rfl)
  (go_skip (go_seq (go_block (go_seq (go_seq (go_reg0
  (pI th h67
  (pI tl h67
  (pM fun v68 h69 =>
  (pM fun v70 h71 =>
  (pM fun v72 h73 =>
  (pM fun v74 h75 =>
  (eN
  (go_cond (by kernel_rfl)
  (go_reg0
  (pI tj h75
  (pM fun v76 h77 =>
  (pI v76 h77
  (eN
  (by kernel_rfl))))))
  (go_skip (by kernel_rfl))))))))))))))))
  (go_exit (rt_seq_exit (by kernel_rfl))))))))))))
theorem xj4_5 (s : Sys) (k wl : Nat) (zz : List V) (h : Hp) : runK (xX s 4 wl k false) (bodyK s.P Tryz.f4) xk4_3 (.exit 0) ⟨(t0::t1::t2::t3::t4::t5::t6::t7::t8::t9::ta::tb::tc::td::te::tf::tg::th::ti::tj::tk::tl::tm::tn::tp::tq::tr::ts::tt::tu::tv::tw::tx::ty::tz::tA::tB::tC::tD::tE::tF::tG::tH::tI::tJ::tK::tL::tM::tN::tO::tP::tQ::tR::tS::tT::tU::tV::tW::tX::tY::tZ::q0::q1::q2::q3::q4::q5::q6::q7::q8::q9::qa::qb::qc::qd::qe::qf::qg::qh::qi::qj::qk::ql::qm::qn::qo::qp::qq::qr::qs::qt::qu::qv::qw::qx::qy::qz::qA::qB::qC::qD::qE::qF::qG::qH::qI::qJ::qK::qL::qM::zz),h⟩ =
  bp (callV (xX s 4 wl k false) false true (.fn (.func 13) [] []) [tf,(V.lit (Value.int .i64 1))] h) fun v78 h79 =>
  bm (vBin s.P .eql 28 v78 ti) h79 fun v80 h81 =>
  gd v80 (
  bp (callV (xX s 4 wl k false) false true (.fn (.func 13) [] []) [tf,(V.lit (Value.int .i64 0))] h81) fun v82 h83 =>
  bm (vBin s.P .eql 28 v82 tj) h83 fun v84 h85 =>
  opsP (xX s 4 wl k false) xg4_1 9 h.length ([],[]) (runK (xX s 4 wl k false) (bodyK s.P Tryz.f4) xk4_5) ⟨(t0::t1::t2::t3::t4::t5::t6::t7::t8::t9::ta::tb::tc::td::te::tf::tg::th::ti::tj::tk::tl::tm::tn::tp::tq::tr::ts::tt::tu::tv::tw::tx::ty::tz::tA::tB::tC::tD::tE::tF::tG::tH::tI::tJ::tK::tL::tM::tN::tO::tP::tQ::tR::tS::tT::tU::tV::tW::tX::tY::tZ::q0::q1::q2::q3::q4::q5::q6::q7::q8::q9::qa::qb::qc::qd::qe::qf::qg::qh::qi::qj::qk::ql::qm::qn::qo::qp::qq::qr::qs::qt::qu::qv::qw::qx::qy::qz::qA::qB::qC::qD::tf::v78::ti::v80::(V.lit (Value.bool true))::tf::v82::tj::v84::zz),h85⟩) (
  opsP (xX s 4 wl k false) xg4_1 9 h.length ([],[]) (runK (xX s 4 wl k false) (bodyK s.P Tryz.f4) xk4_5) ⟨(t0::t1::t2::t3::t4::t5::t6::t7::t8::t9::ta::tb::tc::td::te::tf::tg::th::ti::tj::tk::tl::tm::tn::tp::tq::tr::ts::tt::tu::tv::tw::tx::ty::tz::tA::tB::tC::tD::tE::tF::tG::tH::tI::tJ::tK::tL::tM::tN::tO::tP::tQ::tR::tS::tT::tU::tV::tW::tX::tY::tZ::q0::q1::q2::q3::q4::q5::q6::q7::q8::q9::qa::qb::qc::qd::qe::qf::qg::qh::qi::qj::qk::ql::qm::qn::qo::qp::qq::qr::qs::qt::qu::qv::qw::qx::qy::qz::qA::qB::qC::qD::tf::v78::ti::v80::(V.lit (Value.bool false))::uu::uu::uu::uu::zz),h81⟩) (
  opsP (xX s 4 wl k false) xg4_1 6 h.length ([],[]) (runK (xX s 4 wl k false) (bodyK s.P Tryz.f4) xk4_5) ⟨(t0::t1::t2::t3::t4::t5::t6::t7::t8::t9::ta::tb::tc::td::te::tf::tg::th::ti::tj::tk::tl::tm::tn::tp::tq::tr::ts::tt::tu::tv::tw::tx::ty::tz::tA::tB::tC::tD::tE::tF::tG::tH::tI::tJ::tK::tL::tM::tN::tO::tP::tQ::tR::tS::tT::tU::tV::tW::tX::tY::tZ::q0::q1::q2::q3::q4::q5::q6::q7::q8::q9::qa::qb::qc::qd::qe::qf::qg::qh::qi::qj::qk::ql::qm::qn::qo::qp::qq::qr::qs::qt::qu::qv::qw::qx::qy::qz::qA::qB::qC::qD::tf::v78::ti::v80::v80::uu::qK::qL::qM::zz),h81⟩) :=
  (rt_block_eq (go_seq (go_reg0
  (pI tf h
  (pP fun v78 h79 =>
  (pI ti h79
  (pM fun v80 h81 =>
  (pI v80 h81
  (go_gdT0 rfl rfl rfl (by kernel_rfl)
  (st_id (v := tf) (H := h81) (by kernel_rfl)
  (rN (st_bp (by kernel_rfl) fun v82 h83 =>
  (rN (st_id (v := tj) (H := h83) (by kernel_rfl)
  (rN (st_bm (by kernel_rfl) fun v84 h85 =>
  (by kernel_rfl))))))))
  (sK
  (sK
  (sK
  (by kernel_rfl))))
  (by kernel_rfl))))))))))
theorem xj4_6 (s : Sys) (K : Out → St → Option (V × Hp)) (k wl : Nat) (rd : Bool) (n n0 : Nat) (zz : List V) (h : Hp) : runK (xX s 4 wl k rd) (nextK (xX s 4 wl k rd) xl4_0 n0 K n) xk4_4 .norm ⟨(t0::t1::t2::t3::t4::t5::t6::t7::t8::t9::ta::tb::tc::td::te::tf::tg::th::ti::tj::tk::tl::tm::tn::tp::tq::tr::ts::tt::tu::tv::tw::tx::ty::tz::tA::tB::tC::tD::tE::tF::tG::tH::tI::tJ::tK::tL::tM::tN::tO::tP::tQ::tR::tS::tT::tU::tV::tW::tX::tY::tZ::q0::q1::q2::q3::q4::q5::q6::q7::q8::q9::qa::qb::qc::qd::qe::qf::qg::qh::qi::qj::qk::ql::qm::qn::qo::qp::qq::qr::qs::qt::qu::zz),h⟩ =
  bm (vIndexAddr s.P 35 th tl h) h fun v86 h87 =>
  bm (vFieldAddr s.P 44 v86 0) h87 fun v88 h89 =>
  bm (vLoad s.P 3 v88 h89) h89 fun v90 h91 =>
  bm (vBin s.P .eql 3 v90 (V.lit (Value.int .i64 4))) h91 fun v92 h93 =>
  cnd v92 (
  bm (vBin s.P .sub 28 tj (V.lit (Value.int .u64 1))) h93 fun v94 h95 =>
  runK (xX s 4 wl k rd) (nextK (xX s 4 wl k rd) xl4_0 n0 K n) xk4_6 .norm ⟨(t0::t1::t2::t3::t4::t5::t6::t7::t8::t9::ta::tb::tc::td::te::tf::tg::th::ti::v94::tk::tl::tm::tn::tp::tq::tr::ts::tt::tu::tv::tw::tx::ty::tz::tA::tB::tC::tD::tE::tF::tG::tH::tI::tJ::tK::tL::tM::tN::tO::tP::tQ::tR::tS::tT::tU::tV::tW::tX::tY::tZ::q0::q1::q2::q3::q4::q5::q6::q7::q8::q9::qa::qb::qc::qd::qe::qf::qg::qh::qi::qj::qk::ql::qm::th::tl::v86::v88::v90::v92::tj::v94::zz),h95⟩) (
  runK (xX s 4 wl k rd) (nextK (xX s 4 wl k rd) xl4_0 n0 K n) xk4_6 .norm ⟨(t0::t1::t2::t3::t4::t5::t6::t7::t8::t9::ta::tb::tc::td::te::tf::tg::th::ti::tj::tk::tl::tm::tn::tp::tq::tr::ts::tt::tu::tv::tw::tx::ty::tz::tA::tB::tC::tD::tE::tF::tG::tH::tI::tJ::tK::tL::tM::tN::tO::tP::tQ::tR::tS::tT::tU::tV::tW::tX::tY::tZ::q0::q1::q2::q3::q4::q5::q6::q7::q8::q9::qa::qb::qc::qd::qe::qf::qg::qh::qi::qj::qk::ql::qm::th::tl::v86::v88::v90::v92::qt::qu::zz),h93⟩) :=
  (go_seq (go_seq (go_reg0
  (pI th h
  (pI tl h
  (pM fun v86 h87 =>
  (pM fun v88 h89 =>
  (pM fun v90 h91 =>
  (pM fun v92 h93 =>
  (eN
  (go_cond (by kernel_rfl)
  (go_reg0
  (pI tj h93
  (pM fun v94 h95 =>
  (pI v94 h95
  (eN
  (by kernel_rfl))))))
  (go_skip (by kernel_rfl)))))))))))))
theorem xm4_7 (h : Hp) : opsP (xX s 4 wl k false) xg4_1 9 m0 ac (runK (xX s 4 wl k false) (bodyK s.P Tryz.f4) xk4_5) ⟨(t0::t1::t2::t3::t4::t5::t6::t7::t8::t9::ta::tb::tc::td::te::tf::tg::th::ti::tj::tk::tl::tm::tn::tp::tq::tr::ts::tt::tu::tv::tw::tx::ty::tz::tA::tB::tC::tD::tE::tF::tG::tH::tI::tJ::tK::tL::tM::tN::tO::tP::tQ::tR::tS::tT::tU::tV::tW::tX::tY::tZ::q0::q1::q2::q3::q4::q5::q6::q7::q8::q9::qa::qb::qc::qd::qe::qf::qg::qh::qi::qj::qk::ql::qm::qn::qo::qp::qq::qr::qs::qt::qu::qv::qw::qx::qy::qz::qA::qB::qC::qD::qE::qF::qG::qH::qI::qJ::qK::qL::qM::qN::qO::qP::qQ::qR::qS::qT::qU::qV::qW::qX::qY::[]),h⟩ =
  bm (vPick qI qM (V.lit (Value.bool false))) h fun v96 h97 =>
  gd v96 (
  bp (callV (xX s 4 wl k false) false true (.fn (.func 13) [] []) [t2,(V.lit (Value.int .i64 0))] h97) fun v98 h99 =>
  bm (vBin s.P .eql 28 v98 (V.lit (Value.int .u64 1))) h99 fun v100 h101 =>
  opsP (xX s 4 wl k false) xg4_1 16 m0 ac (runK (xX s 4 wl k false) (bodyK s.P Tryz.f4) xk4_5) ⟨(t0::t1::t2::t3::t4::t5::t6::t7::t8::t9::ta::tb::tc::td::te::tf::tg::th::ti::tj::tk::tl::tm::tn::tp::tq::tr::ts::tt::tu::tv::tw::tx::ty::tz::tA::tB::tC::tD::tE::tF::tG::tH::tI::tJ::tK::tL::tM::tN::tO::tP::tQ::tR::tS::tT::tU::tV::tW::tX::tY::tZ::q0::q1::q2::q3::q4::q5::q6::q7::q8::q9::qa::qb::qc::qd::qe::qf::qg::qh::qi::qj::qk::ql::qm::qn::qo::qp::qq::qr::qs::qt::qu::qv::qw::qx::qy::qz::qA::qB::qC::qD::qE::qF::qG::qH::qI::qJ::qK::qL::qM::v96::(V.lit (Value.bool true))::tk::t2::v98::v100::v100::qU::qV::qW::qX::qY::[]),h101⟩) (
  opsP (xX s 4 wl k false) xg4_1 20 m0 ac (runK (xX s 4 wl k false) (bodyK s.P Tryz.f4) xk4_5) ⟨(t0::t1::t2::t3::t4::t5::t6::t7::t8::t9::ta::tb::tc::td::te::tf::tg::th::ti::tj::tk::tl::tm::tn::tp::tq::tr::ts::tt::tu::tv::tw::tx::ty::tz::tA::tB::tC::tD::tE::tF::tG::tH::tI::tJ::tK::tL::tM::tN::tO::tP::tQ::tR::tS::tT::tU::tV::tW::tX::tY::tZ::q0::q1::q2::q3::q4::q5::q6::q7::q8::q9::qa::qb::qc::qd::qe::qf::qg::qh::qi::qj::qk::ql::qm::qn::qo::qp::qq::qr::qs::qt::qu::qv::qw::qx::qy::qz::qA::qB::qC::qD::qE::qF::qG::qH::qI::qJ::qK::qL::qM::v96::(V.lit (Value.bool false))::uu::uu::uu::uu::uu::uu::uu::uu::uu::qY::[]),h97⟩) (
  opsP (xX s 4 wl k false) xg4_1 12 m0 ac (runK (xX s 4 wl k false) (bodyK s.P Tryz.f4) xk4_5) ⟨(t0::t1::t2::t3::t4::t5::t6::t7::t8::t9::ta::tb::tc::td::te::tf::tg::th::ti::tj::tk::tl::tm::tn::tp::tq::tr::ts::tt::tu::tv::tw::tx::ty::tz::tA::tB::tC::tD::tE::tF::tG::tH::tI::tJ::tK::tL::tM::tN::tO::tP::tQ::tR::tS::tT::tU::tV::tW::tX::tY::tZ::q0::q1::q2::q3::q4::q5::q6::q7::q8::q9::qa::qb::qc::qd::qe::qf::qg::qh::qi::qj::qk::ql::qm::qn::qo::qp::qq::qr::qs::qt::qu::qv::qw::qx::qy::qz::qA::qB::qC::qD::qE::qF::qG::qH::qI::qJ::qK::qL::qM::v96::v96::uu::qQ::qR::qS::qT::qU::qV::qW::qX::qY::[]),h97⟩) :=
  (pM fun v96 h97 =>
  (pI v96 h97
  (go_gdT0 rfl rfl rfl (by kernel_rfl)
  (st_id (v := tk) (H := h97) (by kernel_rfl)
  (rN (st_id (v := t2) (H := h97) (by kernel_rfl)
  (rN (st_bp (by kernel_rfl) fun v98 h99 =>
  (rN (st_bm (by kernel_rfl) fun v100 h101 =>
  (rN (st_id (v := v100) (H := h101) (by kernel_rfl)
  (by kernel_rfl))))))))))
  (sK
  (sK
  (sK
  (sK
  (go_none0 (x := #[]) rfl rfl rfl (by kernel_rfl)
  (go_none0 (x := #[]) rfl rfl rfl (by kernel_rfl)
  (sK
  (sK
  (by kernel_rfl)))))))))
  (by kernel_rfl))))
theorem xj4_8 (s : Sys) (K : Out → St → Option (V × Hp)) (k wl : Nat) (rd : Bool) (n n0 : Nat) (zz : List V) (h : Hp) : runK (xX s 4 wl k rd) (nextK (xX s 4 wl k rd) xl4_0 n0 K n) xk4_6 .norm ⟨(t0::t1::t2::t3::t4::t5::t6::t7::t8::t9::ta::tb::tc::td::te::tf::tg::th::ti::tj::tk::tl::tm::tn::tp::tq::tr::ts::tt::tu::tv::tw::tx::ty::tz::tA::tB::tC::tD::tE::tF::tG::tH::tI::tJ::tK::tL::tM::tN::tO::tP::tQ::tR::tS::tT::tU::tV::tW::tX::tY::tZ::q0::q1::q2::q3::q4::q5::q6::q7::q8::q9::qa::qb::qc::qd::qe::qf::qg::qh::qi::qj::qk::ql::qm::qn::qo::qp::qq::qr::qs::qt::qu::qv::qw::qx::qy::qz::qA::qB::qC::zz),h⟩ =
  gd tk (
  opsP (xX s 4 wl k rd) xg4_2 8 h.length ([],[]) (runK (xX s 4 wl k rd) (nextK (xX s 4 wl k rd) xl4_0 n0 K n) xk4_7) ⟨(t0::t1::t2::t3::t4::t5::t6::t7::t8::t9::ta::tb::tc::td::te::tf::tg::th::ti::tj::tk::tl::tm::tn::tp::tq::tr::ts::tt::tu::tv::tw::tx::ty::tz::tA::tB::tC::tD::tE::tF::tG::tH::tI::tJ::tK::tL::tM::tN::tO::tP::tQ::tR::tS::tT::tU::tV::tW::tX::tY::tZ::q0::q1::q2::q3::q4::q5::q6::q7::q8::q9::qa::qb::qc::qd::qe::qf::qg::qh::qi::qj::qk::ql::qm::qn::qo::qp::qq::qr::qs::qt::qu::tk::(V.lit (Value.bool true))::uu::uu::uu::uu::uu::uu::zz),h⟩) (
  bm (vIndexAddr s.P 35 th tl h) h fun v102 h103 =>
  bm (vFieldAddr s.P 44 v102 0) h103 fun v104 h105 =>
  bm (vLoad s.P 3 v104 h105) h105 fun v106 h107 =>
  bm (vBin s.P .eql 3 v106 (V.lit (Value.int .i64 5))) h107 fun v108 h109 =>
  opsP (xX s 4 wl k rd) xg4_2 8 h.length ([],[]) (runK (xX s 4 wl k rd) (nextK (xX s 4 wl k rd) xl4_0 n0 K n) xk4_7) ⟨(t0::t1::t2::t3::t4::t5::t6::t7::t8::t9::ta::tb::tc::td::te::tf::tg::th::ti::tj::tk::tl::tm::tn::tp::tq::tr::ts::tt::tu::tv::tw::tx::ty::tz::tA::tB::tC::tD::tE::tF::tG::tH::tI::tJ::tK::tL::tM::tN::tO::tP::tQ::tR::tS::tT::tU::tV::tW::tX::tY::tZ::q0::q1::q2::q3::q4::q5::q6::q7::q8::q9::qa::qb::qc::qd::qe::qf::qg::qh::qi::qj::qk::ql::qm::qn::qo::qp::qq::qr::qs::qt::qu::tk::(V.lit (Value.bool false))::th::tl::v102::v104::v106::v108::zz),h109⟩) (
  opsP (xX s 4 wl k rd) xg4_2 3 h.length ([],[]) (runK (xX s 4 wl k rd) (nextK (xX s 4 wl k rd) xl4_0 n0 K n) xk4_7) ⟨(t0::t1::t2::t3::t4::t5::t6::t7::t8::t9::ta::tb::tc::td::te::tf::tg::th::ti::tj::tk::tl::tm::tn::tp::tq::tr::ts::tt::tu::tv::tw::tx::ty::tz::tA::tB::tC::tD::tE::tF::tG::tH::tI::tJ::tK::tL::tM::tN::tO::tP::tQ::tR::tS::tT::tU::tV::tW::tX::tY::tZ::q0::q1::q2::q3::q4::q5::q6::q7::q8::q9::qa::qb::qc::qd::qe::qf::qg::qh::qi::qj::qk::ql::qm::qn::qo::qp::qq::qr::qs::qt::qu::tk::tk::uu::qy::qz::qA::qB::qC::zz),h⟩) :=
  (go_reg0
  (pI tk h
  (pI tk h
  (go_gdF0 rfl rfl rfl (by kernel_rfl)
  (sK
  (sK
  (sK
  (sK
  (sK
  (by kernel_rfl))))))
  (st_id (v := th) (H := h) (by kernel_rfl)
  (rN (st_id (v := tl) (H := h) (by kernel_rfl)
  (rN (st_bm (by kernel_rfl) fun v102 h103 =>
  (rN (st_bm (by kernel_rfl) fun v104 h105 =>
  (rN (st_bm (by kernel_rfl) fun v106 h107 =>
  (rN (st_bm (by kernel_rfl) fun v108 h109 =>
  (by kernel_rfl))))))))))))
  (by kernel_rfl)))))
theorem xm4_9 (zz : List V) (h : Hp) : opsP (xX s 4 wl k false) xg4_1 16 m0 ac (runK (xX s 4 wl k false) (bodyK s.P Tryz.f4) xk4_5) ⟨(t0::t1::t2::t3::t4::t5::t6::t7::t8::t9::ta::tb::tc::td::te::tf::tg::th::ti::tj::tk::tl::tm::tn::tp::tq::tr::ts::tt::tu::tv::tw::tx::ty::tz::tA::tB::tC::tD::tE::tF::tG::tH::tI::tJ::tK::tL::tM::tN::tO::tP::tQ::tR::tS::tT::tU::tV::tW::tX::tY::tZ::q0::q1::q2::q3::q4::q5::q6::q7::q8::q9::qa::qb::qc::qd::qe::qf::qg::qh::qi::qj::qk::ql::qm::qn::qo::qp::qq::qr::qs::qt::qu::qv::qw::qx::qy::qz::qA::qB::qC::qD::qE::qF::qG::qH::qI::qJ::qK::qL::qM::qN::qO::qP::qQ::qR::qS::qT::qU::qV::zz),h⟩ =
  gd qT (
  bm (vBin s.P .eql 28 tj (V.lit (Value.int .u64 0))) h fun v110 h111 =>
  opsP (xX s 4 wl k false) xg4_1 18 m0 ac (runK (xX s 4 wl k false) (bodyK s.P Tryz.f4) xk4_5) ⟨(t0::t1::t2::t3::t4::t5::t6::t7::t8::t9::ta::tb::tc::td::te::tf::tg::th::ti::tj::tk::tl::tm::tn::tp::tq::tr::ts::tt::tu::tv::tw::tx::ty::tz::tA::tB::tC::tD::tE::tF::tG::tH::tI::tJ::tK::tL::tM::tN::tO::tP::tQ::tR::tS::tT::tU::tV::tW::tX::tY::tZ::q0::q1::q2::q3::q4::q5::q6::q7::q8::q9::qa::qb::qc::qd::qe::qf::qg::qh::qi::qj::qk::ql::qm::qn::qo::qp::qq::qr::qs::qt::qu::qv::qw::qx::qy::qz::qA::qB::qC::qD::qE::qF::qG::qH::qI::qJ::qK::qL::qM::qN::qO::qP::qQ::qR::qS::(V.lit (Value.bool true))::tj::v110::zz),h111⟩) (
  opsP (xX s 4 wl k false) xg4_1 18 m0 ac (runK (xX s 4 wl k false) (bodyK s.P Tryz.f4) xk4_5) ⟨(t0::t1::t2::t3::t4::t5::t6::t7::t8::t9::ta::tb::tc::td::te::tf::tg::th::ti::tj::tk::tl::tm::tn::tp::tq::tr::ts::tt::tu::tv::tw::tx::ty::tz::tA::tB::tC::tD::tE::tF::tG::tH::tI::tJ::tK::tL::tM::tN::tO::tP::tQ::tR::tS::tT::tU::tV::tW::tX::tY::tZ::q0::q1::q2::q3::q4::q5::q6::q7::q8::q9::qa::qb::qc::qd::qe::qf::qg::qh::qi::qj::qk::ql::qm::qn::qo::qp::qq::qr::qs::qt::qu::qv::qw::qx::qy::qz::qA::qB::qC::qD::qE::qF::qG::qH::qI::qJ::qK::qL::qM::qN::qO::qP::qQ::qR::qS::(V.lit (Value.bool false))::uu::uu::zz),h⟩) (
  opsP (xX s 4 wl k false) xg4_1 17 m0 ac (runK (xX s 4 wl k false) (bodyK s.P Tryz.f4) xk4_5) ⟨(t0::t1::t2::t3::t4::t5::t6::t7::t8::t9::ta::tb::tc::td::te::tf::tg::th::ti::tj::tk::tl::tm::tn::tp::tq::tr::ts::tt::tu::tv::tw::tx::ty::tz::tA::tB::tC::tD::tE::tF::tG::tH::tI::tJ::tK::tL::tM::tN::tO::tP::tQ::tR::tS::tT::tU::tV::tW::tX::tY::tZ::q0::q1::q2::q3::q4::q5::q6::q7::q8::q9::qa::qb::qc::qd::qe::qf::qg::qh::qi::qj::qk::ql::qm::qn::qo::qp::qq::qr::qs::qt::qu::qv::qw::qx::qy::qz::qA::qB::qC::qD::qE::qF::qG::qH::qI::qJ::qK::qL::qM::qN::qO::qP::qQ::qR::qS::qT::uu::qV::zz),h⟩) :=
  (go_gdT0 rfl rfl rfl (by kernel_rfl)
  (st_id (v := tj) (H := h) (by kernel_rfl)
  (rN (st_bm (by kernel_rfl) fun v110 h111 =>
  (by kernel_rfl))))
  (sK
  (by kernel_rfl))
  (by kernel_rfl))
theorem xm4_10 (h : Hp) : opsP (xX s 4 wl k false) xg4_1 20 m0 ac (runK (xX s 4 wl k false) (bodyK s.P Tryz.f4) xk4_5) ⟨(t0::t1::t2::t3::t4::t5::t6::t7::t8::t9::ta::tb::tc::td::te::tf::tg::th::ti::tj::tk::tl::tm::tn::tp::tq::tr::ts::tt::tu::tv::tw::tx::ty::tz::tA::tB::tC::tD::tE::tF::tG::tH::tI::tJ::tK::tL::tM::tN::tO::tP::tQ::tR::tS::tT::tU::tV::tW::tX::tY::tZ::q0::q1::q2::q3::q4::q5::q6::q7::q8::q9::qa::qb::qc::qd::qe::qf::qg::qh::qi::qj::qk::ql::qm::qn::qo::qp::qq::qr::qs::qt::qu::qv::qw::qx::qy::qz::qA::qB::qC::qD::qE::qF::qG::qH::qI::qJ::qK::qL::qM::qN::qO::qP::qQ::qR::qS::qT::qU::qV::qW::qX::qY::[]),h⟩ =
  bm (vPick qO qX (V.lit (Value.bool false))) h fun v112 h113 =>
  some (v112,h113) :=
  (pM fun v112 h113 =>
  (pI v112 h113
  (eN
  (go_ret (by kernel_rfl)))))
theorem xm4_11 (s : Sys) (K : Out → St → Option (V × Hp)) (k wl : Nat) (rd : Bool) (n n0 : Nat) (m0 : Nat) (ac : List Nat × List Nat) (h : Hp) : opsP (xX s 4 wl k rd) xg4_2 8 m0 ac (runK (xX s 4 wl k rd) (nextK (xX s 4 wl k rd) xl4_0 n0 K n) xk4_7) ⟨(t0::t1::t2::t3::t4::t5::t6::t7::t8::t9::ta::tb::tc::td::te::tf::tg::th::ti::tj::tk::tl::tm::tn::tp::tq::tr::ts::tt::tu::tv::tw::tx::ty::tz::tA::tB::tC::tD::tE::tF::tG::tH::tI::tJ::tK::tL::tM::tN::tO::tP::tQ::tR::tS::tT::tU::tV::tW::tX::tY::tZ::q0::q1::q2::q3::q4::q5::q6::q7::q8::q9::qa::qb::qc::qd::qe::qf::qg::qh::qi::qj::qk::ql::qm::qn::qo::qp::qq::qr::qs::qt::qu::qv::qw::qx::qy::qz::qA::qB::qC::qD::qE::qF::qG::qH::qI::qJ::qK::qL::qM::qN::qO::qP::qQ::qR::qS::qT::qU::qV::qW::qX::qY::[]),h⟩ =
  bm (vPick qw (V.lit (Value.bool true)) qC) h fun v114 h115 =>
  bm (vBin s.P .add 3 tl (V.lit (Value.int .i64 1))) h115 fun v116 h117 =>
  itX (xX s 4 wl k rd) xl4_0 n0 K n ⟨((V.kill n0 t0)::(V.kill n0 t1)::(V.kill n0 t2)::(V.kill n0 t3)::(V.kill n0 t4)::(V.kill n0 t5)::(V.kill n0 t6)::(V.kill n0 t7)::(V.kill n0 t8)::(V.kill n0 t9)::(V.kill n0 ta)::(V.kill n0 tb)::(V.kill n0 tc)::(V.kill n0 td)::(V.kill n0 te)::(V.kill n0 tf)::(V.kill n0 tg)::(V.kill n0 th)::(V.kill n0 ti)::(V.kill n0 tj)::(V.kill n0 v114)::(V.kill n0 v116)::(V.kill n0 tm)::(V.kill n0 tn)::(V.kill n0 tp)::(V.kill n0 tq)::(V.kill n0 tr)::(V.kill n0 ts)::(V.kill n0 tt)::(V.kill n0 tu)::(V.kill n0 tv)::(V.kill n0 tw)::(V.kill n0 tx)::(V.kill n0 ty)::(V.kill n0 tz)::(V.kill n0 tA)::(V.kill n0 tB)::(V.kill n0 tC)::(V.kill n0 tD)::(V.kill n0 tE)::(V.kill n0 tF)::(V.kill n0 tG)::(V.kill n0 tH)::(V.kill n0 tI)::(V.kill n0 tJ)::(V.kill n0 tK)::(V.kill n0 tL)::(V.kill n0 tM)::(V.kill n0 tN)::(V.kill n0 tO)::(V.kill n0 tP)::(V.kill n0 tQ)::(V.kill n0 tR)::(V.kill n0 tS)::(V.kill n0 tT)::(V.kill n0 tU)::(V.kill n0 tV)::(V.kill n0 tW)::(V.kill n0 tX)::(V.kill n0 tY)::(V.kill n0 tZ)::(V.kill n0 q0)::(V.kill n0 q1)::(V.kill n0 q2)::(V.kill n0 q3)::(V.kill n0 q4)::(V.kill n0 q5)::(V.kill n0 q6)::(V.kill n0 q7)::(V.kill n0 q8)::.junk::.junk::.junk::.junk::.junk::.junk::.junk::.junk::.junk::.junk::.junk::.junk::.junk::.junk::.junk::.junk::.junk::.junk::.junk::.junk::.junk::.junk::.junk::.junk::.junk::.junk::.junk::.junk::.junk::.junk::.junk::(V.kill n0 qE)::(V.kill n0 qF)::(V.kill n0 qG)::(V.kill n0 qH)::(V.kill n0 qI)::(V.kill n0 qJ)::(V.kill n0 qK)::(V.kill n0 qL)::(V.kill n0 qM)::(V.kill n0 qN)::(V.kill n0 qO)::(V.kill n0 qP)::(V.kill n0 qQ)::(V.kill n0 qR)::(V.kill n0 qS)::(V.kill n0 qT)::(V.kill n0 qU)::(V.kill n0 qV)::(V.kill n0 qW)::(V.kill n0 qX)::(V.kill n0 qY)::[]),cutH n0 h117⟩ :=
  (pM fun v114 h115 =>
  (pI v114 h115
  (eN
  (rt_block_norm (go_reg0
  (pI tl h115
  (pM fun v116 h117 =>
  (pI v116 h117
  (eN
  (by kernel_rfl))))))))))
theorem xm4_12 (h : Hp) : opsP (xX s 4 wl k false) xg4_1 18 m0 ac (runK (xX s 4 wl k false) (bodyK s.P Tryz.f4) xk4_5) ⟨(t0::t1::t2::t3::t4::t5::t6::t7::t8::t9::ta::tb::tc::td::te::tf::tg::th::ti::tj::tk::tl::tm::tn::tp::tq::tr::ts::tt::tu::tv::tw::tx::ty::tz::tA::tB::tC::tD::tE::tF::tG::tH::tI::tJ::tK::tL::tM::tN::tO::tP::tQ::tR::tS::tT::tU::tV::tW::tX::tY::tZ::q0::q1::q2::q3::q4::q5::q6::q7::q8::q9::qa::qb::qc::qd::qe::qf::qg::qh::qi::qj::qk::ql::qm::qn::qo::qp::qq::qr::qs::qt::qu::qv::qw::qx::qy::qz::qA::qB::qC::qD::qE::qF::qG::qH::qI::qJ::qK::qL::qM::qN::qO::qP::qQ::qR::qS::qT::qU::qV::qW::qX::qY::[]),h⟩ =
  gd qO (
  bm (vPick qT qV (V.lit (Value.bool false))) h fun v118 h119 =>
  bm (vBin s.P .eql 4 qP v118) h119 fun v120 h121 =>
  opsP (xX s 4 wl k false) xg4_1 20 m0 ac (runK (xX s 4 wl k false) (bodyK s.P Tryz.f4) xk4_5) ⟨(t0::t1::t2::t3::t4::t5::t6::t7::t8::t9::ta::tb::tc::td::te::tf::tg::th::ti::tj::tk::tl::tm::tn::tp::tq::tr::ts::tt::tu::tv::tw::tx::ty::tz::tA::tB::tC::tD::tE::tF::tG::tH::tI::tJ::tK::tL::tM::tN::tO::tP::tQ::tR::tS::tT::tU::tV::tW::tX::tY::tZ::q0::q1::q2::q3::q4::q5::q6::q7::q8::q9::qa::qb::qc::qd::qe::qf::qg::qh::qi::qj::qk::ql::qm::qn::qo::qp::qq::qr::qs::qt::qu::qv::qw::qx::qy::qz::qA::qB::qC::qD::qE::qF::qG::qH::qI::qJ::qK::qL::qM::qN::(V.lit (Value.bool true))::qP::qQ::qR::qS::qT::qU::qV::v118::v120::qY::[]),h121⟩) (
  opsP (xX s 4 wl k false) xg4_1 20 m0 ac (runK (xX s 4 wl k false) (bodyK s.P Tryz.f4) xk4_5) ⟨(t0::t1::t2::t3::t4::t5::t6::t7::t8::t9::ta::tb::tc::td::te::tf::tg::th::ti::tj::tk::tl::tm::tn::tp::tq::tr::ts::tt::tu::tv::tw::tx::ty::tz::tA::tB::tC::tD::tE::tF::tG::tH::tI::tJ::tK::tL::tM::tN::tO::tP::tQ::tR::tS::tT::tU::tV::tW::tX::tY::tZ::q0::q1::q2::q3::q4::q5::q6::q7::q8::q9::qa::qb::qc::qd::qe::qf::qg::qh::qi::qj::qk::ql::qm::qn::qo::qp::qq::qr::qs::qt::qu::qv::qw::qx::qy::qz::qA::qB::qC::qD::qE::qF::qG::qH::qI::qJ::qK::qL::qM::qN::(V.lit (Value.bool false))::qP::qQ::qR::qS::qT::qU::qV::uu::uu::qY::[]),h⟩) (
  opsP (xX s 4 wl k false) xg4_1 19 m0 ac (runK (xX s 4 wl k false) (bodyK s.P Tryz.f4) xk4_5) ⟨(t0::t1::t2::t3::t4::t5::t6::t7::t8::t9::ta::tb::tc::td::te::tf::tg::th::ti::tj::tk::tl::tm::tn::tp::tq::tr::ts::tt::tu::tv::tw::tx::ty::tz::tA::tB::tC::tD::tE::tF::tG::tH::tI::tJ::tK::tL::tM::tN::tO::tP::tQ::tR::tS::tT::tU::tV::tW::tX::tY::tZ::q0::q1::q2::q3::q4::q5::q6::q7::q8::q9::qa::qb::qc::qd::qe::qf::qg::qh::qi::qj::qk::ql::qm::qn::qo::qp::qq::qr::qs::qt::qu::qv::qw::qx::qy::qz::qA::qB::qC::qD::qE::qF::qG::qH::qI::qJ::qK::qL::qM::qN::qO::qP::qQ::qR::qS::qT::qU::qV::uu::qX::qY::[]),h⟩) :=
  (go_gdT0 rfl rfl rfl (by kernel_rfl)
  (st_bm (by kernel_rfl) fun v118 h119 =>
  (rN (st_bm (by kernel_rfl) fun v120 h121 =>
  (by kernel_rfl))))
  (sK
  (by kernel_rfl))
  (by kernel_rfl))
theorem xm4_13 (zz : List V) (h : Hp) : opsP (xX s 4 wl k false) xg4_1 17 m0 ac (runK (xX s 4 wl k false) (bodyK s.P Tryz.f4) xk4_5) ⟨(t0::t1::t2::t3::t4::t5::t6::t7::t8::t9::ta::tb::tc::td::te::tf::tg::th::ti::tj::tk::tl::tm::tn::tp::tq::tr::ts::tt::tu::tv::tw::tx::ty::tz::tA::tB::tC::tD::tE::tF::tG::tH::tI::tJ::tK::tL::tM::tN::tO::tP::tQ::tR::tS::tT::tU::tV::tW::tX::tY::tZ::q0::q1::q2::q3::q4::q5::q6::q7::q8::q9::qa::qb::qc::qd::qe::qf::qg::qh::qi::qj::qk::ql::qm::qn::qo::qp::qq::qr::qs::qt::qu::qv::qw::qx::qy::qz::qA::qB::qC::qD::qE::qF::qG::qH::qI::qJ::qK::qL::qM::qN::qO::qP::qQ::qR::qS::qT::qU::qV::zz),h⟩ =
  gd qT (
  bm (vBin s.P .eql 28 qU (V.lit (Value.int .u64 0))) h fun v122 h123 =>
  opsP (xX s 4 wl k false) xg4_1 18 m0 ac (runK (xX s 4 wl k false) (bodyK s.P Tryz.f4) xk4_5) ⟨(t0::t1::t2::t3::t4::t5::t6::t7::t8::t9::ta::tb::tc::td::te::tf::tg::th::ti::tj::tk::tl::tm::tn::tp::tq::tr::ts::tt::tu::tv::tw::tx::ty::tz::tA::tB::tC::tD::tE::tF::tG::tH::tI::tJ::tK::tL::tM::tN::tO::tP::tQ::tR::tS::tT::tU::tV::tW::tX::tY::tZ::q0::q1::q2::q3::q4::q5::q6::q7::q8::q9::qa::qb::qc::qd::qe::qf::qg::qh::qi::qj::qk::ql::qm::qn::qo::qp::qq::qr::qs::qt::qu::qv::qw::qx::qy::qz::qA::qB::qC::qD::qE::qF::qG::qH::qI::qJ::qK::qL::qM::qN::qO::qP::qQ::qR::qS::(V.lit (Value.bool true))::qU::v122::zz),h123⟩) (
  opsP (xX s 4 wl k false) xg4_1 18 m0 ac (runK (xX s 4 wl k false) (bodyK s.P Tryz.f4) xk4_5) ⟨(t0::t1::t2::t3::t4::t5::t6::t7::t8::t9::ta::tb::tc::td::te::tf::tg::th::ti::tj::tk::tl::tm::tn::tp::tq::tr::ts::tt::tu::tv::tw::tx::ty::tz::tA::tB::tC::tD::tE::tF::tG::tH::tI::tJ::tK::tL::tM::tN::tO::tP::tQ::tR::tS::tT::tU::tV::tW::tX::tY::tZ::q0::q1::q2::q3::q4::q5::q6::q7::q8::q9::qa::qb::qc::qd::qe::qf::qg::qh::qi::qj::qk::ql::qm::qn::qo::qp::qq::qr::qs::qt::qu::qv::qw::qx::qy::qz::qA::qB::qC::qD::qE::qF::qG::qH::qI::qJ::qK::qL::qM::qN::qO::qP::qQ::qR::qS::(V.lit (Value.bool false))::qU::uu::zz),h⟩) (
  opsP (xX s 4 wl k false) xg4_1 18 m0 ac (runK (xX s 4 wl k false) (bodyK s.P Tryz.f4) xk4_5) ⟨(t0::t1::t2::t3::t4::t5::t6::t7::t8::t9::ta::tb::tc::td::te::tf::tg::th::ti::tj::tk::tl::tm::tn::tp::tq::tr::ts::tt::tu::tv::tw::tx::ty::tz::tA::tB::tC::tD::tE::tF::tG::tH::tI::tJ::tK::tL::tM::tN::tO::tP::tQ::tR::tS::tT::tU::tV::tW::tX::tY::tZ::q0::q1::q2::q3::q4::q5::q6::q7::q8::q9::qa::qb::qc::qd::qe::qf::qg::qh::qi::qj::qk::ql::qm::qn::qo::qp::qq::qr::qs::qt::qu::qv::qw::qx::qy::qz::qA::qB::qC::qD::qE::qF::qG::qH::qI::qJ::qK::qL::qM::qN::qO::qP::qQ::qR::qS::qT::qU::uu::zz),h⟩) :=
  (go_gdT0 rfl rfl rfl (by kernel_rfl)
  (st_bm (by kernel_rfl) fun v122 h123 =>
  (by kernel_rfl))
  (by kernel_rfl)
  (by kernel_rfl))
theorem xk4_0_ret (cx : Cx) (K : Out → St → Option (V × Hp)) (s : St) : runK cx K xk4_0 .ret s = K .ret s := by kernel_rfl
theorem xk4_1_ret (cx : Cx) (K : Out → St → Option (V × Hp)) (s : St) : runK cx K xk4_1 .ret s = K .ret s := by kernel_rfl
theorem xk4_2_ret (cx : Cx) (K : Out → St → Option (V × Hp)) (s : St) : runK cx K xk4_2 .ret s = K .ret s := by kernel_rfl
theorem xk4_3_ret (cx : Cx) (K : Out → St → Option (V × Hp)) (s : St) : runK cx K xk4_3 .ret s = K .ret s := by kernel_rfl
theorem xk4_4_ret (cx : Cx) (K : Out → St → Option (V × Hp)) (s : St) : runK cx K xk4_4 .ret s = K .ret s := by kernel_rfl
theorem xk4_5_ret (cx : Cx) (K : Out → St → Option (V × Hp)) (s : St) : runK cx K xk4_5 .ret s = K .ret s := by kernel_rfl
theorem xk4_6_ret (cx : Cx) (K : Out → St → Option (V × Hp)) (s : St) : runK cx K xk4_6 .ret s = K .ret s := by kernel_rfl
theorem xk4_7_ret (cx : Cx) (K : Out → St → Option (V × Hp)) (s : St) : runK cx K xk4_7 .ret s = K .ret s := by kernel_rfl
-- names: xb4,xz4,xm4_0,xm4_1,xm4_2,xj4_3,xj4_4,xr4_0,xj4_5,xj4_6,xm4_7,xj4_8,xm4_9,xm4_10,xm4_11,xm4_12,xm4_13,xk4_0_ret,xk4_1_ret,xk4_2_ret,xk4_3_ret,xk4_4_ret,xk4_5_ret,xk4_6_ret,xk4_7_ret
end Go.Ab
