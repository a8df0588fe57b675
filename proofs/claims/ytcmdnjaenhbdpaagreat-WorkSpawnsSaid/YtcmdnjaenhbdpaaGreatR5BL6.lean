/- The program's code,point by point: printed by gen.py. -/
import Derived.Test.YtcmdnjaenhbdpaaGreatR5Seat
import Derived.Test.YtcmdnjaenhbdpaaGreatAbLibC
set_option linter.unusedVariables false
set_option linter.unusedSimpArgs false
set_option maxRecDepth 100000
set_option linter.unusedVariables false
namespace Go.Ab
open Go.Proofs
variable (s : Sys) (k wl : Nat) (m0 : Nat) (ac : List Nat × List Nat) (t0 t1 t2 t3 t4 t5 t6 t7 t8 t9 ta tb tc td te tf tg th ti tj tk tl tm tn tp tq tr ts tt tu tv tw tx ty tz tA tB tC tD tE tF tG tH tI tJ tK tL tM tN tO tP tQ tR tS tT tU tV tW tX tY tZ q0 q1 q2 q3 q4 q5 q6 q7 q8 q9 qa qb qc qd qe qf qg qh qi qj qk ql qm qn qo qp qq qr qs qt qu qv qw qx qy qz qA qB qC qD qE qF qG qH qJ qK qL qN qO qP qQ qR qS qT qU qV qW qX qY qZ z0 z1 z2 z3 z4 z5 z6 z7 z8 z9 za zb zc zd ze zf zg zh zi zj zk zl zm zn zo zp zq zr zs zt zu zv zw zx zy zz zA zB zC zD zE zF zG zH : V)
noncomputable def xg6_0 : Code := codeAt (bodyOf Tryz.f6) [1,1,1,0,0]
noncomputable def xk6_0 : List Fr := [.seq (codeAt (bodyOf Tryz.f6) [1,1,1,0,1]),.seq (codeAt (bodyOf Tryz.f6) [1,1,1,1])]
noncomputable def xg6_1 : Code := codeAt (bodyOf Tryz.f6) [1,1,1,1,1,0,0]
noncomputable def xk6_1 : List Fr := [.seq (codeAt (bodyOf Tryz.f6) [1,1,1,1,1,0,1]),.seq (codeAt (bodyOf Tryz.f6) [1,1,1,1,1,1])]
noncomputable def xg6_2 : Code := codeAt (bodyOf Tryz.f6) [1,1,1,1,1,0,1,0,0]
noncomputable def xk6_2 : List Fr := [.seq (codeAt (bodyOf Tryz.f6) [1,1,1,1,1,0,1,0,1]),.seq (codeAt (bodyOf Tryz.f6) [1,1,1,1,1,1])]
noncomputable def xg6_3 : Code := codeAt (bodyOf Tryz.f6) [1,1,1,1,1,1,0,0]
noncomputable def xk6_3 : List Fr := [.seq (codeAt (bodyOf Tryz.f6) [1,1,1,1,1,1,0,1]),.seq (codeAt (bodyOf Tryz.f6) [1,1,1,1,1,1,1])]
noncomputable def xg6_4 : Code := codeAt (bodyOf Tryz.f6) [1,1,1,1,1,1,0,1,0,0]
noncomputable def xk6_4 : List Fr := [.seq (codeAt (bodyOf Tryz.f6) [1,1,1,1,1,1,0,1,0,1]),.seq (codeAt (bodyOf Tryz.f6) [1,1,1,1,1,1,1])]
noncomputable def xg6_5 : Code := codeAt (bodyOf Tryz.f6) [1,1,1,1,1,1,1,0,0]
noncomputable def xk6_5 : List Fr := [.seq (codeAt (bodyOf Tryz.f6) [1,1,1,1,1,1,1,0,1]),.seq (codeAt (bodyOf Tryz.f6) [1,1,1,1,1,1,1,1])]
noncomputable def xg6_6 : Code := codeAt (bodyOf Tryz.f6) [1,1,1,1,1,1,1,0,1,0,0]
noncomputable def xk6_6 : List Fr := [.seq (codeAt (bodyOf Tryz.f6) [1,1,1,1,1,1,1,0,1,0,1]),.seq (codeAt (bodyOf Tryz.f6) [1,1,1,1,1,1,1,1])]
noncomputable def xg6_7 : Code := codeAt (bodyOf Tryz.f6) [1,1,1,1,1,1,1,1,0]
noncomputable def xk6_7 : List Fr := [.seq (codeAt (bodyOf Tryz.f6) [1,1,1,1,1,1,1,1,1])]
theorem xo6_7 : orderIx (opsOf xg6_2) = [0,1,2,3,4,5,6,7,8,9,10,11,12,13,14,15,16,17,18,19,20,21,22,23,24,25,26,27,28,29,30] := by kernel_rfl
theorem xo6_7a : (rgOf (opsOf xg6_2)).any = false := by kernel_rfl
theorem xo6_7r : regOk (opsOf xg6_2) = true := by kernel_rfl
theorem xb6 (h : Hp) : bodyV (xX s 6 wl k false) Tryz.f6 [t0,t1,t2,t3,t4,t5] h =
  bp (opBox t0 h) fun v1 h2 =>
  bp (opBox t4 h2) fun v3 h4 =>
  bp (callV (xX s 6 wl k false) false true (.fn (.func 8) [] []) [] h4) fun v5 h6 =>
  bm (vLoad s.P 32 v3 h6) h6 fun v7 h8 =>
  bp (callV (xX s 6 wl k false) false true (.fn (.func 9) [] []) [t1,v7] h8) fun v9 h10 =>
  bm (vUn .not v5) h10 fun v11 h12 =>
  gd v11 (
  opsP (xX s 6 wl k false) xg6_0 5 h10.length ([],[]) (runK (xX s 6 wl k false) (bodyK s.P Tryz.f6) xk6_0) ⟨(t0::t1::t2::t3::t4::t5::v1::uu::uu::uu::v3::uu::(V.lit (Value.bool false))::v5::v9::uu::uu::uu::v5::t1::v7::v9::v5::v11::(V.lit (Value.bool true))::uu::uu::uu::uu::uu::uu::uu::uu::uu::uu::uu::uu::uu::uu::uu::uu::uu::uu::uu::uu::uu::uu::uu::uu::uu::uu::uu::uu::uu::uu::uu::uu::uu::uu::uu::uu::uu::uu::uu::uu::uu::uu::uu::uu::uu::uu::uu::uu::uu::uu::uu::uu::uu::uu::uu::uu::uu::uu::uu::uu::uu::uu::uu::uu::uu::uu::uu::uu::uu::uu::uu::uu::uu::uu::uu::uu::uu::uu::uu::uu::uu::uu::uu::uu::uu::uu::uu::uu::uu::uu::uu::uu::uu::uu::uu::uu::uu::uu::uu::uu::uu::uu::uu::uu::uu::uu::uu::uu::uu::uu::uu::uu::uu::uu::uu::uu::uu::uu::uu::uu::uu::uu::uu::uu::uu::uu::uu::uu::uu::uu::uu::uu::uu::uu::uu::uu::uu::uu::uu::uu::[]),h12⟩) (
  bm (vUn .not v9) h12 fun v13 h14 =>
  opsP (xX s 6 wl k false) xg6_0 5 h10.length ([],[]) (runK (xX s 6 wl k false) (bodyK s.P Tryz.f6) xk6_0) ⟨(t0::t1::t2::t3::t4::t5::v1::uu::uu::uu::v3::uu::(V.lit (Value.bool false))::v5::v9::uu::uu::uu::v5::t1::v7::v9::v5::v11::(V.lit (Value.bool false))::v9::v13::uu::uu::uu::uu::uu::uu::uu::uu::uu::uu::uu::uu::uu::uu::uu::uu::uu::uu::uu::uu::uu::uu::uu::uu::uu::uu::uu::uu::uu::uu::uu::uu::uu::uu::uu::uu::uu::uu::uu::uu::uu::uu::uu::uu::uu::uu::uu::uu::uu::uu::uu::uu::uu::uu::uu::uu::uu::uu::uu::uu::uu::uu::uu::uu::uu::uu::uu::uu::uu::uu::uu::uu::uu::uu::uu::uu::uu::uu::uu::uu::uu::uu::uu::uu::uu::uu::uu::uu::uu::uu::uu::uu::uu::uu::uu::uu::uu::uu::uu::uu::uu::uu::uu::uu::uu::uu::uu::uu::uu::uu::uu::uu::uu::uu::uu::uu::uu::uu::uu::uu::uu::uu::uu::uu::uu::uu::uu::uu::uu::uu::uu::uu::uu::uu::uu::uu::uu::uu::[]),h14⟩) (
  opsP (xX s 6 wl k false) xg6_0 4 h10.length ([],[]) (runK (xX s 6 wl k false) (bodyK s.P Tryz.f6) xk6_0) ⟨(t0::t1::t2::t3::t4::t5::v1::uu::uu::uu::v3::uu::(V.lit (Value.bool false))::v5::v9::uu::uu::uu::v5::t1::v7::v9::v5::v11::v11::uu::uu::uu::uu::uu::uu::uu::uu::uu::uu::uu::uu::uu::uu::uu::uu::uu::uu::uu::uu::uu::uu::uu::uu::uu::uu::uu::uu::uu::uu::uu::uu::uu::uu::uu::uu::uu::uu::uu::uu::uu::uu::uu::uu::uu::uu::uu::uu::uu::uu::uu::uu::uu::uu::uu::uu::uu::uu::uu::uu::uu::uu::uu::uu::uu::uu::uu::uu::uu::uu::uu::uu::uu::uu::uu::uu::uu::uu::uu::uu::uu::uu::uu::uu::uu::uu::uu::uu::uu::uu::uu::uu::uu::uu::uu::uu::uu::uu::uu::uu::uu::uu::uu::uu::uu::uu::uu::uu::uu::uu::uu::uu::uu::uu::uu::uu::uu::uu::uu::uu::uu::uu::uu::uu::uu::uu::uu::uu::uu::uu::uu::uu::uu::uu::uu::uu::uu::uu::uu::uu::[]),h12⟩) :=
  bodyV_run rfl (go_seq (go_reg0
  (pP fun v1 h2 =>
  (pP fun v3 h4 =>
  (go_op0 rfl rfl (st_id (v := (V.lit (Value.bool false))) (H := h4) (by kernel_rfl)
  (eN
  (go_seq (go_reg0
  (pP fun v5 h6 =>
  (pI v5 h6
  (eN
  (go_seq (go_reg0
  (pI t1 h6
  (pM fun v7 h8 =>
  (pP fun v9 h10 =>
  (pI v9 h10
  (eN
  (go_seq (go_seq (go_reg0
  (pI v5 h10
  (pM fun v11 h12 =>
  (pI v11 h12
  (go_gdF0 rfl rfl rfl (by kernel_rfl)
  (sK
  (by kernel_rfl))
  (st_id (v := v9) (H := h12) (by kernel_rfl)
  (rN (st_bm (by kernel_rfl) fun v13 h14 =>
  (by kernel_rfl))))
  (by kernel_rfl)))))))))))))))))))))))))))
theorem xe6 (k wl : Nat) (h : Hp) : evF Tryz.prog xM (k + 1) wl 6 [t0,t1,t2,t3,t4,t5] h = bodyV (xX (xS k) 6 wl k false) Tryz.f6 [t0,t1,t2,t3,t4,t5] h := by kernel_rfl
theorem xm6_0 (h : Hp) : opsP (xX s 6 wl k false) xg6_0 5 m0 ac (runK (xX s 6 wl k false) (bodyK s.P Tryz.f6) xk6_0) ⟨(t0::t1::t2::t3::t4::t5::t6::t7::t8::t9::ta::tb::tc::td::te::tf::tg::th::ti::tj::tk::tl::tm::tn::tp::tq::tr::ts::tt::tu::tv::tw::tx::ty::tz::tA::tB::tC::tD::tE::tF::tG::tH::tI::tJ::tK::tL::tM::tN::tO::tP::tQ::tR::tS::tT::tU::tV::tW::tX::tY::tZ::q0::q1::q2::q3::q4::q5::q6::q7::q8::q9::qa::qb::qc::qd::qe::qf::qg::qh::qi::qj::qk::ql::qm::qn::qo::qp::qq::qr::qs::qt::qu::qv::qw::qx::qy::qz::qA::qB::qC::qD::qE::qF::qG::qH::qJ::qK::qL::qN::qO::qP::qQ::qR::qS::qT::qU::qV::qW::qX::qY::qZ::z0::z1::z2::z3::z4::z5::z6::z7::z8::z9::za::zb::zc::zd::ze::zf::zg::zh::zi::zj::zk::zl::zm::zn::zo::zp::zq::zr::zs::zt::zu::zv::zw::zx::zy::zz::zA::zB::zC::zD::zE::zF::zG::zH::[]),h⟩ =
  bm (vPick tp (V.lit (Value.bool true)) tr) h fun v15 h16 =>
  gd v15 (
  opsP (xX s 6 wl k false) xg6_0 10 m0 ac (runK (xX s 6 wl k false) (bodyK s.P Tryz.f6) xk6_0) ⟨(t0::t1::t2::t3::t4::t5::t6::t7::t8::t9::ta::tb::tc::td::te::tf::tg::th::ti::tj::tk::tl::tm::tn::tp::tq::tr::v15::(V.lit (Value.bool true))::uu::uu::uu::tx::ty::tz::tA::tB::tC::tD::tE::tF::tG::tH::tI::tJ::tK::tL::tM::tN::tO::tP::tQ::tR::tS::tT::tU::tV::tW::tX::tY::tZ::q0::q1::q2::q3::q4::q5::q6::q7::q8::q9::qa::qb::qc::qd::qe::qf::qg::qh::qi::qj::qk::ql::qm::qn::qo::qp::qq::qr::qs::qt::qu::qv::qw::qx::qy::qz::qA::qB::qC::qD::qE::qF::qG::qH::qJ::qK::qL::qN::qO::qP::qQ::qR::qS::qT::qU::qV::qW::qX::qY::qZ::z0::z1::z2::z3::z4::z5::z6::z7::z8::z9::za::zb::zc::zd::ze::zf::zg::zh::zi::zj::zk::zl::zm::zn::zo::zp::zq::zr::zs::zt::zu::zv::zw::zx::zy::zz::zA::zB::zC::zD::zE::zF::zG::zH::[]),h16⟩) (
  bp (opLen s.P 26 t2 h16) fun v17 h18 =>
  bm (vBin s.P .gtr 3 v17 (V.lit (Value.int .i64 500))) h18 fun v19 h20 =>
  opsP (xX s 6 wl k false) xg6_0 10 m0 ac (runK (xX s 6 wl k false) (bodyK s.P Tryz.f6) xk6_0) ⟨(t0::t1::t2::t3::t4::t5::t6::t7::t8::t9::ta::tb::tc::td::te::tf::tg::th::ti::tj::tk::tl::tm::tn::tp::tq::tr::v15::(V.lit (Value.bool false))::t2::v17::v19::tx::ty::tz::tA::tB::tC::tD::tE::tF::tG::tH::tI::tJ::tK::tL::tM::tN::tO::tP::tQ::tR::tS::tT::tU::tV::tW::tX::tY::tZ::q0::q1::q2::q3::q4::q5::q6::q7::q8::q9::qa::qb::qc::qd::qe::qf::qg::qh::qi::qj::qk::ql::qm::qn::qo::qp::qq::qr::qs::qt::qu::qv::qw::qx::qy::qz::qA::qB::qC::qD::qE::qF::qG::qH::qJ::qK::qL::qN::qO::qP::qQ::qR::qS::qT::qU::qV::qW::qX::qY::qZ::z0::z1::z2::z3::z4::z5::z6::z7::z8::z9::za::zb::zc::zd::ze::zf::zg::zh::zi::zj::zk::zl::zm::zn::zo::zp::zq::zr::zs::zt::zu::zv::zw::zx::zy::zz::zA::zB::zC::zD::zE::zF::zG::zH::[]),h20⟩) (
  opsP (xX s 6 wl k false) xg6_0 8 m0 ac (runK (xX s 6 wl k false) (bodyK s.P Tryz.f6) xk6_0) ⟨(t0::t1::t2::t3::t4::t5::t6::t7::t8::t9::ta::tb::tc::td::te::tf::tg::th::ti::tj::tk::tl::tm::tn::tp::tq::tr::v15::v15::uu::tv::tw::tx::ty::tz::tA::tB::tC::tD::tE::tF::tG::tH::tI::tJ::tK::tL::tM::tN::tO::tP::tQ::tR::tS::tT::tU::tV::tW::tX::tY::tZ::q0::q1::q2::q3::q4::q5::q6::q7::q8::q9::qa::qb::qc::qd::qe::qf::qg::qh::qi::qj::qk::ql::qm::qn::qo::qp::qq::qr::qs::qt::qu::qv::qw::qx::qy::qz::qA::qB::qC::qD::qE::qF::qG::qH::qJ::qK::qL::qN::qO::qP::qQ::qR::qS::qT::qU::qV::qW::qX::qY::qZ::z0::z1::z2::z3::z4::z5::z6::z7::z8::z9::za::zb::zc::zd::ze::zf::zg::zh::zi::zj::zk::zl::zm::zn::zo::zp::zq::zr::zs::zt::zu::zv::zw::zx::zy::zz::zA::zB::zC::zD::zE::zF::zG::zH::[]),h16⟩) :=
  (pM fun v15 h16 =>
  (pI v15 h16
  (go_gdF0 rfl rfl rfl (by kernel_rfl)
  (sK
  (sK
  (by kernel_rfl)))
  (st_id (v := t2) (H := h16) (by kernel_rfl)
  (rN (st_bp (by kernel_rfl) fun v17 h18 =>
  (rN (st_bm (by kernel_rfl) fun v19 h20 =>
  (by kernel_rfl))))))
  (by kernel_rfl))))
theorem xm6_1 (h : Hp) : opsP (xX s 6 wl k false) xg6_0 10 m0 ac (runK (xX s 6 wl k false) (bodyK s.P Tryz.f6) xk6_0) ⟨(t0::t1::t2::t3::t4::t5::t6::t7::t8::t9::ta::tb::tc::td::te::tf::tg::th::ti::tj::tk::tl::tm::tn::tp::tq::tr::ts::tt::tu::tv::tw::tx::ty::tz::tA::tB::tC::tD::tE::tF::tG::tH::tI::tJ::tK::tL::tM::tN::tO::tP::tQ::tR::tS::tT::tU::tV::tW::tX::tY::tZ::q0::q1::q2::q3::q4::q5::q6::q7::q8::q9::qa::qb::qc::qd::qe::qf::qg::qh::qi::qj::qk::ql::qm::qn::qo::qp::qq::qr::qs::qt::qu::qv::qw::qx::qy::qz::qA::qB::qC::qD::qE::qF::qG::qH::qJ::qK::qL::qN::qO::qP::qQ::qR::qS::qT::qU::qV::qW::qX::qY::qZ::z0::z1::z2::z3::z4::z5::z6::z7::z8::z9::za::zb::zc::zd::ze::zf::zg::zh::zi::zj::zk::zl::zm::zn::zo::zp::zq::zr::zs::zt::zu::zv::zw::zx::zy::zz::zA::zB::zC::zD::zE::zF::zG::zH::[]),h⟩ =
  bm (vPick tt (V.lit (Value.bool true)) tw) h fun v21 h22 =>
  gd v21 (
  opsP (xX s 6 wl k false) xg6_0 19 m0 ac (runK (xX s 6 wl k false) (bodyK s.P Tryz.f6) xk6_0) ⟨(t0::t1::t2::t3::t4::t5::t6::t7::t8::t9::ta::tb::tc::td::te::tf::tg::th::ti::tj::tk::tl::tm::tn::tp::tq::tr::ts::tt::tu::tv::tw::v21::(V.lit (Value.bool true))::uu::uu::uu::uu::uu::uu::uu::tG::tH::tI::tJ::tK::tL::tM::tN::tO::tP::tQ::tR::tS::tT::tU::tV::tW::tX::tY::tZ::q0::q1::q2::q3::q4::q5::q6::q7::q8::q9::qa::qb::qc::qd::qe::qf::qg::qh::qi::qj::qk::ql::qm::qn::qo::qp::qq::qr::qs::qt::qu::qv::qw::qx::qy::qz::qA::qB::qC::qD::qE::qF::qG::qH::qJ::qK::qL::qN::qO::qP::qQ::qR::qS::qT::qU::qV::qW::qX::qY::qZ::z0::z1::z2::z3::z4::z5::z6::z7::z8::z9::za::zb::zc::zd::ze::zf::zg::zh::zi::zj::zk::zl::zm::zn::zo::zp::zq::zr::zs::zt::zu::zv::zw::zx::zy::zz::zA::zB::zC::zD::zE::zF::zG::zH::[]),h22⟩) (
  bm (vLoad s.P 23 t6 h22) h22 fun v23 h24 =>
  bm (vLoad s.P 32 ta h24) h24 fun v25 h26 =>
  bp (callV (xX s 6 wl k false) false true (.fn (.func 11) [] []) [v23,t1,t2,t3,v25] h26) fun v27 h28 =>
  bm (vUn .not v27) h28 fun v29 h30 =>
  opsP (xX s 6 wl k false) xg6_0 19 m0 ac (runK (xX s 6 wl k false) (bodyK s.P Tryz.f6) xk6_0) ⟨(t0::t1::t2::t3::t4::t5::t6::t7::t8::t9::ta::tb::tc::td::te::tf::tg::th::ti::tj::tk::tl::tm::tn::tp::tq::tr::ts::tt::tu::tv::tw::v21::(V.lit (Value.bool false))::v23::t1::t2::t3::v25::v27::v29::tG::tH::tI::tJ::tK::tL::tM::tN::tO::tP::tQ::tR::tS::tT::tU::tV::tW::tX::tY::tZ::q0::q1::q2::q3::q4::q5::q6::q7::q8::q9::qa::qb::qc::qd::qe::qf::qg::qh::qi::qj::qk::ql::qm::qn::qo::qp::qq::qr::qs::qt::qu::qv::qw::qx::qy::qz::qA::qB::qC::qD::qE::qF::qG::qH::qJ::qK::qL::qN::qO::qP::qQ::qR::qS::qT::qU::qV::qW::qX::qY::qZ::z0::z1::z2::z3::z4::z5::z6::z7::z8::z9::za::zb::zc::zd::ze::zf::zg::zh::zi::zj::zk::zl::zm::zn::zo::zp::zq::zr::zs::zt::zu::zv::zw::zx::zy::zz::zA::zB::zC::zD::zE::zF::zG::zH::[]),h30⟩) (
  opsP (xX s 6 wl k false) xg6_0 13 m0 ac (runK (xX s 6 wl k false) (bodyK s.P Tryz.f6) xk6_0) ⟨(t0::t1::t2::t3::t4::t5::t6::t7::t8::t9::ta::tb::tc::td::te::tf::tg::th::ti::tj::tk::tl::tm::tn::tp::tq::tr::ts::tt::tu::tv::tw::v21::v21::uu::tA::tB::tC::tD::tE::tF::tG::tH::tI::tJ::tK::tL::tM::tN::tO::tP::tQ::tR::tS::tT::tU::tV::tW::tX::tY::tZ::q0::q1::q2::q3::q4::q5::q6::q7::q8::q9::qa::qb::qc::qd::qe::qf::qg::qh::qi::qj::qk::ql::qm::qn::qo::qp::qq::qr::qs::qt::qu::qv::qw::qx::qy::qz::qA::qB::qC::qD::qE::qF::qG::qH::qJ::qK::qL::qN::qO::qP::qQ::qR::qS::qT::qU::qV::qW::qX::qY::qZ::z0::z1::z2::z3::z4::z5::z6::z7::z8::z9::za::zb::zc::zd::ze::zf::zg::zh::zi::zj::zk::zl::zm::zn::zo::zp::zq::zr::zs::zt::zu::zv::zw::zx::zy::zz::zA::zB::zC::zD::zE::zF::zG::zH::[]),h22⟩) :=
  (pM fun v21 h22 =>
  (pI v21 h22
  (go_gdF0 rfl rfl rfl (by kernel_rfl)
  (sK
  (sK
  (sK
  (sK
  (sK
  (sK
  (by kernel_rfl)))))))
  (st_bm (by kernel_rfl) fun v23 h24 =>
  (rN (st_id (v := t1) (H := h24) (by kernel_rfl)
  (rN (st_id (v := t2) (H := h24) (by kernel_rfl)
  (rN (st_id (v := t3) (H := h24) (by kernel_rfl)
  (rN (st_bm (by kernel_rfl) fun v25 h26 =>
  (rN (st_bp (by kernel_rfl) fun v27 h28 =>
  (rN (st_bm (by kernel_rfl) fun v29 h30 =>
  (by kernel_rfl))))))))))))))
  (by kernel_rfl))))
theorem xm6_2 (h : Hp) : opsP (xX s 6 wl k false) xg6_0 19 m0 ac (runK (xX s 6 wl k false) (bodyK s.P Tryz.f6) xk6_0) ⟨(t0::t1::t2::t3::t4::t5::t6::t7::t8::t9::ta::tb::tc::td::te::tf::tg::th::ti::tj::tk::tl::tm::tn::tp::tq::tr::ts::tt::tu::tv::tw::tx::ty::tz::tA::tB::tC::tD::tE::tF::tG::tH::tI::tJ::tK::tL::tM::tN::tO::tP::tQ::tR::tS::tT::tU::tV::tW::tX::tY::tZ::q0::q1::q2::q3::q4::q5::q6::q7::q8::q9::qa::qb::qc::qd::qe::qf::qg::qh::qi::qj::qk::ql::qm::qn::qo::qp::qq::qr::qs::qt::qu::qv::qw::qx::qy::qz::qA::qB::qC::qD::qE::qF::qG::qH::qJ::qK::qL::qN::qO::qP::qQ::qR::qS::qT::qU::qV::qW::qX::qY::qZ::z0::z1::z2::z3::z4::z5::z6::z7::z8::z9::za::zb::zc::zd::ze::zf::zg::zh::zi::zj::zk::zl::zm::zn::zo::zp::zq::zr::zs::zt::zu::zv::zw::zx::zy::zz::zA::zB::zC::zD::zE::zF::zG::zH::[]),h⟩ =
  bm (vPick ty (V.lit (Value.bool true)) tF) h fun v31 h32 =>
  cnd v31 (
  some (td,h32)) (
  bm (vLoad s.P 23 t6 h32) h32 fun v33 h34 =>
  bm (vLoad s.P 32 ta h34) h34 fun v35 h36 =>
  bp (callV (xX s 6 wl k false) false true (.fn (.func 10) [] []) [v33,t1,t2,t3,v35,t5] h36) fun v37 h38 =>
  bm (vExtract v37 0) h38 fun v39 h40 =>
  bm (vExtract v37 1) h40 fun v41 h42 =>
  bm (vExtract v37 2) h42 fun v43 h44 =>
  bp (opAlloc s.P 32 h44) fun v45 h46 =>
  bs (vStore s.P wl 32 v45 v41 h46) fun h47 =>
  bm (vFieldAddr s.P 32 ta 0) h47 fun v48 h49 =>
  bm (vLoad s.P 3 v48 h49) h49 fun v50 h51 =>
  bm (vBin s.P .eql 3 v50 (V.lit (Value.int .i64 10))) h51 fun v52 h53 =>
  gd v52 (
  bp (opLen s.P 35 v43 h53) fun v54 h55 =>
  bm (vBin s.P .eql 3 v54 (V.lit (Value.int .i64 1))) h55 fun v56 h57 =>
  opsP (xX s 6 wl k false) xg6_1 7 h47.length ([],[]) (runK (xX s 6 wl k false) (bodyK s.P Tryz.f6) xk6_1) ⟨(t0::t1::t2::t3::t4::t5::t6::t7::t8::t9::ta::tb::tc::td::te::v39::v45::v43::ti::tj::tk::tl::tm::tn::tp::tq::tr::ts::tt::tu::tv::tw::tx::ty::tz::tA::tB::tC::tD::tE::tF::v31::tH::v37::v33::t1::t2::t3::v35::t5::v37::v39::v41::v43::v48::v50::v52::(V.lit (Value.bool true))::v43::v54::v56::q0::q1::q2::q3::q4::q5::q6::q7::q8::q9::qa::qb::qc::qd::qe::qf::qg::qh::qi::qj::qk::ql::qm::qn::qo::qp::qq::qr::qs::qt::qu::qv::qw::qx::qy::qz::qA::qB::qC::qD::qE::qF::qG::qH::qJ::qK::qL::qN::qO::qP::qQ::qR::qS::qT::qU::qV::qW::qX::qY::qZ::z0::z1::z2::z3::z4::z5::z6::z7::z8::z9::za::zb::zc::zd::ze::zf::zg::zh::zi::zj::zk::zl::zm::zn::zo::zp::zq::zr::zs::zt::zu::zv::zw::zx::zy::zz::zA::zB::zC::zD::zE::zF::zG::zH::[]),h57⟩) (
  opsP (xX s 6 wl k false) xg6_1 7 h47.length ([],[]) (runK (xX s 6 wl k false) (bodyK s.P Tryz.f6) xk6_1) ⟨(t0::t1::t2::t3::t4::t5::t6::t7::t8::t9::ta::tb::tc::td::te::v39::v45::v43::ti::tj::tk::tl::tm::tn::tp::tq::tr::ts::tt::tu::tv::tw::tx::ty::tz::tA::tB::tC::tD::tE::tF::v31::tH::v37::v33::t1::t2::t3::v35::t5::v37::v39::v41::v43::v48::v50::v52::(V.lit (Value.bool false))::uu::uu::uu::q0::q1::q2::q3::q4::q5::q6::q7::q8::q9::qa::qb::qc::qd::qe::qf::qg::qh::qi::qj::qk::ql::qm::qn::qo::qp::qq::qr::qs::qt::qu::qv::qw::qx::qy::qz::qA::qB::qC::qD::qE::qF::qG::qH::qJ::qK::qL::qN::qO::qP::qQ::qR::qS::qT::qU::qV::qW::qX::qY::qZ::z0::z1::z2::z3::z4::z5::z6::z7::z8::z9::za::zb::zc::zd::ze::zf::zg::zh::zi::zj::zk::zl::zm::zn::zo::zp::zq::zr::zs::zt::zu::zv::zw::zx::zy::zz::zA::zB::zC::zD::zE::zF::zG::zH::[]),h53⟩) (
  opsP (xX s 6 wl k false) xg6_1 5 h47.length ([],[]) (runK (xX s 6 wl k false) (bodyK s.P Tryz.f6) xk6_1) ⟨(t0::t1::t2::t3::t4::t5::t6::t7::t8::t9::ta::tb::tc::td::te::v39::v45::v43::ti::tj::tk::tl::tm::tn::tp::tq::tr::ts::tt::tu::tv::tw::tx::ty::tz::tA::tB::tC::tD::tE::tF::v31::tH::v37::v33::t1::t2::t3::v35::t5::v37::v39::v41::v43::v48::v50::v52::v52::uu::tY::tZ::q0::q1::q2::q3::q4::q5::q6::q7::q8::q9::qa::qb::qc::qd::qe::qf::qg::qh::qi::qj::qk::ql::qm::qn::qo::qp::qq::qr::qs::qt::qu::qv::qw::qx::qy::qz::qA::qB::qC::qD::qE::qF::qG::qH::qJ::qK::qL::qN::qO::qP::qQ::qR::qS::qT::qU::qV::qW::qX::qY::qZ::z0::z1::z2::z3::z4::z5::z6::z7::z8::z9::za::zb::zc::zd::ze::zf::zg::zh::zi::zj::zk::zl::zm::zn::zo::zp::zq::zr::zs::zt::zu::zv::zw::zx::zy::zz::zA::zB::zC::zD::zE::zF::zG::zH::[]),h53⟩)) :=
  (pM fun v31 h32 =>
  (eN
  (go_cond (by kernel_rfl)
  (go_seq (go_reg0
  (pI td h32
  (pI td h32
  (eN
  (go_ret (rt_seq_ret (by kernel_rfl))))))))
  (go_skip (go_seq (go_reg0
  (pM fun v33 h34 =>
  (pI t1 h34
  (pI t2 h34
  (pI t3 h34
  (pM fun v35 h36 =>
  (pI t5 h36
  (pP fun v37 h38 =>
  (pI v37 h38
  (pM fun v39 h40 =>
  (pM fun v41 h42 =>
  (pM fun v43 h44 =>
  (pP fun v45 h46 =>
  (pI v39 h46
  (pS fun h47 =>
  (pI v43 h47
  (eN
  (go_seq (go_seq (go_reg0
  (pM fun v48 h49 =>
  (pM fun v50 h51 =>
  (pM fun v52 h53 =>
  (pI v52 h53
  (go_gdT0 rfl rfl rfl (by kernel_rfl)
  (st_id (v := v43) (H := h53) (by kernel_rfl)
  (rN (st_bp (by kernel_rfl) fun v54 h55 =>
  (rN (st_bm (by kernel_rfl) fun v56 h57 =>
  (by kernel_rfl))))))
  (sK
  (sK
  (by kernel_rfl)))
  (by kernel_rfl)))))))))))))))))))))))))))))))
theorem xm6_3 (h : Hp) : opsP (xX s 6 wl k false) xg6_1 7 m0 ac (runK (xX s 6 wl k false) (bodyK s.P Tryz.f6) xk6_1) ⟨(t0::t1::t2::t3::t4::t5::t6::t7::t8::t9::ta::tb::tc::td::te::tf::tg::th::ti::tj::tk::tl::tm::tn::tp::tq::tr::ts::tt::tu::tv::tw::tx::ty::tz::tA::tB::tC::tD::tE::tF::tG::tH::tI::tJ::tK::tL::tM::tN::tO::tP::tQ::tR::tS::tT::tU::tV::tW::tX::tY::tZ::q0::q1::q2::q3::q4::q5::q6::q7::q8::q9::qa::qb::qc::qd::qe::qf::qg::qh::qi::qj::qk::ql::qm::qn::qo::qp::qq::qr::qs::qt::qu::qv::qw::qx::qy::qz::qA::qB::qC::qD::qE::qF::qG::qH::qJ::qK::qL::qN::qO::qP::qQ::qR::qS::qT::qU::qV::qW::qX::qY::qZ::z0::z1::z2::z3::z4::z5::z6::z7::z8::z9::za::zb::zc::zd::ze::zf::zg::zh::zi::zj::zk::zl::zm::zn::zo::zp::zq::zr::zs::zt::zu::zv::zw::zx::zy::zz::zA::zB::zC::zD::zE::zF::zG::zH::[]),h⟩ =
  bm (vPick tW tZ (V.lit (Value.bool false))) h fun v58 h59 =>
  cnd v58 (
  bm (vIndexAddr s.P 35 th (V.lit (Value.int .i64 0)) h59) h59 fun v60 h61 =>
  bm (vFieldAddr s.P 44 v60 0) h61 fun v62 h63 =>
  bm (vLoad s.P 3 v62 h63) h63 fun v64 h65 =>
  bm (vBin s.P .eql 3 v64 (V.lit (Value.int .i64 3))) h65 fun v66 h67 =>
  gd v66 (
  bm (vIndexAddr s.P 35 th (V.lit (Value.int .i64 0)) h67) h67 fun v68 h69 =>
  bm (vFieldAddr s.P 44 v68 2) h69 fun v70 h71 =>
  bm (vLoad s.P 3 v70 h71) h71 fun v72 h73 =>
  bm (vBin s.P .eql 3 v72 t3) h73 fun v74 h75 =>
  opsP (xX s 6 wl k false) xg6_2 12 h59.length ([],[]) (runK (xX s 6 wl k false) (bodyK s.P Tryz.f6) xk6_2) ⟨(t0::t1::t2::t3::t4::t5::t6::t7::t8::t9::ta::tb::tc::td::te::tf::tg::th::ti::tj::tk::tl::tm::tn::tp::tq::tr::ts::tt::tu::tv::tw::tx::ty::tz::tA::tB::tC::tD::tE::tF::tG::tH::tI::tJ::tK::tL::tM::tN::tO::tP::tQ::tR::tS::tT::tU::tV::tW::tX::tY::tZ::v58::th::v60::v62::v64::v66::(V.lit (Value.bool true))::th::v68::v70::v72::t3::v74::qd::qe::qf::qg::qh::qi::qj::qk::ql::qm::qn::qo::qp::qq::qr::qs::qt::qu::qv::qw::qx::qy::qz::qA::qB::qC::qD::qE::qF::qG::qH::qJ::qK::qL::qN::qO::qP::qQ::qR::qS::qT::qU::qV::qW::qX::qY::qZ::z0::z1::z2::z3::z4::z5::z6::z7::z8::z9::za::zb::zc::zd::ze::zf::zg::zh::zi::zj::zk::zl::zm::zn::zo::zp::zq::zr::zs::zt::zu::zv::zw::zx::zy::zz::zA::zB::zC::zD::zE::zF::zG::zH::[]),h75⟩) (
  opsP (xX s 6 wl k false) xg6_2 12 h59.length ([],[]) (runK (xX s 6 wl k false) (bodyK s.P Tryz.f6) xk6_2) ⟨(t0::t1::t2::t3::t4::t5::t6::t7::t8::t9::ta::tb::tc::td::te::tf::tg::th::ti::tj::tk::tl::tm::tn::tp::tq::tr::ts::tt::tu::tv::tw::tx::ty::tz::tA::tB::tC::tD::tE::tF::tG::tH::tI::tJ::tK::tL::tM::tN::tO::tP::tQ::tR::tS::tT::tU::tV::tW::tX::tY::tZ::v58::th::v60::v62::v64::v66::(V.lit (Value.bool false))::uu::uu::uu::uu::uu::uu::qd::qe::qf::qg::qh::qi::qj::qk::ql::qm::qn::qo::qp::qq::qr::qs::qt::qu::qv::qw::qx::qy::qz::qA::qB::qC::qD::qE::qF::qG::qH::qJ::qK::qL::qN::qO::qP::qQ::qR::qS::qT::qU::qV::qW::qX::qY::qZ::z0::z1::z2::z3::z4::z5::z6::z7::z8::z9::za::zb::zc::zd::ze::zf::zg::zh::zi::zj::zk::zl::zm::zn::zo::zp::zq::zr::zs::zt::zu::zv::zw::zx::zy::zz::zA::zB::zC::zD::zE::zF::zG::zH::[]),h67⟩) (
  opsP (xX s 6 wl k false) xg6_2 7 h59.length ([],[]) (runK (xX s 6 wl k false) (bodyK s.P Tryz.f6) xk6_2) ⟨(t0::t1::t2::t3::t4::t5::t6::t7::t8::t9::ta::tb::tc::td::te::tf::tg::th::ti::tj::tk::tl::tm::tn::tp::tq::tr::ts::tt::tu::tv::tw::tx::ty::tz::tA::tB::tC::tD::tE::tF::tG::tH::tI::tJ::tK::tL::tM::tN::tO::tP::tQ::tR::tS::tT::tU::tV::tW::tX::tY::tZ::v58::th::v60::v62::v64::v66::v66::uu::q8::q9::qa::qb::qc::qd::qe::qf::qg::qh::qi::qj::qk::ql::qm::qn::qo::qp::qq::qr::qs::qt::qu::qv::qw::qx::qy::qz::qA::qB::qC::qD::qE::qF::qG::qH::qJ::qK::qL::qN::qO::qP::qQ::qR::qS::qT::qU::qV::qW::qX::qY::qZ::z0::z1::z2::z3::z4::z5::z6::z7::z8::z9::za::zb::zc::zd::ze::zf::zg::zh::zi::zj::zk::zl::zm::zn::zo::zp::zq::zr::zs::zt::zu::zv::zw::zx::zy::zz::zA::zB::zC::zD::zE::zF::zG::zH::[]),h67⟩)) (
  bm (vFieldAddr s.P 32 ta 0) h59 fun v76 h77 =>
  bm (vLoad s.P 3 v76 h77) h77 fun v78 h79 =>
  bm (vBin s.P .eql 3 v78 (V.lit (Value.int .i64 11))) h79 fun v80 h81 =>
  gd v80 (
  bm (vFieldAddr s.P 32 tg 0) h81 fun v82 h83 =>
  bm (vLoad s.P 3 v82 h83) h83 fun v84 h85 =>
  bm (vBin s.P .eql 3 v84 (V.lit (Value.int .i64 12))) h85 fun v86 h87 =>
  opsP (xX s 6 wl k false) xg6_3 7 h59.length ([],[]) (runK (xX s 6 wl k false) (bodyK s.P Tryz.f6) xk6_3) ⟨(t0::t1::t2::t3::t4::t5::t6::t7::t8::t9::ta::tb::tc::td::te::tf::tg::th::ti::tj::tk::tl::tm::tn::tp::tq::tr::ts::tt::tu::tv::tw::tx::ty::tz::tA::tB::tC::tD::tE::tF::tG::tH::tI::tJ::tK::tL::tM::tN::tO::tP::tQ::tR::tS::tT::tU::tV::tW::tX::tY::tZ::v58::q1::q2::q3::q4::q5::q6::q7::q8::q9::qa::qb::qc::qd::qe::qf::qg::qh::qi::qj::qk::ql::qm::qn::qo::qp::qq::qr::qs::qt::qu::v76::v78::v80::(V.lit (Value.bool true))::v82::v84::v86::qC::qD::qE::qF::qG::qH::qJ::qK::qL::qN::qO::qP::qQ::qR::qS::qT::qU::qV::qW::qX::qY::qZ::z0::z1::z2::z3::z4::z5::z6::z7::z8::z9::za::zb::zc::zd::ze::zf::zg::zh::zi::zj::zk::zl::zm::zn::zo::zp::zq::zr::zs::zt::zu::zv::zw::zx::zy::zz::zA::zB::zC::zD::zE::zF::zG::zH::[]),h87⟩) (
  opsP (xX s 6 wl k false) xg6_3 7 h59.length ([],[]) (runK (xX s 6 wl k false) (bodyK s.P Tryz.f6) xk6_3) ⟨(t0::t1::t2::t3::t4::t5::t6::t7::t8::t9::ta::tb::tc::td::te::tf::tg::th::ti::tj::tk::tl::tm::tn::tp::tq::tr::ts::tt::tu::tv::tw::tx::ty::tz::tA::tB::tC::tD::tE::tF::tG::tH::tI::tJ::tK::tL::tM::tN::tO::tP::tQ::tR::tS::tT::tU::tV::tW::tX::tY::tZ::v58::q1::q2::q3::q4::q5::q6::q7::q8::q9::qa::qb::qc::qd::qe::qf::qg::qh::qi::qj::qk::ql::qm::qn::qo::qp::qq::qr::qs::qt::qu::v76::v78::v80::(V.lit (Value.bool false))::uu::uu::uu::qC::qD::qE::qF::qG::qH::qJ::qK::qL::qN::qO::qP::qQ::qR::qS::qT::qU::qV::qW::qX::qY::qZ::z0::z1::z2::z3::z4::z5::z6::z7::z8::z9::za::zb::zc::zd::ze::zf::zg::zh::zi::zj::zk::zl::zm::zn::zo::zp::zq::zr::zs::zt::zu::zv::zw::zx::zy::zz::zA::zB::zC::zD::zE::zF::zG::zH::[]),h81⟩) (
  opsP (xX s 6 wl k false) xg6_3 5 h59.length ([],[]) (runK (xX s 6 wl k false) (bodyK s.P Tryz.f6) xk6_3) ⟨(t0::t1::t2::t3::t4::t5::t6::t7::t8::t9::ta::tb::tc::td::te::tf::tg::th::ti::tj::tk::tl::tm::tn::tp::tq::tr::ts::tt::tu::tv::tw::tx::ty::tz::tA::tB::tC::tD::tE::tF::tG::tH::tI::tJ::tK::tL::tM::tN::tO::tP::tQ::tR::tS::tT::tU::tV::tW::tX::tY::tZ::v58::q1::q2::q3::q4::q5::q6::q7::q8::q9::qa::qb::qc::qd::qe::qf::qg::qh::qi::qj::qk::ql::qm::qn::qo::qp::qq::qr::qs::qt::qu::v76::v78::v80::v80::uu::qA::qB::qC::qD::qE::qF::qG::qH::qJ::qK::qL::qN::qO::qP::qQ::qR::qS::qT::qU::qV::qW::qX::qY::qZ::z0::z1::z2::z3::z4::z5::z6::z7::z8::z9::za::zb::zc::zd::ze::zf::zg::zh::zi::zj::zk::zl::zm::zn::zo::zp::zq::zr::zs::zt::zu::zv::zw::zx::zy::zz::zA::zB::zC::zD::zE::zF::zG::zH::[]),h81⟩)) :=
  (pM fun v58 h59 =>
  (eN
  (go_cond (by kernel_rfl)
  (go_seq (go_reg1 xo6_7r
  (qI xo6_7 xo6_7a th h59
  (qM xo6_7 xo6_7a fun v60 h61 =>
  (qM xo6_7 xo6_7a fun v62 h63 =>
  (qM xo6_7 xo6_7a fun v64 h65 =>
  (qM xo6_7 xo6_7a fun v66 h67 =>
  (qI xo6_7 xo6_7a v66 h67
  (go_gdT1 xo6_7 xo6_7a rfl rfl rfl rfl (by kernel_rfl)
  (st_no (by kernel_rfl) (st_id (v := th) (H := h67) (by kernel_rfl)
  (go_run1 xo6_7 xo6_7a rfl rfl rfl rfl (by kernel_rfl) (st_no (by kernel_rfl) (st_bm (by kernel_rfl) fun v68 h69 =>
  (go_run1 xo6_7 xo6_7a rfl rfl rfl rfl (by kernel_rfl) (st_no (by kernel_rfl) (st_bm (by kernel_rfl) fun v70 h71 =>
  (go_run1 xo6_7 xo6_7a rfl rfl rfl rfl (by kernel_rfl) (st_no (by kernel_rfl) (st_bm (by kernel_rfl) fun v72 h73 =>
  (go_run1 xo6_7 xo6_7a rfl rfl rfl rfl (by kernel_rfl) (st_no (by kernel_rfl) (st_id (v := t3) (H := h73) (by kernel_rfl)
  (go_run1 xo6_7 xo6_7a rfl rfl rfl rfl (by kernel_rfl) (st_no (by kernel_rfl) (st_bm (by kernel_rfl) fun v74 h75 =>
  (by kernel_rfl))))))))))))))))))
  (go_skip1 xo6_7 rfl rfl rfl rfl (by kernel_rfl)
  (go_skip1 xo6_7 rfl rfl rfl rfl (by kernel_rfl)
  (go_skip1 xo6_7 rfl rfl rfl rfl (by kernel_rfl)
  (go_skip1 xo6_7 rfl rfl rfl rfl (by kernel_rfl)
  (go_skip1 xo6_7 rfl rfl rfl rfl (by kernel_rfl)
  (by kernel_rfl))))))
  (by kernel_rfl))))))))))
  (go_skip (go_seq (go_seq (go_reg0
  (pM fun v76 h77 =>
  (pM fun v78 h79 =>
  (pM fun v80 h81 =>
  (pI v80 h81
  (go_gdT0 rfl rfl rfl (by kernel_rfl)
  (st_bm (by kernel_rfl) fun v82 h83 =>
  (rN (st_bm (by kernel_rfl) fun v84 h85 =>
  (rN (st_bm (by kernel_rfl) fun v86 h87 =>
  (by kernel_rfl))))))
  (sK
  (sK
  (by kernel_rfl)))
  (by kernel_rfl)))))))))))))
theorem xm6_4 (h : Hp) : opsP (xX s 6 wl k false) xg6_2 12 m0 ac (runK (xX s 6 wl k false) (bodyK s.P Tryz.f6) xk6_2) ⟨(t0::t1::t2::t3::t4::t5::t6::t7::t8::t9::ta::tb::tc::td::te::tf::tg::th::ti::tj::tk::tl::tm::tn::tp::tq::tr::ts::tt::tu::tv::tw::tx::ty::tz::tA::tB::tC::tD::tE::tF::tG::tH::tI::tJ::tK::tL::tM::tN::tO::tP::tQ::tR::tS::tT::tU::tV::tW::tX::tY::tZ::q0::q1::q2::q3::q4::q5::q6::q7::q8::q9::qa::qb::qc::qd::qe::qf::qg::qh::qi::qj::qk::ql::qm::qn::qo::qp::qq::qr::qs::qt::qu::qv::qw::qx::qy::qz::qA::qB::qC::qD::qE::qF::qG::qH::qJ::qK::qL::qN::qO::qP::qQ::qR::qS::qT::qU::qV::qW::qX::qY::qZ::z0::z1::z2::z3::z4::z5::z6::z7::z8::z9::za::zb::zc::zd::ze::zf::zg::zh::zi::zj::zk::zl::zm::zn::zo::zp::zq::zr::zs::zt::zu::zv::zw::zx::zy::zz::zA::zB::zC::zD::zE::zF::zG::zH::[]),h⟩ =
  bm (vPick q6 qc (V.lit (Value.bool false))) h fun v88 h89 =>
  gd v88 (
  bm (vFieldAddr s.P 32 tg 0) h89 fun v90 h91 =>
  bm (vLoad s.P 3 v90 h91) h91 fun v92 h93 =>
  bm (vBin s.P .eql 3 v92 (V.lit (Value.int .i64 11))) h93 fun v94 h95 =>
  opsP (xX s 6 wl k false) xg6_2 17 m0 ac (runK (xX s 6 wl k false) (bodyK s.P Tryz.f6) xk6_2) ⟨(t0::t1::t2::t3::t4::t5::t6::t7::t8::t9::ta::tb::tc::td::te::tf::tg::th::ti::tj::tk::tl::tm::tn::tp::tq::tr::ts::tt::tu::tv::tw::tx::ty::tz::tA::tB::tC::tD::tE::tF::tG::tH::tI::tJ::tK::tL::tM::tN::tO::tP::tQ::tR::tS::tT::tU::tV::tW::tX::tY::tZ::q0::q1::q2::q3::q4::q5::q6::q7::q8::q9::qa::qb::qc::v88::(V.lit (Value.bool true))::v90::v92::v94::qi::qj::qk::ql::qm::qn::qo::qp::qq::qr::qs::qt::qu::qv::qw::qx::qy::qz::qA::qB::qC::qD::qE::qF::qG::qH::qJ::qK::qL::qN::qO::qP::qQ::qR::qS::qT::qU::qV::qW::qX::qY::qZ::z0::z1::z2::z3::z4::z5::z6::z7::z8::z9::za::zb::zc::zd::ze::zf::zg::zh::zi::zj::zk::zl::zm::zn::zo::zp::zq::zr::zs::zt::zu::zv::zw::zx::zy::zz::zA::zB::zC::zD::zE::zF::zG::zH::[]),h95⟩) (
  opsP (xX s 6 wl k false) xg6_2 17 m0 ac (runK (xX s 6 wl k false) (bodyK s.P Tryz.f6) xk6_2) ⟨(t0::t1::t2::t3::t4::t5::t6::t7::t8::t9::ta::tb::tc::td::te::tf::tg::th::ti::tj::tk::tl::tm::tn::tp::tq::tr::ts::tt::tu::tv::tw::tx::ty::tz::tA::tB::tC::tD::tE::tF::tG::tH::tI::tJ::tK::tL::tM::tN::tO::tP::tQ::tR::tS::tT::tU::tV::tW::tX::tY::tZ::q0::q1::q2::q3::q4::q5::q6::q7::q8::q9::qa::qb::qc::v88::(V.lit (Value.bool false))::uu::uu::uu::qi::qj::qk::ql::qm::qn::qo::qp::qq::qr::qs::qt::qu::qv::qw::qx::qy::qz::qA::qB::qC::qD::qE::qF::qG::qH::qJ::qK::qL::qN::qO::qP::qQ::qR::qS::qT::qU::qV::qW::qX::qY::qZ::z0::z1::z2::z3::z4::z5::z6::z7::z8::z9::za::zb::zc::zd::ze::zf::zg::zh::zi::zj::zk::zl::zm::zn::zo::zp::zq::zr::zs::zt::zu::zv::zw::zx::zy::zz::zA::zB::zC::zD::zE::zF::zG::zH::[]),h89⟩) (
  opsP (xX s 6 wl k false) xg6_2 15 m0 ac (runK (xX s 6 wl k false) (bodyK s.P Tryz.f6) xk6_2) ⟨(t0::t1::t2::t3::t4::t5::t6::t7::t8::t9::ta::tb::tc::td::te::tf::tg::th::ti::tj::tk::tl::tm::tn::tp::tq::tr::ts::tt::tu::tv::tw::tx::ty::tz::tA::tB::tC::tD::tE::tF::tG::tH::tI::tJ::tK::tL::tM::tN::tO::tP::tQ::tR::tS::tT::tU::tV::tW::tX::tY::tZ::q0::q1::q2::q3::q4::q5::q6::q7::q8::q9::qa::qb::qc::v88::v88::uu::qg::qh::qi::qj::qk::ql::qm::qn::qo::qp::qq::qr::qs::qt::qu::qv::qw::qx::qy::qz::qA::qB::qC::qD::qE::qF::qG::qH::qJ::qK::qL::qN::qO::qP::qQ::qR::qS::qT::qU::qV::qW::qX::qY::qZ::z0::z1::z2::z3::z4::z5::z6::z7::z8::z9::za::zb::zc::zd::ze::zf::zg::zh::zi::zj::zk::zl::zm::zn::zo::zp::zq::zr::zs::zt::zu::zv::zw::zx::zy::zz::zA::zB::zC::zD::zE::zF::zG::zH::[]),h89⟩) :=
  (qM xo6_7 xo6_7a fun v88 h89 =>
  (qI xo6_7 xo6_7a v88 h89
  (go_gdT1 xo6_7 xo6_7a rfl rfl rfl rfl (by kernel_rfl)
  (st_no (by kernel_rfl) (st_bm (by kernel_rfl) fun v90 h91 =>
  (go_run1 xo6_7 xo6_7a rfl rfl rfl rfl (by kernel_rfl) (st_no (by kernel_rfl) (st_bm (by kernel_rfl) fun v92 h93 =>
  (go_run1 xo6_7 xo6_7a rfl rfl rfl rfl (by kernel_rfl) (st_no (by kernel_rfl) (st_bm (by kernel_rfl) fun v94 h95 =>
  (by kernel_rfl)))))))))
  (go_skip1 xo6_7 rfl rfl rfl rfl (by kernel_rfl)
  (go_skip1 xo6_7 rfl rfl rfl rfl (by kernel_rfl)
  (by kernel_rfl)))
  (by kernel_rfl))))
theorem xm6_5 (h : Hp) : opsP (xX s 6 wl k false) xg6_3 7 m0 ac (runK (xX s 6 wl k false) (bodyK s.P Tryz.f6) xk6_3) ⟨(t0::t1::t2::t3::t4::t5::t6::t7::t8::t9::ta::tb::tc::td::te::tf::tg::th::ti::tj::tk::tl::tm::tn::tp::tq::tr::ts::tt::tu::tv::tw::tx::ty::tz::tA::tB::tC::tD::tE::tF::tG::tH::tI::tJ::tK::tL::tM::tN::tO::tP::tQ::tR::tS::tT::tU::tV::tW::tX::tY::tZ::q0::q1::q2::q3::q4::q5::q6::q7::q8::q9::qa::qb::qc::qd::qe::qf::qg::qh::qi::qj::qk::ql::qm::qn::qo::qp::qq::qr::qs::qt::qu::qv::qw::qx::qy::qz::qA::qB::qC::qD::qE::qF::qG::qH::qJ::qK::qL::qN::qO::qP::qQ::qR::qS::qT::qU::qV::qW::qX::qY::qZ::z0::z1::z2::z3::z4::z5::z6::z7::z8::z9::za::zb::zc::zd::ze::zf::zg::zh::zi::zj::zk::zl::zm::zn::zo::zp::zq::zr::zs::zt::zu::zv::zw::zx::zy::zz::zA::zB::zC::zD::zE::zF::zG::zH::[]),h⟩ =
  bm (vPick qy qB (V.lit (Value.bool false))) h fun v96 h97 =>
  cnd v96 (
  bp (opLen s.P 35 th h97) fun v98 h99 =>
  bm (vBin s.P .eql 3 v98 (V.lit (Value.int .i64 0))) h99 fun v100 h101 =>
  gd v100 (
  bm (vFieldAddr s.P 32 tg 2) h101 fun v102 h103 =>
  bm (vFieldAddr s.P 30 v102 0) h103 fun v104 h105 =>
  bm (vLoad s.P 3 v104 h105) h105 fun v106 h107 =>
  bm (vBin s.P .eql 3 v106 (V.lit (Value.int .i64 3))) h107 fun v108 h109 =>
  opsP (xX s 6 wl k false) xg6_4 8 h97.length ([],[]) (runK (xX s 6 wl k false) (bodyK s.P Tryz.f6) xk6_4) ⟨(t0::t1::t2::t3::t4::t5::t6::t7::t8::t9::ta::tb::tc::td::te::tf::tg::th::ti::tj::tk::tl::tm::tn::tp::tq::tr::ts::tt::tu::tv::tw::tx::ty::tz::tA::tB::tC::tD::tE::tF::tG::tH::tI::tJ::tK::tL::tM::tN::tO::tP::tQ::tR::tS::tT::tU::tV::tW::tX::tY::tZ::q0::q1::q2::q3::q4::q5::q6::q7::q8::q9::qa::qb::qc::qd::qe::qf::qg::qh::qi::qj::qk::ql::qm::qn::qo::qp::qq::qr::qs::qt::qu::qv::qw::qx::qy::qz::qA::qB::v96::th::v98::v100::(V.lit (Value.bool true))::v102::v104::v106::v108::qN::qO::qP::qQ::qR::qS::qT::qU::qV::qW::qX::qY::qZ::z0::z1::z2::z3::z4::z5::z6::z7::z8::z9::za::zb::zc::zd::ze::zf::zg::zh::zi::zj::zk::zl::zm::zn::zo::zp::zq::zr::zs::zt::zu::zv::zw::zx::zy::zz::zA::zB::zC::zD::zE::zF::zG::zH::[]),h109⟩) (
  opsP (xX s 6 wl k false) xg6_4 8 h97.length ([],[]) (runK (xX s 6 wl k false) (bodyK s.P Tryz.f6) xk6_4) ⟨(t0::t1::t2::t3::t4::t5::t6::t7::t8::t9::ta::tb::tc::td::te::tf::tg::th::ti::tj::tk::tl::tm::tn::tp::tq::tr::ts::tt::tu::tv::tw::tx::ty::tz::tA::tB::tC::tD::tE::tF::tG::tH::tI::tJ::tK::tL::tM::tN::tO::tP::tQ::tR::tS::tT::tU::tV::tW::tX::tY::tZ::q0::q1::q2::q3::q4::q5::q6::q7::q8::q9::qa::qb::qc::qd::qe::qf::qg::qh::qi::qj::qk::ql::qm::qn::qo::qp::qq::qr::qs::qt::qu::qv::qw::qx::qy::qz::qA::qB::v96::th::v98::v100::(V.lit (Value.bool false))::uu::uu::uu::uu::qN::qO::qP::qQ::qR::qS::qT::qU::qV::qW::qX::qY::qZ::z0::z1::z2::z3::z4::z5::z6::z7::z8::z9::za::zb::zc::zd::ze::zf::zg::zh::zi::zj::zk::zl::zm::zn::zo::zp::zq::zr::zs::zt::zu::zv::zw::zx::zy::zz::zA::zB::zC::zD::zE::zF::zG::zH::[]),h101⟩) (
  opsP (xX s 6 wl k false) xg6_4 5 h97.length ([],[]) (runK (xX s 6 wl k false) (bodyK s.P Tryz.f6) xk6_4) ⟨(t0::t1::t2::t3::t4::t5::t6::t7::t8::t9::ta::tb::tc::td::te::tf::tg::th::ti::tj::tk::tl::tm::tn::tp::tq::tr::ts::tt::tu::tv::tw::tx::ty::tz::tA::tB::tC::tD::tE::tF::tG::tH::tI::tJ::tK::tL::tM::tN::tO::tP::tQ::tR::tS::tT::tU::tV::tW::tX::tY::tZ::q0::q1::q2::q3::q4::q5::q6::q7::q8::q9::qa::qb::qc::qd::qe::qf::qg::qh::qi::qj::qk::ql::qm::qn::qo::qp::qq::qr::qs::qt::qu::qv::qw::qx::qy::qz::qA::qB::v96::th::v98::v100::v100::uu::qJ::qK::qL::qN::qO::qP::qQ::qR::qS::qT::qU::qV::qW::qX::qY::qZ::z0::z1::z2::z3::z4::z5::z6::z7::z8::z9::za::zb::zc::zd::ze::zf::zg::zh::zi::zj::zk::zl::zm::zn::zo::zp::zq::zr::zs::zt::zu::zv::zw::zx::zy::zz::zA::zB::zC::zD::zE::zF::zG::zH::[]),h101⟩)) (
  bm (vFieldAddr s.P 32 ta 0) h97 fun v110 h111 =>
  bm (vLoad s.P 3 v110 h111) h111 fun v112 h113 =>
  bm (vBin s.P .eql 3 v112 (V.lit (Value.int .i64 12))) h113 fun v114 h115 =>
  gd v114 (
  bm (vFieldAddr s.P 32 tg 0) h115 fun v116 h117 =>
  bm (vLoad s.P 3 v116 h117) h117 fun v118 h119 =>
  bm (vBin s.P .eql 3 v118 (V.lit (Value.int .i64 9))) h119 fun v120 h121 =>
  opsP (xX s 6 wl k false) xg6_5 7 h97.length ([],[]) (runK (xX s 6 wl k false) (bodyK s.P Tryz.f6) xk6_5) ⟨(t0::t1::t2::t3::t4::t5::t6::t7::t8::t9::ta::tb::tc::td::te::tf::tg::th::ti::tj::tk::tl::tm::tn::tp::tq::tr::ts::tt::tu::tv::tw::tx::ty::tz::tA::tB::tC::tD::tE::tF::tG::tH::tI::tJ::tK::tL::tM::tN::tO::tP::tQ::tR::tS::tT::tU::tV::tW::tX::tY::tZ::q0::q1::q2::q3::q4::q5::q6::q7::q8::q9::qa::qb::qc::qd::qe::qf::qg::qh::qi::qj::qk::ql::qm::qn::qo::qp::qq::qr::qs::qt::qu::qv::qw::qx::qy::qz::qA::qB::v96::qD::qE::qF::qG::qH::qJ::qK::qL::qN::qO::qP::qQ::qR::qS::qT::qU::qV::qW::qX::qY::qZ::z0::v110::v112::v114::(V.lit (Value.bool true))::v116::v118::v120::z8::z9::za::zb::zc::zd::ze::zf::zg::zh::zi::zj::zk::zl::zm::zn::zo::zp::zq::zr::zs::zt::zu::zv::zw::zx::zy::zz::zA::zB::zC::zD::zE::zF::zG::zH::[]),h121⟩) (
  opsP (xX s 6 wl k false) xg6_5 7 h97.length ([],[]) (runK (xX s 6 wl k false) (bodyK s.P Tryz.f6) xk6_5) ⟨(t0::t1::t2::t3::t4::t5::t6::t7::t8::t9::ta::tb::tc::td::te::tf::tg::th::ti::tj::tk::tl::tm::tn::tp::tq::tr::ts::tt::tu::tv::tw::tx::ty::tz::tA::tB::tC::tD::tE::tF::tG::tH::tI::tJ::tK::tL::tM::tN::tO::tP::tQ::tR::tS::tT::tU::tV::tW::tX::tY::tZ::q0::q1::q2::q3::q4::q5::q6::q7::q8::q9::qa::qb::qc::qd::qe::qf::qg::qh::qi::qj::qk::ql::qm::qn::qo::qp::qq::qr::qs::qt::qu::qv::qw::qx::qy::qz::qA::qB::v96::qD::qE::qF::qG::qH::qJ::qK::qL::qN::qO::qP::qQ::qR::qS::qT::qU::qV::qW::qX::qY::qZ::z0::v110::v112::v114::(V.lit (Value.bool false))::uu::uu::uu::z8::z9::za::zb::zc::zd::ze::zf::zg::zh::zi::zj::zk::zl::zm::zn::zo::zp::zq::zr::zs::zt::zu::zv::zw::zx::zy::zz::zA::zB::zC::zD::zE::zF::zG::zH::[]),h115⟩) (
  opsP (xX s 6 wl k false) xg6_5 5 h97.length ([],[]) (runK (xX s 6 wl k false) (bodyK s.P Tryz.f6) xk6_5) ⟨(t0::t1::t2::t3::t4::t5::t6::t7::t8::t9::ta::tb::tc::td::te::tf::tg::th::ti::tj::tk::tl::tm::tn::tp::tq::tr::ts::tt::tu::tv::tw::tx::ty::tz::tA::tB::tC::tD::tE::tF::tG::tH::tI::tJ::tK::tL::tM::tN::tO::tP::tQ::tR::tS::tT::tU::tV::tW::tX::tY::tZ::q0::q1::q2::q3::q4::q5::q6::q7::q8::q9::qa::qb::qc::qd::qe::qf::qg::qh::qi::qj::qk::ql::qm::qn::qo::qp::qq::qr::qs::qt::qu::qv::qw::qx::qy::qz::qA::qB::v96::qD::qE::qF::qG::qH::qJ::qK::qL::qN::qO::qP::qQ::qR::qS::qT::qU::qV::qW::qX::qY::qZ::z0::v110::v112::v114::v114::uu::z6::z7::z8::z9::za::zb::zc::zd::ze::zf::zg::zh::zi::zj::zk::zl::zm::zn::zo::zp::zq::zr::zs::zt::zu::zv::zw::zx::zy::zz::zA::zB::zC::zD::zE::zF::zG::zH::[]),h115⟩)) :=
  (pM fun v96 h97 =>
  (eN
  (go_cond (by kernel_rfl)
  (go_seq (go_reg0
  (pI th h97
  (pP fun v98 h99 =>
  (pM fun v100 h101 =>
  (pI v100 h101
  (go_gdT0 rfl rfl rfl (by kernel_rfl)
  (st_bm (by kernel_rfl) fun v102 h103 =>
  (rN (st_bm (by kernel_rfl) fun v104 h105 =>
  (rN (st_bm (by kernel_rfl) fun v106 h107 =>
  (rN (st_bm (by kernel_rfl) fun v108 h109 =>
  (by kernel_rfl))))))))
  (sK
  (sK
  (sK
  (by kernel_rfl))))
  (by kernel_rfl))))))))
  (go_skip (go_seq (go_seq (go_reg0
  (pM fun v110 h111 =>
  (pM fun v112 h113 =>
  (pM fun v114 h115 =>
  (pI v114 h115
  (go_gdT0 rfl rfl rfl (by kernel_rfl)
  (st_bm (by kernel_rfl) fun v116 h117 =>
  (rN (st_bm (by kernel_rfl) fun v118 h119 =>
  (rN (st_bm (by kernel_rfl) fun v120 h121 =>
  (by kernel_rfl))))))
  (sK
  (sK
  (by kernel_rfl)))
  (by kernel_rfl)))))))))))))
theorem xm6_6 (h : Hp) : opsP (xX s 6 wl k false) xg6_2 17 m0 ac (runK (xX s 6 wl k false) (bodyK s.P Tryz.f6) xk6_2) ⟨(t0::t1::t2::t3::t4::t5::t6::t7::t8::t9::ta::tb::tc::td::te::tf::tg::th::ti::tj::tk::tl::tm::tn::tp::tq::tr::ts::tt::tu::tv::tw::tx::ty::tz::tA::tB::tC::tD::tE::tF::tG::tH::tI::tJ::tK::tL::tM::tN::tO::tP::tQ::tR::tS::tT::tU::tV::tW::tX::tY::tZ::q0::q1::q2::q3::q4::q5::q6::q7::q8::q9::qa::qb::qc::qd::qe::qf::qg::qh::qi::qj::qk::ql::qm::qn::qo::qp::qq::qr::qs::qt::qu::qv::qw::qx::qy::qz::qA::qB::qC::qD::qE::qF::qG::qH::qJ::qK::qL::qN::qO::qP::qQ::qR::qS::qT::qU::qV::qW::qX::qY::qZ::z0::z1::z2::z3::z4::z5::z6::z7::z8::z9::za::zb::zc::zd::ze::zf::zg::zh::zi::zj::zk::zl::zm::zn::zo::zp::zq::zr::zs::zt::zu::zv::zw::zx::zy::zz::zA::zB::zC::zD::zE::zF::zG::zH::[]),h⟩ =
  bm (vPick qe qh (V.lit (Value.bool false))) h fun v122 h123 =>
  gd v122 (
  bm (vFieldAddr s.P 32 tg 2) h123 fun v124 h125 =>
  bm (vLoad s.P 30 v124 h125) h125 fun v126 h127 =>
  bm (vIndexAddr s.P 35 th (V.lit (Value.int .i64 0)) h127) h127 fun v128 h129 =>
  bm (vFieldAddr s.P 44 v128 1) h129 fun v130 h131 =>
  bm (vLoad s.P 3 v130 h131) h131 fun v132 h133 =>
  bm (vConv s.P 3 28 v132) h133 fun v134 h135 =>
  bm (vBuild s.P 30 [(0,(V.lit (Value.int .i64 0))),(2,t3),(3,v134)]) h135 fun v136 h137 =>
  bm (vBin s.P .eql 30 v126 v136) h137 fun v138 h139 =>
  opsP (xX s 6 wl k false) xg6_2 29 m0 ac (runK (xX s 6 wl k false) (bodyK s.P Tryz.f6) xk6_2) ⟨(t0::t1::t2::t3::t4::t5::t6::t7::t8::t9::ta::tb::tc::td::te::tf::tg::th::ti::tj::tk::tl::tm::tn::tp::tq::tr::ts::tt::tu::tv::tw::tx::ty::tz::tA::tB::tC::tD::tE::tF::tG::tH::tI::tJ::tK::tL::tM::tN::tO::tP::tQ::tR::tS::tT::tU::tV::tW::tX::tY::tZ::q0::q1::q2::q3::q4::q5::q6::q7::q8::q9::qa::qb::qc::qd::qe::qf::qg::qh::v122::(V.lit (Value.bool true))::v124::v126::t3::th::v128::v130::v132::v134::v136::v138::qu::qv::qw::qx::qy::qz::qA::qB::qC::qD::qE::qF::qG::qH::qJ::qK::qL::qN::qO::qP::qQ::qR::qS::qT::qU::qV::qW::qX::qY::qZ::z0::z1::z2::z3::z4::z5::z6::z7::z8::z9::za::zb::zc::zd::ze::zf::zg::zh::zi::zj::zk::zl::zm::zn::zo::zp::zq::zr::zs::zt::zu::zv::zw::zx::zy::zz::zA::zB::zC::zD::zE::zF::zG::zH::[]),h139⟩) (
  opsP (xX s 6 wl k false) xg6_2 29 m0 ac (runK (xX s 6 wl k false) (bodyK s.P Tryz.f6) xk6_2) ⟨(t0::t1::t2::t3::t4::t5::t6::t7::t8::t9::ta::tb::tc::td::te::tf::tg::th::ti::tj::tk::tl::tm::tn::tp::tq::tr::ts::tt::tu::tv::tw::tx::ty::tz::tA::tB::tC::tD::tE::tF::tG::tH::tI::tJ::tK::tL::tM::tN::tO::tP::tQ::tR::tS::tT::tU::tV::tW::tX::tY::tZ::q0::q1::q2::q3::q4::q5::q6::q7::q8::q9::qa::qb::qc::qd::qe::qf::qg::qh::v122::(V.lit (Value.bool false))::uu::uu::uu::uu::uu::uu::uu::uu::uu::uu::qu::qv::qw::qx::qy::qz::qA::qB::qC::qD::qE::qF::qG::qH::qJ::qK::qL::qN::qO::qP::qQ::qR::qS::qT::qU::qV::qW::qX::qY::qZ::z0::z1::z2::z3::z4::z5::z6::z7::z8::z9::za::zb::zc::zd::ze::zf::zg::zh::zi::zj::zk::zl::zm::zn::zo::zp::zq::zr::zs::zt::zu::zv::zw::zx::zy::zz::zA::zB::zC::zD::zE::zF::zG::zH::[]),h123⟩) (
  opsP (xX s 6 wl k false) xg6_2 20 m0 ac (runK (xX s 6 wl k false) (bodyK s.P Tryz.f6) xk6_2) ⟨(t0::t1::t2::t3::t4::t5::t6::t7::t8::t9::ta::tb::tc::td::te::tf::tg::th::ti::tj::tk::tl::tm::tn::tp::tq::tr::ts::tt::tu::tv::tw::tx::ty::tz::tA::tB::tC::tD::tE::tF::tG::tH::tI::tJ::tK::tL::tM::tN::tO::tP::tQ::tR::tS::tT::tU::tV::tW::tX::tY::tZ::q0::q1::q2::q3::q4::q5::q6::q7::q8::q9::qa::qb::qc::qd::qe::qf::qg::qh::v122::v122::uu::ql::qm::qn::qo::qp::qq::qr::qs::qt::qu::qv::qw::qx::qy::qz::qA::qB::qC::qD::qE::qF::qG::qH::qJ::qK::qL::qN::qO::qP::qQ::qR::qS::qT::qU::qV::qW::qX::qY::qZ::z0::z1::z2::z3::z4::z5::z6::z7::z8::z9::za::zb::zc::zd::ze::zf::zg::zh::zi::zj::zk::zl::zm::zn::zo::zp::zq::zr::zs::zt::zu::zv::zw::zx::zy::zz::zA::zB::zC::zD::zE::zF::zG::zH::[]),h123⟩) :=
  (qM xo6_7 xo6_7a fun v122 h123 =>
  (qI xo6_7 xo6_7a v122 h123
  (go_gdT1 xo6_7 xo6_7a rfl rfl rfl rfl (by kernel_rfl)
  (st_no (by kernel_rfl) (st_bm (by kernel_rfl) fun v124 h125 =>
  (go_run1 xo6_7 xo6_7a rfl rfl rfl rfl (by kernel_rfl) (st_no (by kernel_rfl) (st_bm (by kernel_rfl) fun v126 h127 =>
  (go_run1 xo6_7 xo6_7a rfl rfl rfl rfl (by kernel_rfl) (st_no (by kernel_rfl) (st_id (v := t3) (H := h127) (by kernel_rfl)
  (go_run1 xo6_7 xo6_7a rfl rfl rfl rfl (by kernel_rfl) (st_no (by kernel_rfl) (st_id (v := th) (H := h127) (by kernel_rfl)
  (go_run1 xo6_7 xo6_7a rfl rfl rfl rfl (by kernel_rfl) (st_no (by kernel_rfl) (st_bm (by kernel_rfl) fun v128 h129 =>
  (go_run1 xo6_7 xo6_7a rfl rfl rfl rfl (by kernel_rfl) (st_no (by kernel_rfl) (st_bm (by kernel_rfl) fun v130 h131 =>
  (go_run1 xo6_7 xo6_7a rfl rfl rfl rfl (by kernel_rfl) (st_no (by kernel_rfl) (st_bm (by kernel_rfl) fun v132 h133 =>
  (go_run1 xo6_7 xo6_7a rfl rfl rfl rfl (by kernel_rfl) (st_no (by kernel_rfl) (st_bm (by kernel_rfl) fun v134 h135 =>
  (go_run1 xo6_7 xo6_7a rfl rfl rfl rfl (by kernel_rfl) (st_no (by kernel_rfl) (st_bm (by kernel_rfl) fun v136 h137 =>
  (go_run1 xo6_7 xo6_7a rfl rfl rfl rfl (by kernel_rfl) (st_no (by kernel_rfl) (st_bm (by kernel_rfl) fun v138 h139 =>
  (by kernel_rfl))))))))))))))))))))))))))))))
  (go_skip1 xo6_7 rfl rfl rfl rfl (by kernel_rfl)
  (go_skip1 xo6_7 rfl rfl rfl rfl (by kernel_rfl)
  (go_skip1 xo6_7 rfl rfl rfl rfl (by kernel_rfl)
  (go_skip1 xo6_7 rfl rfl rfl rfl (by kernel_rfl)
  (go_skip1 xo6_7 rfl rfl rfl rfl (by kernel_rfl)
  (go_skip1 xo6_7 rfl rfl rfl rfl (by kernel_rfl)
  (go_skip1 xo6_7 rfl rfl rfl rfl (by kernel_rfl)
  (go_skip1 xo6_7 rfl rfl rfl rfl (by kernel_rfl)
  (go_skip1 xo6_7 rfl rfl rfl rfl (by kernel_rfl)
  (by kernel_rfl))))))))))
  (by kernel_rfl))))
theorem xm6_7 (h : Hp) : opsP (xX s 6 wl k false) xg6_4 8 m0 ac (runK (xX s 6 wl k false) (bodyK s.P Tryz.f6) xk6_4) ⟨(t0::t1::t2::t3::t4::t5::t6::t7::t8::t9::ta::tb::tc::td::te::tf::tg::th::ti::tj::tk::tl::tm::tn::tp::tq::tr::ts::tt::tu::tv::tw::tx::ty::tz::tA::tB::tC::tD::tE::tF::tG::tH::tI::tJ::tK::tL::tM::tN::tO::tP::tQ::tR::tS::tT::tU::tV::tW::tX::tY::tZ::q0::q1::q2::q3::q4::q5::q6::q7::q8::q9::qa::qb::qc::qd::qe::qf::qg::qh::qi::qj::qk::ql::qm::qn::qo::qp::qq::qr::qs::qt::qu::qv::qw::qx::qy::qz::qA::qB::qC::qD::qE::qF::qG::qH::qJ::qK::qL::qN::qO::qP::qQ::qR::qS::qT::qU::qV::qW::qX::qY::qZ::z0::z1::z2::z3::z4::z5::z6::z7::z8::z9::za::zb::zc::zd::ze::zf::zg::zh::zi::zj::zk::zl::zm::zn::zo::zp::zq::zr::zs::zt::zu::zv::zw::zx::zy::zz::zA::zB::zC::zD::zE::zF::zG::zH::[]),h⟩ =
  bm (vPick qG qL (V.lit (Value.bool false))) h fun v140 h141 =>
  gd v140 (
  bm (vFieldAddr s.P 32 tg 2) h141 fun v142 h143 =>
  bm (vFieldAddr s.P 30 v142 2) h143 fun v144 h145 =>
  bm (vLoad s.P 3 v144 h145) h145 fun v146 h147 =>
  bm (vBin s.P .eql 3 v146 t3) h147 fun v148 h149 =>
  opsP (xX s 6 wl k false) xg6_4 15 m0 ac (runK (xX s 6 wl k false) (bodyK s.P Tryz.f6) xk6_4) ⟨(t0::t1::t2::t3::t4::t5::t6::t7::t8::t9::ta::tb::tc::td::te::tf::tg::th::ti::tj::tk::tl::tm::tn::tp::tq::tr::ts::tt::tu::tv::tw::tx::ty::tz::tA::tB::tC::tD::tE::tF::tG::tH::tI::tJ::tK::tL::tM::tN::tO::tP::tQ::tR::tS::tT::tU::tV::tW::tX::tY::tZ::q0::q1::q2::q3::q4::q5::q6::q7::q8::q9::qa::qb::qc::qd::qe::qf::qg::qh::qi::qj::qk::ql::qm::qn::qo::qp::qq::qr::qs::qt::qu::qv::qw::qx::qy::qz::qA::qB::qC::qD::qE::qF::qG::qH::qJ::qK::qL::v140::(V.lit (Value.bool true))::v142::v144::v146::t3::v148::qU::qV::qW::qX::qY::qZ::z0::z1::z2::z3::z4::z5::z6::z7::z8::z9::za::zb::zc::zd::ze::zf::zg::zh::zi::zj::zk::zl::zm::zn::zo::zp::zq::zr::zs::zt::zu::zv::zw::zx::zy::zz::zA::zB::zC::zD::zE::zF::zG::zH::[]),h149⟩) (
  opsP (xX s 6 wl k false) xg6_4 15 m0 ac (runK (xX s 6 wl k false) (bodyK s.P Tryz.f6) xk6_4) ⟨(t0::t1::t2::t3::t4::t5::t6::t7::t8::t9::ta::tb::tc::td::te::tf::tg::th::ti::tj::tk::tl::tm::tn::tp::tq::tr::ts::tt::tu::tv::tw::tx::ty::tz::tA::tB::tC::tD::tE::tF::tG::tH::tI::tJ::tK::tL::tM::tN::tO::tP::tQ::tR::tS::tT::tU::tV::tW::tX::tY::tZ::q0::q1::q2::q3::q4::q5::q6::q7::q8::q9::qa::qb::qc::qd::qe::qf::qg::qh::qi::qj::qk::ql::qm::qn::qo::qp::qq::qr::qs::qt::qu::qv::qw::qx::qy::qz::qA::qB::qC::qD::qE::qF::qG::qH::qJ::qK::qL::v140::(V.lit (Value.bool false))::uu::uu::uu::uu::uu::qU::qV::qW::qX::qY::qZ::z0::z1::z2::z3::z4::z5::z6::z7::z8::z9::za::zb::zc::zd::ze::zf::zg::zh::zi::zj::zk::zl::zm::zn::zo::zp::zq::zr::zs::zt::zu::zv::zw::zx::zy::zz::zA::zB::zC::zD::zE::zF::zG::zH::[]),h141⟩) (
  opsP (xX s 6 wl k false) xg6_4 11 m0 ac (runK (xX s 6 wl k false) (bodyK s.P Tryz.f6) xk6_4) ⟨(t0::t1::t2::t3::t4::t5::t6::t7::t8::t9::ta::tb::tc::td::te::tf::tg::th::ti::tj::tk::tl::tm::tn::tp::tq::tr::ts::tt::tu::tv::tw::tx::ty::tz::tA::tB::tC::tD::tE::tF::tG::tH::tI::tJ::tK::tL::tM::tN::tO::tP::tQ::tR::tS::tT::tU::tV::tW::tX::tY::tZ::q0::q1::q2::q3::q4::q5::q6::q7::q8::q9::qa::qb::qc::qd::qe::qf::qg::qh::qi::qj::qk::ql::qm::qn::qo::qp::qq::qr::qs::qt::qu::qv::qw::qx::qy::qz::qA::qB::qC::qD::qE::qF::qG::qH::qJ::qK::qL::v140::v140::uu::qQ::qR::qS::qT::qU::qV::qW::qX::qY::qZ::z0::z1::z2::z3::z4::z5::z6::z7::z8::z9::za::zb::zc::zd::ze::zf::zg::zh::zi::zj::zk::zl::zm::zn::zo::zp::zq::zr::zs::zt::zu::zv::zw::zx::zy::zz::zA::zB::zC::zD::zE::zF::zG::zH::[]),h141⟩) :=
  (pM fun v140 h141 =>
  (pI v140 h141
  (go_gdT0 rfl rfl rfl (by kernel_rfl)
  (st_bm (by kernel_rfl) fun v142 h143 =>
  (rN (st_bm (by kernel_rfl) fun v144 h145 =>
  (rN (st_bm (by kernel_rfl) fun v146 h147 =>
  (rN (st_id (v := t3) (H := h147) (by kernel_rfl)
  (rN (st_bm (by kernel_rfl) fun v148 h149 =>
  (by kernel_rfl))))))))))
  (sK
  (sK
  (sK
  (sK
  (by kernel_rfl)))))
  (by kernel_rfl))))
theorem xm6_8 (h : Hp) : opsP (xX s 6 wl k false) xg6_5 7 m0 ac (runK (xX s 6 wl k false) (bodyK s.P Tryz.f6) xk6_5) ⟨(t0::t1::t2::t3::t4::t5::t6::t7::t8::t9::ta::tb::tc::td::te::tf::tg::th::ti::tj::tk::tl::tm::tn::tp::tq::tr::ts::tt::tu::tv::tw::tx::ty::tz::tA::tB::tC::tD::tE::tF::tG::tH::tI::tJ::tK::tL::tM::tN::tO::tP::tQ::tR::tS::tT::tU::tV::tW::tX::tY::tZ::q0::q1::q2::q3::q4::q5::q6::q7::q8::q9::qa::qb::qc::qd::qe::qf::qg::qh::qi::qj::qk::ql::qm::qn::qo::qp::qq::qr::qs::qt::qu::qv::qw::qx::qy::qz::qA::qB::qC::qD::qE::qF::qG::qH::qJ::qK::qL::qN::qO::qP::qQ::qR::qS::qT::qU::qV::qW::qX::qY::qZ::z0::z1::z2::z3::z4::z5::z6::z7::z8::z9::za::zb::zc::zd::ze::zf::zg::zh::zi::zj::zk::zl::zm::zn::zo::zp::zq::zr::zs::zt::zu::zv::zw::zx::zy::zz::zA::zB::zC::zD::zE::zF::zG::zH::[]),h⟩ =
  bm (vPick z4 z7 (V.lit (Value.bool false))) h fun v150 h151 =>
  cnd v150 (
  bp (opLen s.P 35 th h151) fun v152 h153 =>
  bm (vBin s.P .eql 3 v152 (V.lit (Value.int .i64 1))) h153 fun v154 h155 =>
  gd v154 (
  bm (vIndexAddr s.P 35 th (V.lit (Value.int .i64 0)) h155) h155 fun v156 h157 =>
  bm (vFieldAddr s.P 44 v156 0) h157 fun v158 h159 =>
  bm (vLoad s.P 3 v158 h159) h159 fun v160 h161 =>
  bm (vBin s.P .eql 3 v160 (V.lit (Value.int .i64 2))) h161 fun v162 h163 =>
  opsP (xX s 6 wl k false) xg6_6 9 h151.length ([],[]) (runK (xX s 6 wl k false) (bodyK s.P Tryz.f6) xk6_6) ⟨(t0::t1::t2::t3::t4::t5::t6::t7::t8::t9::ta::tb::tc::td::te::tf::tg::th::ti::tj::tk::tl::tm::tn::tp::tq::tr::ts::tt::tu::tv::tw::tx::ty::tz::tA::tB::tC::tD::tE::tF::tG::tH::tI::tJ::tK::tL::tM::tN::tO::tP::tQ::tR::tS::tT::tU::tV::tW::tX::tY::tZ::q0::q1::q2::q3::q4::q5::q6::q7::q8::q9::qa::qb::qc::qd::qe::qf::qg::qh::qi::qj::qk::ql::qm::qn::qo::qp::qq::qr::qs::qt::qu::qv::qw::qx::qy::qz::qA::qB::qC::qD::qE::qF::qG::qH::qJ::qK::qL::qN::qO::qP::qQ::qR::qS::qT::qU::qV::qW::qX::qY::qZ::z0::z1::z2::z3::z4::z5::z6::z7::v150::th::v152::v154::(V.lit (Value.bool true))::th::v156::v158::v160::v162::zi::zj::zk::zl::zm::zn::zo::zp::zq::zr::zs::zt::zu::zv::zw::zx::zy::zz::zA::zB::zC::zD::zE::zF::zG::zH::[]),h163⟩) (
  opsP (xX s 6 wl k false) xg6_6 9 h151.length ([],[]) (runK (xX s 6 wl k false) (bodyK s.P Tryz.f6) xk6_6) ⟨(t0::t1::t2::t3::t4::t5::t6::t7::t8::t9::ta::tb::tc::td::te::tf::tg::th::ti::tj::tk::tl::tm::tn::tp::tq::tr::ts::tt::tu::tv::tw::tx::ty::tz::tA::tB::tC::tD::tE::tF::tG::tH::tI::tJ::tK::tL::tM::tN::tO::tP::tQ::tR::tS::tT::tU::tV::tW::tX::tY::tZ::q0::q1::q2::q3::q4::q5::q6::q7::q8::q9::qa::qb::qc::qd::qe::qf::qg::qh::qi::qj::qk::ql::qm::qn::qo::qp::qq::qr::qs::qt::qu::qv::qw::qx::qy::qz::qA::qB::qC::qD::qE::qF::qG::qH::qJ::qK::qL::qN::qO::qP::qQ::qR::qS::qT::qU::qV::qW::qX::qY::qZ::z0::z1::z2::z3::z4::z5::z6::z7::v150::th::v152::v154::(V.lit (Value.bool false))::uu::uu::uu::uu::uu::zi::zj::zk::zl::zm::zn::zo::zp::zq::zr::zs::zt::zu::zv::zw::zx::zy::zz::zA::zB::zC::zD::zE::zF::zG::zH::[]),h155⟩) (
  opsP (xX s 6 wl k false) xg6_6 5 h151.length ([],[]) (runK (xX s 6 wl k false) (bodyK s.P Tryz.f6) xk6_6) ⟨(t0::t1::t2::t3::t4::t5::t6::t7::t8::t9::ta::tb::tc::td::te::tf::tg::th::ti::tj::tk::tl::tm::tn::tp::tq::tr::ts::tt::tu::tv::tw::tx::ty::tz::tA::tB::tC::tD::tE::tF::tG::tH::tI::tJ::tK::tL::tM::tN::tO::tP::tQ::tR::tS::tT::tU::tV::tW::tX::tY::tZ::q0::q1::q2::q3::q4::q5::q6::q7::q8::q9::qa::qb::qc::qd::qe::qf::qg::qh::qi::qj::qk::ql::qm::qn::qo::qp::qq::qr::qs::qt::qu::qv::qw::qx::qy::qz::qA::qB::qC::qD::qE::qF::qG::qH::qJ::qK::qL::qN::qO::qP::qQ::qR::qS::qT::qU::qV::qW::qX::qY::qZ::z0::z1::z2::z3::z4::z5::z6::z7::v150::th::v152::v154::v154::uu::ze::zf::zg::zh::zi::zj::zk::zl::zm::zn::zo::zp::zq::zr::zs::zt::zu::zv::zw::zx::zy::zz::zA::zB::zC::zD::zE::zF::zG::zH::[]),h155⟩)) (
  bm (vFieldAddr s.P 32 tg 0) h151 fun v164 h165 =>
  bm (vLoad s.P 3 v164 h165) h165 fun v166 h167 =>
  bm (vBin s.P .neq 3 v166 (V.lit (Value.int .i64 11))) h167 fun v168 h169 =>
  gd v168 (
  opsP (xX s 6 wl k false) xg6_7 7 h151.length ([],[]) (runK (xX s 6 wl k false) (bodyK s.P Tryz.f6) xk6_7) ⟨(t0::t1::t2::t3::t4::t5::t6::t7::t8::t9::ta::tb::tc::td::te::tf::tg::th::ti::tj::tk::tl::tm::tn::tp::tq::tr::ts::tt::tu::tv::tw::tx::ty::tz::tA::tB::tC::tD::tE::tF::tG::tH::tI::tJ::tK::tL::tM::tN::tO::tP::tQ::tR::tS::tT::tU::tV::tW::tX::tY::tZ::q0::q1::q2::q3::q4::q5::q6::q7::q8::q9::qa::qb::qc::qd::qe::qf::qg::qh::qi::qj::qk::ql::qm::qn::qo::qp::qq::qr::qs::qt::qu::qv::qw::qx::qy::qz::qA::qB::qC::qD::qE::qF::qG::qH::qJ::qK::qL::qN::qO::qP::qQ::qR::qS::qT::qU::qV::qW::qX::qY::qZ::z0::z1::z2::z3::z4::z5::z6::z7::v150::z9::za::zb::zc::zd::ze::zf::zg::zh::zi::zj::zk::zl::zm::zn::zo::zp::zq::zr::zs::zt::zu::zv::zw::zx::zy::zz::v164::v166::v168::(V.lit (Value.bool true))::uu::uu::uu::zH::[]),h169⟩) (
  bm (vFieldAddr s.P 32 ta 0) h169 fun v170 h171 =>
  bm (vLoad s.P 3 v170 h171) h171 fun v172 h173 =>
  bm (vBin s.P .eql 3 v172 (V.lit (Value.int .i64 11))) h173 fun v174 h175 =>
  opsP (xX s 6 wl k false) xg6_7 7 h151.length ([],[]) (runK (xX s 6 wl k false) (bodyK s.P Tryz.f6) xk6_7) ⟨(t0::t1::t2::t3::t4::t5::t6::t7::t8::t9::ta::tb::tc::td::te::tf::tg::th::ti::tj::tk::tl::tm::tn::tp::tq::tr::ts::tt::tu::tv::tw::tx::ty::tz::tA::tB::tC::tD::tE::tF::tG::tH::tI::tJ::tK::tL::tM::tN::tO::tP::tQ::tR::tS::tT::tU::tV::tW::tX::tY::tZ::q0::q1::q2::q3::q4::q5::q6::q7::q8::q9::qa::qb::qc::qd::qe::qf::qg::qh::qi::qj::qk::ql::qm::qn::qo::qp::qq::qr::qs::qt::qu::qv::qw::qx::qy::qz::qA::qB::qC::qD::qE::qF::qG::qH::qJ::qK::qL::qN::qO::qP::qQ::qR::qS::qT::qU::qV::qW::qX::qY::qZ::z0::z1::z2::z3::z4::z5::z6::z7::v150::z9::za::zb::zc::zd::ze::zf::zg::zh::zi::zj::zk::zl::zm::zn::zo::zp::zq::zr::zs::zt::zu::zv::zw::zx::zy::zz::v164::v166::v168::(V.lit (Value.bool false))::v170::v172::v174::zH::[]),h175⟩) (
  opsP (xX s 6 wl k false) xg6_7 5 h151.length ([],[]) (runK (xX s 6 wl k false) (bodyK s.P Tryz.f6) xk6_7) ⟨(t0::t1::t2::t3::t4::t5::t6::t7::t8::t9::ta::tb::tc::td::te::tf::tg::th::ti::tj::tk::tl::tm::tn::tp::tq::tr::ts::tt::tu::tv::tw::tx::ty::tz::tA::tB::tC::tD::tE::tF::tG::tH::tI::tJ::tK::tL::tM::tN::tO::tP::tQ::tR::tS::tT::tU::tV::tW::tX::tY::tZ::q0::q1::q2::q3::q4::q5::q6::q7::q8::q9::qa::qb::qc::qd::qe::qf::qg::qh::qi::qj::qk::ql::qm::qn::qo::qp::qq::qr::qs::qt::qu::qv::qw::qx::qy::qz::qA::qB::qC::qD::qE::qF::qG::qH::qJ::qK::qL::qN::qO::qP::qQ::qR::qS::qT::qU::qV::qW::qX::qY::qZ::z0::z1::z2::z3::z4::z5::z6::z7::v150::z9::za::zb::zc::zd::ze::zf::zg::zh::zi::zj::zk::zl::zm::zn::zo::zp::zq::zr::zs::zt::zu::zv::zw::zx::zy::zz::v164::v166::v168::v168::uu::zF::zG::zH::[]),h169⟩)) :=
  (pM fun v150 h151 =>
  (eN
  (go_cond (by kernel_rfl)
  (go_seq (go_reg0
  (pI th h151
  (pP fun v152 h153 =>
  (pM fun v154 h155 =>
  (pI v154 h155
  (go_gdT0 rfl rfl rfl (by kernel_rfl)
  (st_id (v := th) (H := h155) (by kernel_rfl)
  (rN (st_bm (by kernel_rfl) fun v156 h157 =>
  (rN (st_bm (by kernel_rfl) fun v158 h159 =>
  (rN (st_bm (by kernel_rfl) fun v160 h161 =>
  (rN (st_bm (by kernel_rfl) fun v162 h163 =>
  (by kernel_rfl))))))))))
  (sK
  (sK
  (sK
  (sK
  (by kernel_rfl)))))
  (by kernel_rfl))))))))
  (go_skip (go_seq (go_reg0
  (pM fun v164 h165 =>
  (pM fun v166 h167 =>
  (pM fun v168 h169 =>
  (pI v168 h169
  (go_gdF0 rfl rfl rfl (by kernel_rfl)
  (sK
  (sK
  (by kernel_rfl)))
  (st_bm (by kernel_rfl) fun v170 h171 =>
  (rN (st_bm (by kernel_rfl) fun v172 h173 =>
  (rN (st_bm (by kernel_rfl) fun v174 h175 =>
  (by kernel_rfl))))))
  (by kernel_rfl))))))))))))
theorem xm6_9 (h : Hp) : opsP (xX s 6 wl k false) xg6_2 29 m0 ac (runK (xX s 6 wl k false) (bodyK s.P Tryz.f6) xk6_2) ⟨(t0::t1::t2::t3::t4::t5::t6::t7::t8::t9::ta::tb::tc::td::te::tf::tg::th::ti::tj::tk::tl::tm::tn::tp::tq::tr::ts::tt::tu::tv::tw::tx::ty::tz::tA::tB::tC::tD::tE::tF::tG::tH::tI::tJ::tK::tL::tM::tN::tO::tP::tQ::tR::tS::tT::tU::tV::tW::tX::tY::tZ::q0::q1::q2::q3::q4::q5::q6::q7::q8::q9::qa::qb::qc::qd::qe::qf::qg::qh::qi::qj::qk::ql::qm::qn::qo::qp::qq::qr::qs::qt::qu::qv::qw::qx::qy::qz::qA::qB::qC::qD::qE::qF::qG::qH::qJ::qK::qL::qN::qO::qP::qQ::qR::qS::qT::qU::qV::qW::qX::qY::qZ::z0::z1::z2::z3::z4::z5::z6::z7::z8::z9::za::zb::zc::zd::ze::zf::zg::zh::zi::zj::zk::zl::zm::zn::zo::zp::zq::zr::zs::zt::zu::zv::zw::zx::zy::zz::zA::zB::zC::zD::zE::zF::zG::zH::[]),h⟩ =
  bm (vPick qj qt (V.lit (Value.bool false))) h fun v176 h177 =>
  some (v176,h177) :=
  (qM xo6_7 xo6_7a fun v176 h177 =>
  (qI xo6_7 xo6_7a v176 h177
  (go_end1 xo6_7 (by kernel_rfl) xo6_7a
  (go_ret (rt_seq_ret (by kernel_rfl))))))
theorem xm6_10 (h : Hp) : opsP (xX s 6 wl k false) xg6_4 15 m0 ac (runK (xX s 6 wl k false) (bodyK s.P Tryz.f6) xk6_4) ⟨(t0::t1::t2::t3::t4::t5::t6::t7::t8::t9::ta::tb::tc::td::te::tf::tg::th::ti::tj::tk::tl::tm::tn::tp::tq::tr::ts::tt::tu::tv::tw::tx::ty::tz::tA::tB::tC::tD::tE::tF::tG::tH::tI::tJ::tK::tL::tM::tN::tO::tP::tQ::tR::tS::tT::tU::tV::tW::tX::tY::tZ::q0::q1::q2::q3::q4::q5::q6::q7::q8::q9::qa::qb::qc::qd::qe::qf::qg::qh::qi::qj::qk::ql::qm::qn::qo::qp::qq::qr::qs::qt::qu::qv::qw::qx::qy::qz::qA::qB::qC::qD::qE::qF::qG::qH::qJ::qK::qL::qN::qO::qP::qQ::qR::qS::qT::qU::qV::qW::qX::qY::qZ::z0::z1::z2::z3::z4::z5::z6::z7::z8::z9::za::zb::zc::zd::ze::zf::zg::zh::zi::zj::zk::zl::zm::zn::zo::zp::zq::zr::zs::zt::zu::zv::zw::zx::zy::zz::zA::zB::zC::zD::zE::zF::zG::zH::[]),h⟩ =
  bm (vPick qO qT (V.lit (Value.bool false))) h fun v178 h179 =>
  gd v178 (
  bm (vFieldAddr s.P 32 tg 2) h179 fun v180 h181 =>
  bm (vFieldAddr s.P 30 v180 1) h181 fun v182 h183 =>
  bm (vLoad s.P 3 v182 h183) h183 fun v184 h185 =>
  bm (vBin s.P .eql 3 v184 (V.lit (Value.int .i64 0))) h185 fun v186 h187 =>
  opsP (xX s 6 wl k false) xg6_4 21 m0 ac (runK (xX s 6 wl k false) (bodyK s.P Tryz.f6) xk6_4) ⟨(t0::t1::t2::t3::t4::t5::t6::t7::t8::t9::ta::tb::tc::td::te::tf::tg::th::ti::tj::tk::tl::tm::tn::tp::tq::tr::ts::tt::tu::tv::tw::tx::ty::tz::tA::tB::tC::tD::tE::tF::tG::tH::tI::tJ::tK::tL::tM::tN::tO::tP::tQ::tR::tS::tT::tU::tV::tW::tX::tY::tZ::q0::q1::q2::q3::q4::q5::q6::q7::q8::q9::qa::qb::qc::qd::qe::qf::qg::qh::qi::qj::qk::ql::qm::qn::qo::qp::qq::qr::qs::qt::qu::qv::qw::qx::qy::qz::qA::qB::qC::qD::qE::qF::qG::qH::qJ::qK::qL::qN::qO::qP::qQ::qR::qS::qT::v178::(V.lit (Value.bool true))::v180::v182::v184::v186::z0::z1::z2::z3::z4::z5::z6::z7::z8::z9::za::zb::zc::zd::ze::zf::zg::zh::zi::zj::zk::zl::zm::zn::zo::zp::zq::zr::zs::zt::zu::zv::zw::zx::zy::zz::zA::zB::zC::zD::zE::zF::zG::zH::[]),h187⟩) (
  opsP (xX s 6 wl k false) xg6_4 21 m0 ac (runK (xX s 6 wl k false) (bodyK s.P Tryz.f6) xk6_4) ⟨(t0::t1::t2::t3::t4::t5::t6::t7::t8::t9::ta::tb::tc::td::te::tf::tg::th::ti::tj::tk::tl::tm::tn::tp::tq::tr::ts::tt::tu::tv::tw::tx::ty::tz::tA::tB::tC::tD::tE::tF::tG::tH::tI::tJ::tK::tL::tM::tN::tO::tP::tQ::tR::tS::tT::tU::tV::tW::tX::tY::tZ::q0::q1::q2::q3::q4::q5::q6::q7::q8::q9::qa::qb::qc::qd::qe::qf::qg::qh::qi::qj::qk::ql::qm::qn::qo::qp::qq::qr::qs::qt::qu::qv::qw::qx::qy::qz::qA::qB::qC::qD::qE::qF::qG::qH::qJ::qK::qL::qN::qO::qP::qQ::qR::qS::qT::v178::(V.lit (Value.bool false))::uu::uu::uu::uu::z0::z1::z2::z3::z4::z5::z6::z7::z8::z9::za::zb::zc::zd::ze::zf::zg::zh::zi::zj::zk::zl::zm::zn::zo::zp::zq::zr::zs::zt::zu::zv::zw::zx::zy::zz::zA::zB::zC::zD::zE::zF::zG::zH::[]),h179⟩) (
  opsP (xX s 6 wl k false) xg6_4 18 m0 ac (runK (xX s 6 wl k false) (bodyK s.P Tryz.f6) xk6_4) ⟨(t0::t1::t2::t3::t4::t5::t6::t7::t8::t9::ta::tb::tc::td::te::tf::tg::th::ti::tj::tk::tl::tm::tn::tp::tq::tr::ts::tt::tu::tv::tw::tx::ty::tz::tA::tB::tC::tD::tE::tF::tG::tH::tI::tJ::tK::tL::tM::tN::tO::tP::tQ::tR::tS::tT::tU::tV::tW::tX::tY::tZ::q0::q1::q2::q3::q4::q5::q6::q7::q8::q9::qa::qb::qc::qd::qe::qf::qg::qh::qi::qj::qk::ql::qm::qn::qo::qp::qq::qr::qs::qt::qu::qv::qw::qx::qy::qz::qA::qB::qC::qD::qE::qF::qG::qH::qJ::qK::qL::qN::qO::qP::qQ::qR::qS::qT::v178::v178::uu::qX::qY::qZ::z0::z1::z2::z3::z4::z5::z6::z7::z8::z9::za::zb::zc::zd::ze::zf::zg::zh::zi::zj::zk::zl::zm::zn::zo::zp::zq::zr::zs::zt::zu::zv::zw::zx::zy::zz::zA::zB::zC::zD::zE::zF::zG::zH::[]),h179⟩) :=
  (pM fun v178 h179 =>
  (pI v178 h179
  (go_gdT0 rfl rfl rfl (by kernel_rfl)
  (st_bm (by kernel_rfl) fun v180 h181 =>
  (rN (st_bm (by kernel_rfl) fun v182 h183 =>
  (rN (st_bm (by kernel_rfl) fun v184 h185 =>
  (rN (st_bm (by kernel_rfl) fun v186 h187 =>
  (by kernel_rfl))))))))
  (sK
  (sK
  (sK
  (by kernel_rfl))))
  (by kernel_rfl))))
theorem xm6_11 (h : Hp) : opsP (xX s 6 wl k false) xg6_6 9 m0 ac (runK (xX s 6 wl k false) (bodyK s.P Tryz.f6) xk6_6) ⟨(t0::t1::t2::t3::t4::t5::t6::t7::t8::t9::ta::tb::tc::td::te::tf::tg::th::ti::tj::tk::tl::tm::tn::tp::tq::tr::ts::tt::tu::tv::tw::tx::ty::tz::tA::tB::tC::tD::tE::tF::tG::tH::tI::tJ::tK::tL::tM::tN::tO::tP::tQ::tR::tS::tT::tU::tV::tW::tX::tY::tZ::q0::q1::q2::q3::q4::q5::q6::q7::q8::q9::qa::qb::qc::qd::qe::qf::qg::qh::qi::qj::qk::ql::qm::qn::qo::qp::qq::qr::qs::qt::qu::qv::qw::qx::qy::qz::qA::qB::qC::qD::qE::qF::qG::qH::qJ::qK::qL::qN::qO::qP::qQ::qR::qS::qT::qU::qV::qW::qX::qY::qZ::z0::z1::z2::z3::z4::z5::z6::z7::z8::z9::za::zb::zc::zd::ze::zf::zg::zh::zi::zj::zk::zl::zm::zn::zo::zp::zq::zr::zs::zt::zu::zv::zw::zx::zy::zz::zA::zB::zC::zD::zE::zF::zG::zH::[]),h⟩ =
  bm (vPick zc zh (V.lit (Value.bool false))) h fun v188 h189 =>
  gd v188 (
  bm (vIndexAddr s.P 35 th (V.lit (Value.int .i64 0)) h189) h189 fun v190 h191 =>
  bm (vFieldAddr s.P 44 v190 2) h191 fun v192 h193 =>
  bm (vLoad s.P 3 v192 h193) h193 fun v194 h195 =>
  bm (vBin s.P .eql 3 v194 t3) h195 fun v196 h197 =>
  opsP (xX s 6 wl k false) xg6_6 17 m0 ac (runK (xX s 6 wl k false) (bodyK s.P Tryz.f6) xk6_6) ⟨(t0::t1::t2::t3::t4::t5::t6::t7::t8::t9::ta::tb::tc::td::te::tf::tg::th::ti::tj::tk::tl::tm::tn::tp::tq::tr::ts::tt::tu::tv::tw::tx::ty::tz::tA::tB::tC::tD::tE::tF::tG::tH::tI::tJ::tK::tL::tM::tN::tO::tP::tQ::tR::tS::tT::tU::tV::tW::tX::tY::tZ::q0::q1::q2::q3::q4::q5::q6::q7::q8::q9::qa::qb::qc::qd::qe::qf::qg::qh::qi::qj::qk::ql::qm::qn::qo::qp::qq::qr::qs::qt::qu::qv::qw::qx::qy::qz::qA::qB::qC::qD::qE::qF::qG::qH::qJ::qK::qL::qN::qO::qP::qQ::qR::qS::qT::qU::qV::qW::qX::qY::qZ::z0::z1::z2::z3::z4::z5::z6::z7::z8::z9::za::zb::zc::zd::ze::zf::zg::zh::v188::(V.lit (Value.bool true))::th::v190::v192::v194::t3::v196::zq::zr::zs::zt::zu::zv::zw::zx::zy::zz::zA::zB::zC::zD::zE::zF::zG::zH::[]),h197⟩) (
  opsP (xX s 6 wl k false) xg6_6 17 m0 ac (runK (xX s 6 wl k false) (bodyK s.P Tryz.f6) xk6_6) ⟨(t0::t1::t2::t3::t4::t5::t6::t7::t8::t9::ta::tb::tc::td::te::tf::tg::th::ti::tj::tk::tl::tm::tn::tp::tq::tr::ts::tt::tu::tv::tw::tx::ty::tz::tA::tB::tC::tD::tE::tF::tG::tH::tI::tJ::tK::tL::tM::tN::tO::tP::tQ::tR::tS::tT::tU::tV::tW::tX::tY::tZ::q0::q1::q2::q3::q4::q5::q6::q7::q8::q9::qa::qb::qc::qd::qe::qf::qg::qh::qi::qj::qk::ql::qm::qn::qo::qp::qq::qr::qs::qt::qu::qv::qw::qx::qy::qz::qA::qB::qC::qD::qE::qF::qG::qH::qJ::qK::qL::qN::qO::qP::qQ::qR::qS::qT::qU::qV::qW::qX::qY::qZ::z0::z1::z2::z3::z4::z5::z6::z7::z8::z9::za::zb::zc::zd::ze::zf::zg::zh::v188::(V.lit (Value.bool false))::uu::uu::uu::uu::uu::uu::zq::zr::zs::zt::zu::zv::zw::zx::zy::zz::zA::zB::zC::zD::zE::zF::zG::zH::[]),h189⟩) (
  opsP (xX s 6 wl k false) xg6_6 12 m0 ac (runK (xX s 6 wl k false) (bodyK s.P Tryz.f6) xk6_6) ⟨(t0::t1::t2::t3::t4::t5::t6::t7::t8::t9::ta::tb::tc::td::te::tf::tg::th::ti::tj::tk::tl::tm::tn::tp::tq::tr::ts::tt::tu::tv::tw::tx::ty::tz::tA::tB::tC::tD::tE::tF::tG::tH::tI::tJ::tK::tL::tM::tN::tO::tP::tQ::tR::tS::tT::tU::tV::tW::tX::tY::tZ::q0::q1::q2::q3::q4::q5::q6::q7::q8::q9::qa::qb::qc::qd::qe::qf::qg::qh::qi::qj::qk::ql::qm::qn::qo::qp::qq::qr::qs::qt::qu::qv::qw::qx::qy::qz::qA::qB::qC::qD::qE::qF::qG::qH::qJ::qK::qL::qN::qO::qP::qQ::qR::qS::qT::qU::qV::qW::qX::qY::qZ::z0::z1::z2::z3::z4::z5::z6::z7::z8::z9::za::zb::zc::zd::ze::zf::zg::zh::v188::v188::uu::zl::zm::zn::zo::zp::zq::zr::zs::zt::zu::zv::zw::zx::zy::zz::zA::zB::zC::zD::zE::zF::zG::zH::[]),h189⟩) :=
  (pM fun v188 h189 =>
  (pI v188 h189
  (go_gdT0 rfl rfl rfl (by kernel_rfl)
  (st_id (v := th) (H := h189) (by kernel_rfl)
  (rN (st_bm (by kernel_rfl) fun v190 h191 =>
  (rN (st_bm (by kernel_rfl) fun v192 h193 =>
  (rN (st_bm (by kernel_rfl) fun v194 h195 =>
  (rN (st_id (v := t3) (H := h195) (by kernel_rfl)
  (rN (st_bm (by kernel_rfl) fun v196 h197 =>
  (by kernel_rfl))))))))))))
  (sK
  (sK
  (sK
  (sK
  (sK
  (by kernel_rfl))))))
  (by kernel_rfl))))
theorem xm6_12 (h : Hp) : opsP (xX s 6 wl k false) xg6_7 7 m0 ac (runK (xX s 6 wl k false) (bodyK s.P Tryz.f6) xk6_7) ⟨(t0::t1::t2::t3::t4::t5::t6::t7::t8::t9::ta::tb::tc::td::te::tf::tg::th::ti::tj::tk::tl::tm::tn::tp::tq::tr::ts::tt::tu::tv::tw::tx::ty::tz::tA::tB::tC::tD::tE::tF::tG::tH::tI::tJ::tK::tL::tM::tN::tO::tP::tQ::tR::tS::tT::tU::tV::tW::tX::tY::tZ::q0::q1::q2::q3::q4::q5::q6::q7::q8::q9::qa::qb::qc::qd::qe::qf::qg::qh::qi::qj::qk::ql::qm::qn::qo::qp::qq::qr::qs::qt::qu::qv::qw::qx::qy::qz::qA::qB::qC::qD::qE::qF::qG::qH::qJ::qK::qL::qN::qO::qP::qQ::qR::qS::qT::qU::qV::qW::qX::qY::qZ::z0::z1::z2::z3::z4::z5::z6::z7::z8::z9::za::zb::zc::zd::ze::zf::zg::zh::zi::zj::zk::zl::zm::zn::zo::zp::zq::zr::zs::zt::zu::zv::zw::zx::zy::zz::zA::zB::zC::zD::zE::zF::zG::zH::[]),h⟩ =
  bm (vPick zD (V.lit (Value.bool true)) zG) h fun v198 h199 =>
  some (v198,h199) :=
  (pM fun v198 h199 =>
  (pI v198 h199
  (eN
  (go_ret (by kernel_rfl)))))
theorem xm6_13 (h : Hp) : opsP (xX s 6 wl k false) xg6_4 21 m0 ac (runK (xX s 6 wl k false) (bodyK s.P Tryz.f6) xk6_4) ⟨(t0::t1::t2::t3::t4::t5::t6::t7::t8::t9::ta::tb::tc::td::te::tf::tg::th::ti::tj::tk::tl::tm::tn::tp::tq::tr::ts::tt::tu::tv::tw::tx::ty::tz::tA::tB::tC::tD::tE::tF::tG::tH::tI::tJ::tK::tL::tM::tN::tO::tP::tQ::tR::tS::tT::tU::tV::tW::tX::tY::tZ::q0::q1::q2::q3::q4::q5::q6::q7::q8::q9::qa::qb::qc::qd::qe::qf::qg::qh::qi::qj::qk::ql::qm::qn::qo::qp::qq::qr::qs::qt::qu::qv::qw::qx::qy::qz::qA::qB::qC::qD::qE::qF::qG::qH::qJ::qK::qL::qN::qO::qP::qQ::qR::qS::qT::qU::qV::qW::qX::qY::qZ::z0::z1::z2::z3::z4::z5::z6::z7::z8::z9::za::zb::zc::zd::ze::zf::zg::zh::zi::zj::zk::zl::zm::zn::zo::zp::zq::zr::zs::zt::zu::zv::zw::zx::zy::zz::zA::zB::zC::zD::zE::zF::zG::zH::[]),h⟩ =
  bm (vPick qV qZ (V.lit (Value.bool false))) h fun v200 h201 =>
  some (v200,h201) :=
  (pM fun v200 h201 =>
  (pI v200 h201
  (eN
  (go_ret (rt_seq_ret (by kernel_rfl))))))
theorem xm6_14 (h : Hp) : opsP (xX s 6 wl k false) xg6_6 17 m0 ac (runK (xX s 6 wl k false) (bodyK s.P Tryz.f6) xk6_6) ⟨(t0::t1::t2::t3::t4::t5::t6::t7::t8::t9::ta::tb::tc::td::te::tf::tg::th::ti::tj::tk::tl::tm::tn::tp::tq::tr::ts::tt::tu::tv::tw::tx::ty::tz::tA::tB::tC::tD::tE::tF::tG::tH::tI::tJ::tK::tL::tM::tN::tO::tP::tQ::tR::tS::tT::tU::tV::tW::tX::tY::tZ::q0::q1::q2::q3::q4::q5::q6::q7::q8::q9::qa::qb::qc::qd::qe::qf::qg::qh::qi::qj::qk::ql::qm::qn::qo::qp::qq::qr::qs::qt::qu::qv::qw::qx::qy::qz::qA::qB::qC::qD::qE::qF::qG::qH::qJ::qK::qL::qN::qO::qP::qQ::qR::qS::qT::qU::qV::qW::qX::qY::qZ::z0::z1::z2::z3::z4::z5::z6::z7::z8::z9::za::zb::zc::zd::ze::zf::zg::zh::zi::zj::zk::zl::zm::zn::zo::zp::zq::zr::zs::zt::zu::zv::zw::zx::zy::zz::zA::zB::zC::zD::zE::zF::zG::zH::[]),h⟩ =
  bm (vPick zj zp (V.lit (Value.bool false))) h fun v202 h203 =>
  gd v202 (
  bm (vFieldAddr s.P 32 tg 1) h203 fun v204 h205 =>
  bm (vLoad s.P 27 v204 h205) h205 fun v206 h207 =>
  bp (opLen s.P 27 v206 h207) fun v208 h209 =>
  bm (vFieldAddr s.P 32 ta 1) h209 fun v210 h211 =>
  bm (vLoad s.P 27 v210 h211) h211 fun v212 h213 =>
  bp (opLen s.P 27 v212 h213) fun v214 h215 =>
  bm (vBin s.P .geq 3 v208 v214) h215 fun v216 h217 =>
  opsP (xX s 6 wl k false) xg6_6 26 m0 ac (runK (xX s 6 wl k false) (bodyK s.P Tryz.f6) xk6_6) ⟨(t0::t1::t2::t3::t4::t5::t6::t7::t8::t9::ta::tb::tc::td::te::tf::tg::th::ti::tj::tk::tl::tm::tn::tp::tq::tr::ts::tt::tu::tv::tw::tx::ty::tz::tA::tB::tC::tD::tE::tF::tG::tH::tI::tJ::tK::tL::tM::tN::tO::tP::tQ::tR::tS::tT::tU::tV::tW::tX::tY::tZ::q0::q1::q2::q3::q4::q5::q6::q7::q8::q9::qa::qb::qc::qd::qe::qf::qg::qh::qi::qj::qk::ql::qm::qn::qo::qp::qq::qr::qs::qt::qu::qv::qw::qx::qy::qz::qA::qB::qC::qD::qE::qF::qG::qH::qJ::qK::qL::qN::qO::qP::qQ::qR::qS::qT::qU::qV::qW::qX::qY::qZ::z0::z1::z2::z3::z4::z5::z6::z7::z8::z9::za::zb::zc::zd::ze::zf::zg::zh::zi::zj::zk::zl::zm::zn::zo::zp::v202::(V.lit (Value.bool true))::v204::v206::v208::v210::v212::v214::v216::zz::zA::zB::zC::zD::zE::zF::zG::zH::[]),h217⟩) (
  opsP (xX s 6 wl k false) xg6_6 26 m0 ac (runK (xX s 6 wl k false) (bodyK s.P Tryz.f6) xk6_6) ⟨(t0::t1::t2::t3::t4::t5::t6::t7::t8::t9::ta::tb::tc::td::te::tf::tg::th::ti::tj::tk::tl::tm::tn::tp::tq::tr::ts::tt::tu::tv::tw::tx::ty::tz::tA::tB::tC::tD::tE::tF::tG::tH::tI::tJ::tK::tL::tM::tN::tO::tP::tQ::tR::tS::tT::tU::tV::tW::tX::tY::tZ::q0::q1::q2::q3::q4::q5::q6::q7::q8::q9::qa::qb::qc::qd::qe::qf::qg::qh::qi::qj::qk::ql::qm::qn::qo::qp::qq::qr::qs::qt::qu::qv::qw::qx::qy::qz::qA::qB::qC::qD::qE::qF::qG::qH::qJ::qK::qL::qN::qO::qP::qQ::qR::qS::qT::qU::qV::qW::qX::qY::qZ::z0::z1::z2::z3::z4::z5::z6::z7::z8::z9::za::zb::zc::zd::ze::zf::zg::zh::zi::zj::zk::zl::zm::zn::zo::zp::v202::(V.lit (Value.bool false))::uu::uu::uu::uu::uu::uu::uu::zz::zA::zB::zC::zD::zE::zF::zG::zH::[]),h203⟩) (
  opsP (xX s 6 wl k false) xg6_6 20 m0 ac (runK (xX s 6 wl k false) (bodyK s.P Tryz.f6) xk6_6) ⟨(t0::t1::t2::t3::t4::t5::t6::t7::t8::t9::ta::tb::tc::td::te::tf::tg::th::ti::tj::tk::tl::tm::tn::tp::tq::tr::ts::tt::tu::tv::tw::tx::ty::tz::tA::tB::tC::tD::tE::tF::tG::tH::tI::tJ::tK::tL::tM::tN::tO::tP::tQ::tR::tS::tT::tU::tV::tW::tX::tY::tZ::q0::q1::q2::q3::q4::q5::q6::q7::q8::q9::qa::qb::qc::qd::qe::qf::qg::qh::qi::qj::qk::ql::qm::qn::qo::qp::qq::qr::qs::qt::qu::qv::qw::qx::qy::qz::qA::qB::qC::qD::qE::qF::qG::qH::qJ::qK::qL::qN::qO::qP::qQ::qR::qS::qT::qU::qV::qW::qX::qY::qZ::z0::z1::z2::z3::z4::z5::z6::z7::z8::z9::za::zb::zc::zd::ze::zf::zg::zh::zi::zj::zk::zl::zm::zn::zo::zp::v202::v202::uu::zt::zu::zv::zw::zx::zy::zz::zA::zB::zC::zD::zE::zF::zG::zH::[]),h203⟩) :=
  (pM fun v202 h203 =>
  (pI v202 h203
  (go_gdT0 rfl rfl rfl (by kernel_rfl)
  (st_bm (by kernel_rfl) fun v204 h205 =>
  (rN (st_bm (by kernel_rfl) fun v206 h207 =>
  (rN (st_bp (by kernel_rfl) fun v208 h209 =>
  (rN (st_bm (by kernel_rfl) fun v210 h211 =>
  (rN (st_bm (by kernel_rfl) fun v212 h213 =>
  (rN (st_bp (by kernel_rfl) fun v214 h215 =>
  (rN (st_bm (by kernel_rfl) fun v216 h217 =>
  (by kernel_rfl))))))))))))))
  (sK
  (sK
  (sK
  (sK
  (sK
  (sK
  (by kernel_rfl)))))))
  (by kernel_rfl))))
theorem xm6_15 (h : Hp) : opsP (xX s 6 wl k false) xg6_6 26 m0 ac (runK (xX s 6 wl k false) (bodyK s.P Tryz.f6) xk6_6) ⟨(t0::t1::t2::t3::t4::t5::t6::t7::t8::t9::ta::tb::tc::td::te::tf::tg::th::ti::tj::tk::tl::tm::tn::tp::tq::tr::ts::tt::tu::tv::tw::tx::ty::tz::tA::tB::tC::tD::tE::tF::tG::tH::tI::tJ::tK::tL::tM::tN::tO::tP::tQ::tR::tS::tT::tU::tV::tW::tX::tY::tZ::q0::q1::q2::q3::q4::q5::q6::q7::q8::q9::qa::qb::qc::qd::qe::qf::qg::qh::qi::qj::qk::ql::qm::qn::qo::qp::qq::qr::qs::qt::qu::qv::qw::qx::qy::qz::qA::qB::qC::qD::qE::qF::qG::qH::qJ::qK::qL::qN::qO::qP::qQ::qR::qS::qT::qU::qV::qW::qX::qY::qZ::z0::z1::z2::z3::z4::z5::z6::z7::z8::z9::za::zb::zc::zd::ze::zf::zg::zh::zi::zj::zk::zl::zm::zn::zo::zp::zq::zr::zs::zt::zu::zv::zw::zx::zy::zz::zA::zB::zC::zD::zE::zF::zG::zH::[]),h⟩ =
  bm (vPick zr zy (V.lit (Value.bool false))) h fun v218 h219 =>
  some (v218,h219) :=
  (pM fun v218 h219 =>
  (pI v218 h219
  (eN
  (go_ret (rt_seq_ret (by kernel_rfl))))))
theorem xk6_0_ret (cx : Cx) (K : Out → St → Option (V × Hp)) (s : St) : runK cx K xk6_0 .ret s = K .ret s := by kernel_rfl
theorem xk6_1_ret (cx : Cx) (K : Out → St → Option (V × Hp)) (s : St) : runK cx K xk6_1 .ret s = K .ret s := by kernel_rfl
theorem xk6_2_ret (cx : Cx) (K : Out → St → Option (V × Hp)) (s : St) : runK cx K xk6_2 .ret s = K .ret s := by kernel_rfl
theorem xk6_3_ret (cx : Cx) (K : Out → St → Option (V × Hp)) (s : St) : runK cx K xk6_3 .ret s = K .ret s := by kernel_rfl
theorem xk6_4_ret (cx : Cx) (K : Out → St → Option (V × Hp)) (s : St) : runK cx K xk6_4 .ret s = K .ret s := by kernel_rfl
theorem xk6_5_ret (cx : Cx) (K : Out → St → Option (V × Hp)) (s : St) : runK cx K xk6_5 .ret s = K .ret s := by kernel_rfl
theorem xk6_6_ret (cx : Cx) (K : Out → St → Option (V × Hp)) (s : St) : runK cx K xk6_6 .ret s = K .ret s := by kernel_rfl
theorem xk6_7_ret (cx : Cx) (K : Out → St → Option (V × Hp)) (s : St) : runK cx K xk6_7 .ret s = K .ret s := by kernel_rfl
-- names: xb6,xm6_0,xm6_1,xm6_2,xm6_3,xm6_4,xm6_5,xm6_6,xm6_7,xm6_8,xm6_9,xm6_10,xm6_11,xm6_12,xm6_13,xm6_14,xm6_15,xk6_0_ret,xk6_1_ret,xk6_2_ret,xk6_3_ret,xk6_4_ret,xk6_5_ret,xk6_6_ret,xk6_7_ret
end Go.Ab
