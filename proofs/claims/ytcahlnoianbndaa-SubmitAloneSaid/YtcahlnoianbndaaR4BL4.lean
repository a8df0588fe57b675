/- The program's code,point by point: printed by gen.py. -/
import Derived.Test.YtcahlnoianbndaaR4Seat
set_option linter.unusedVariables false
set_option linter.unusedSimpArgs false
set_option maxRecDepth 100000
set_option linter.unusedVariables false
namespace Go.Ab
open Go.Proofs
variable (t0 t1 t2 t3 t4 t5 t6 t7 t8 t9 ta tb tc td te tf tg th ti tj tk tl tm tn tp tq tr ts tt tu tv tw tx ty tz tA tB tC tD tE tF tG tH tI tJ tK tL tM tN tO tP tQ tR tS tT tU tV tW tX tY tZ q0 q1 q2 q3 q4 q5 q6 q7 q8 q9 qa qb qc qd qe qf qg qh qi qj qk ql qm qn qo qp qq qr qs qt qu qv qw qx qy qz qA qB qC qD qE qF qG qH qI qJ qK qL qM qN qO qP qQ qR qS qT qU qV qW qX qY qZ z0 z1 z2 z3 z4 z5 z6 z7 z8 z9 za zb zc zd ze zf zg zh zi zj zk zl zm : V)
noncomputable def xg4_0 : Code := codeAt (bodyOf Try.f4) [1,1,1,0,0]
noncomputable def xk4_0 : List Fr := [.seq (codeAt (bodyOf Try.f4) [1,1,1,0,1]),.seq (codeAt (bodyOf Try.f4) [1,1,1,1])]
noncomputable def xl4_0 : Code := codeAt (bodyOf Try.f4) [1,1,1,1,1,1,1,0,1,0,0]
noncomputable def xk4_1 : List Fr := [.block 0,.seq (codeAt (bodyOf Try.f4) [1,1,1,1,1,1,1,1])]
noncomputable def xg4_1 : Code := codeAt (bodyOf Try.f4) [1,1,1,1,1,1,1,0,1,0,0,0,0]
noncomputable def xk4_2 : List Fr := [.seq (codeAt (bodyOf Try.f4) [1,1,1,1,1,1,1,0,1,0,0,0,1]),.seq (codeAt (bodyOf Try.f4) [1,1,1,1,1,1,1,0,1,0,0,1])]
noncomputable def xk4_3 : List Fr := [.seq (codeAt (bodyOf Try.f4) [1,1,1,1,1,1,1,1,1,1,1])]
noncomputable def xl4_1 : Code := codeAt (bodyOf Try.f4) [1,1,1,1,1,1,1,0,1,0,0,1,0,0,1,0,1,0,0]
noncomputable def xk4_4 : List Fr := [.block 2,.seq (codeAt (bodyOf Try.f4) [1,1,1,1,1,1,1,0,1,0,0,1,0,0,1,1]),.block 1,.seq (codeAt (bodyOf Try.f4) [1,1,1,1,1,1,1,0,1,0,0,1,1])]
noncomputable def xg4_2 : Code := codeAt (bodyOf Try.f4) [1,1,1,1,1,1,1,1,1,1,1,0]
noncomputable def xk4_5 : List Fr := [.seq (codeAt (bodyOf Try.f4) [1,1,1,1,1,1,1,1,1,1,1,1])]
noncomputable def xg4_3 : Code := codeAt (bodyOf Try.f4) [1,1,1,1,1,1,1,0,1,0,0,1,0,0,1,0,1,0,0,1,0,0,1,1,0,0]
noncomputable def xk4_6 : List Fr := [.seq (codeAt (bodyOf Try.f4) [1,1,1,1,1,1,1,0,1,0,0,1,0,0,1,0,1,0,0,1,0,0,1,1,0,1]),.seq (codeAt (bodyOf Try.f4) [1,1,1,1,1,1,1,0,1,0,0,1,0,0,1,0,1,0,0,1,0,0,1,1,1]),.block 3,.seq (codeAt (bodyOf Try.f4) [1,1,1,1,1,1,1,0,1,0,0,1,0,0,1,0,1,0,0,1,1])]
theorem xo4_17 : orderIx (opsOf xg4_3) = [0,1,2,3,4,5,6,7,8,9,10,11,12,13,14,15,16,17,18,19,20,21,22,23] := by kernel_rfl
theorem xo4_17a : (rgOf (opsOf xg4_3)).any = false := by kernel_rfl
theorem xo4_17r : regOk (opsOf xg4_3) = true := by kernel_rfl
theorem xb4 (s : Sys) (k wl : Nat) (h : Hp) : bodyV (xX s 4 wl k false) Try.f4 [t0,t1,t2] h =
  bp (opBox t0 h) fun v1 h2 =>
  bp (callV (xX s 4 wl k false) false true (.fn (.func 8) [] []) [] h2) fun v3 h4 =>
  bp (callV (xX s 4 wl k false) false true (.fn (.func 9) [] []) [t1] h4) fun v5 h6 =>
  bm (vUn .not v3) h6 fun v7 h8 =>
  gd v7 (
  opsP (xX s 4 wl k false) xg4_0 5 h6.length ([],[]) (runK (xX s 4 wl k false) (bodyK s.P Try.f4) xk4_0) ⟨(t0::t1::t2::v1::uu::uu::(V.lit (Value.bool false))::v3::v5::uu::uu::uu::uu::uu::uu::uu::uu::uu::uu::v3::t1::v5::v3::v7::(V.lit (Value.bool true))::uu::uu::uu::uu::uu::uu::uu::uu::uu::uu::uu::uu::uu::uu::uu::uu::uu::uu::uu::uu::uu::uu::uu::uu::uu::uu::uu::uu::uu::uu::uu::uu::uu::uu::uu::uu::uu::uu::uu::uu::uu::uu::uu::uu::uu::uu::uu::uu::uu::uu::uu::uu::uu::uu::uu::uu::uu::uu::uu::uu::uu::uu::uu::uu::uu::uu::uu::uu::uu::uu::uu::uu::uu::uu::uu::uu::uu::uu::uu::uu::uu::uu::uu::uu::uu::uu::uu::uu::uu::uu::uu::uu::uu::uu::uu::uu::uu::uu::uu::uu::uu::uu::uu::uu::uu::uu::uu::uu::uu::uu::uu::uu::uu::uu::uu::uu::uu::uu::uu::uu::uu::[]),h8⟩) (
  bm (vUn .not v5) h8 fun v9 h10 =>
  opsP (xX s 4 wl k false) xg4_0 5 h6.length ([],[]) (runK (xX s 4 wl k false) (bodyK s.P Try.f4) xk4_0) ⟨(t0::t1::t2::v1::uu::uu::(V.lit (Value.bool false))::v3::v5::uu::uu::uu::uu::uu::uu::uu::uu::uu::uu::v3::t1::v5::v3::v7::(V.lit (Value.bool false))::v5::v9::uu::uu::uu::uu::uu::uu::uu::uu::uu::uu::uu::uu::uu::uu::uu::uu::uu::uu::uu::uu::uu::uu::uu::uu::uu::uu::uu::uu::uu::uu::uu::uu::uu::uu::uu::uu::uu::uu::uu::uu::uu::uu::uu::uu::uu::uu::uu::uu::uu::uu::uu::uu::uu::uu::uu::uu::uu::uu::uu::uu::uu::uu::uu::uu::uu::uu::uu::uu::uu::uu::uu::uu::uu::uu::uu::uu::uu::uu::uu::uu::uu::uu::uu::uu::uu::uu::uu::uu::uu::uu::uu::uu::uu::uu::uu::uu::uu::uu::uu::uu::uu::uu::uu::uu::uu::uu::uu::uu::uu::uu::uu::uu::uu::uu::uu::uu::uu::uu::uu::[]),h10⟩) (
  opsP (xX s 4 wl k false) xg4_0 4 h6.length ([],[]) (runK (xX s 4 wl k false) (bodyK s.P Try.f4) xk4_0) ⟨(t0::t1::t2::v1::uu::uu::(V.lit (Value.bool false))::v3::v5::uu::uu::uu::uu::uu::uu::uu::uu::uu::uu::v3::t1::v5::v3::v7::v7::uu::uu::uu::uu::uu::uu::uu::uu::uu::uu::uu::uu::uu::uu::uu::uu::uu::uu::uu::uu::uu::uu::uu::uu::uu::uu::uu::uu::uu::uu::uu::uu::uu::uu::uu::uu::uu::uu::uu::uu::uu::uu::uu::uu::uu::uu::uu::uu::uu::uu::uu::uu::uu::uu::uu::uu::uu::uu::uu::uu::uu::uu::uu::uu::uu::uu::uu::uu::uu::uu::uu::uu::uu::uu::uu::uu::uu::uu::uu::uu::uu::uu::uu::uu::uu::uu::uu::uu::uu::uu::uu::uu::uu::uu::uu::uu::uu::uu::uu::uu::uu::uu::uu::uu::uu::uu::uu::uu::uu::uu::uu::uu::uu::uu::uu::uu::uu::uu::uu::uu::uu::[]),h8⟩) :=
  bodyV_run rfl (go_seq (go_reg0
  (go_op0 rfl rfl (st_bp (by kernel_rfl) fun v1 h2 =>
  (go_op0 rfl rfl (st_id (v := (V.lit (Value.bool false))) (H := h2) (by kernel_rfl)
  (go_end0 (by kernel_rfl)
  (go_seq (go_reg0
  (go_op0 rfl rfl (st_bp (by kernel_rfl) fun v3 h4 =>
  (go_op0 rfl rfl (st_id (v := v3) (H := h4) (by kernel_rfl)
  (go_end0 (by kernel_rfl)
  (go_seq (go_reg0
  (go_op0 rfl rfl (st_id (v := t1) (H := h4) (by kernel_rfl)
  (go_op0 rfl rfl (st_bp (by kernel_rfl) fun v5 h6 =>
  (go_op0 rfl rfl (st_id (v := v5) (H := h6) (by kernel_rfl)
  (go_end0 (by kernel_rfl)
  (go_seq (go_seq (go_reg0
  (go_op0 rfl rfl (st_id (v := v3) (H := h6) (by kernel_rfl)
  (go_op0 rfl rfl (st_bm (by kernel_rfl) fun v7 h8 =>
  (go_op0 rfl rfl (st_id (v := v7) (H := h8) (by kernel_rfl)
  (go_gdF0 rfl rfl rfl (by kernel_rfl)
  (go_skip0 rfl rfl rfl (by kernel_rfl)
  (by kernel_rfl))
  (st_id (v := v5) (H := h8) (by kernel_rfl)
  (go_run0 rfl rfl rfl (by kernel_rfl) (st_bm (by kernel_rfl) fun v9 h10 =>
  (by kernel_rfl))))
  (by kernel_rfl))))))))))))))))))))))))))))))))))
theorem xe4 (k wl : Nat) (h : Hp) : evF Try.prog xM (k + 1) wl 4 [t0,t1,t2] h = bodyV (xX (xS k) 4 wl k false) Try.f4 [t0,t1,t2] h := by kernel_rfl
theorem xz4 (P : Program) (h : Hp) : bodyK P Try.f4 .ret ⟨(t0::t1::t2::t3::t4::t5::t6::t7::t8::t9::ta::tb::tc::td::te::tf::tg::th::ti::tj::tk::tl::tm::tn::tp::tq::tr::ts::tt::tu::tv::tw::tx::ty::tz::tA::tB::tC::tD::tE::tF::tG::tH::tI::tJ::tK::tL::tM::tN::tO::tP::tQ::tR::tS::tT::tU::tV::tW::tX::tY::tZ::q0::q1::q2::q3::q4::q5::q6::q7::q8::q9::qa::qb::qc::qd::qe::qf::qg::qh::qi::qj::qk::ql::qm::qn::qo::qp::qq::qr::qs::qt::qu::qv::qw::qx::qy::qz::qA::qB::qC::qD::qE::qF::qG::qH::qI::qJ::qK::qL::qM::qN::qO::qP::qQ::qR::qS::qT::qU::qV::qW::qX::qY::qZ::z0::z1::z2::z3::z4::z5::z6::z7::z8::z9::za::zb::zc::zd::ze::zf::zg::zh::zi::zj::zk::zl::zm::[]),h⟩ = some (t6,h) := by kernel_rfl
theorem xm4_0 (s : Sys) (k wl : Nat) (m0 : Nat) (ac : List Nat × List Nat) (h : Hp) : opsP (xX s 4 wl k false) xg4_0 5 m0 ac (runK (xX s 4 wl k false) (bodyK s.P Try.f4) xk4_0) ⟨(t0::t1::t2::t3::t4::t5::t6::t7::t8::t9::ta::tb::tc::td::te::tf::tg::th::ti::tj::tk::tl::tm::tn::tp::tq::tr::ts::tt::tu::tv::tw::tx::ty::tz::tA::tB::tC::tD::tE::tF::tG::tH::tI::tJ::tK::tL::tM::tN::tO::tP::tQ::tR::tS::tT::tU::tV::tW::tX::tY::tZ::q0::q1::q2::q3::q4::q5::q6::q7::q8::q9::qa::qb::qc::qd::qe::qf::qg::qh::qi::qj::qk::ql::qm::qn::qo::qp::qq::qr::qs::qt::qu::qv::qw::qx::qy::qz::qA::qB::qC::qD::qE::qF::qG::qH::qI::qJ::qK::qL::qM::qN::qO::qP::qQ::qR::qS::qT::qU::qV::qW::qX::qY::qZ::z0::z1::z2::z3::z4::z5::z6::z7::z8::z9::za::zb::zc::zd::ze::zf::zg::zh::zi::zj::zk::zl::zm::[]),h⟩ =
  bm (vPick tp (V.lit (Value.bool true)) tr) h fun v11 h12 =>
  gd v11 (
  opsP (xX s 4 wl k false) xg4_0 10 m0 ac (runK (xX s 4 wl k false) (bodyK s.P Try.f4) xk4_0) ⟨(t0::t1::t2::t3::t4::t5::t6::t7::t8::t9::ta::tb::tc::td::te::tf::tg::th::ti::tj::tk::tl::tm::tn::tp::tq::tr::v11::(V.lit (Value.bool true))::uu::uu::uu::tx::ty::tz::tA::tB::tC::tD::tE::tF::tG::tH::tI::tJ::tK::tL::tM::tN::tO::tP::tQ::tR::tS::tT::tU::tV::tW::tX::tY::tZ::q0::q1::q2::q3::q4::q5::q6::q7::q8::q9::qa::qb::qc::qd::qe::qf::qg::qh::qi::qj::qk::ql::qm::qn::qo::qp::qq::qr::qs::qt::qu::qv::qw::qx::qy::qz::qA::qB::qC::qD::qE::qF::qG::qH::qI::qJ::qK::qL::qM::qN::qO::qP::qQ::qR::qS::qT::qU::qV::qW::qX::qY::qZ::z0::z1::z2::z3::z4::z5::z6::z7::z8::z9::za::zb::zc::zd::ze::zf::zg::zh::zi::zj::zk::zl::zm::[]),h12⟩) (
  bp (opLen s.P 27 t2 h12) fun v13 h14 =>
  bm (vBin s.P .gtr 3 v13 (V.lit (Value.int .i64 30))) h14 fun v15 h16 =>
  opsP (xX s 4 wl k false) xg4_0 10 m0 ac (runK (xX s 4 wl k false) (bodyK s.P Try.f4) xk4_0) ⟨(t0::t1::t2::t3::t4::t5::t6::t7::t8::t9::ta::tb::tc::td::te::tf::tg::th::ti::tj::tk::tl::tm::tn::tp::tq::tr::v11::(V.lit (Value.bool false))::t2::v13::v15::tx::ty::tz::tA::tB::tC::tD::tE::tF::tG::tH::tI::tJ::tK::tL::tM::tN::tO::tP::tQ::tR::tS::tT::tU::tV::tW::tX::tY::tZ::q0::q1::q2::q3::q4::q5::q6::q7::q8::q9::qa::qb::qc::qd::qe::qf::qg::qh::qi::qj::qk::ql::qm::qn::qo::qp::qq::qr::qs::qt::qu::qv::qw::qx::qy::qz::qA::qB::qC::qD::qE::qF::qG::qH::qI::qJ::qK::qL::qM::qN::qO::qP::qQ::qR::qS::qT::qU::qV::qW::qX::qY::qZ::z0::z1::z2::z3::z4::z5::z6::z7::z8::z9::za::zb::zc::zd::ze::zf::zg::zh::zi::zj::zk::zl::zm::[]),h16⟩) (
  opsP (xX s 4 wl k false) xg4_0 8 m0 ac (runK (xX s 4 wl k false) (bodyK s.P Try.f4) xk4_0) ⟨(t0::t1::t2::t3::t4::t5::t6::t7::t8::t9::ta::tb::tc::td::te::tf::tg::th::ti::tj::tk::tl::tm::tn::tp::tq::tr::v11::v11::uu::tv::tw::tx::ty::tz::tA::tB::tC::tD::tE::tF::tG::tH::tI::tJ::tK::tL::tM::tN::tO::tP::tQ::tR::tS::tT::tU::tV::tW::tX::tY::tZ::q0::q1::q2::q3::q4::q5::q6::q7::q8::q9::qa::qb::qc::qd::qe::qf::qg::qh::qi::qj::qk::ql::qm::qn::qo::qp::qq::qr::qs::qt::qu::qv::qw::qx::qy::qz::qA::qB::qC::qD::qE::qF::qG::qH::qI::qJ::qK::qL::qM::qN::qO::qP::qQ::qR::qS::qT::qU::qV::qW::qX::qY::qZ::z0::z1::z2::z3::z4::z5::z6::z7::z8::z9::za::zb::zc::zd::ze::zf::zg::zh::zi::zj::zk::zl::zm::[]),h12⟩) :=
  (go_op0 rfl rfl (st_bm (by kernel_rfl) fun v11 h12 =>
  (go_op0 rfl rfl (st_id (v := v11) (H := h12) (by kernel_rfl)
  (go_gdF0 rfl rfl rfl (by kernel_rfl)
  (go_skip0 rfl rfl rfl (by kernel_rfl)
  (go_skip0 rfl rfl rfl (by kernel_rfl)
  (by kernel_rfl)))
  (st_id (v := t2) (H := h12) (by kernel_rfl)
  (go_run0 rfl rfl rfl (by kernel_rfl) (st_bp (by kernel_rfl) fun v13 h14 =>
  (go_run0 rfl rfl rfl (by kernel_rfl) (st_bm (by kernel_rfl) fun v15 h16 =>
  (by kernel_rfl))))))
  (by kernel_rfl))))))
theorem xm4_1 (s : Sys) (k wl : Nat) (m0 : Nat) (ac : List Nat × List Nat) (h : Hp) : opsP (xX s 4 wl k false) xg4_0 10 m0 ac (runK (xX s 4 wl k false) (bodyK s.P Try.f4) xk4_0) ⟨(t0::t1::t2::t3::t4::t5::t6::t7::t8::t9::ta::tb::tc::td::te::tf::tg::th::ti::tj::tk::tl::tm::tn::tp::tq::tr::ts::tt::tu::tv::tw::tx::ty::tz::tA::tB::tC::tD::tE::tF::tG::tH::tI::tJ::tK::tL::tM::tN::tO::tP::tQ::tR::tS::tT::tU::tV::tW::tX::tY::tZ::q0::q1::q2::q3::q4::q5::q6::q7::q8::q9::qa::qb::qc::qd::qe::qf::qg::qh::qi::qj::qk::ql::qm::qn::qo::qp::qq::qr::qs::qt::qu::qv::qw::qx::qy::qz::qA::qB::qC::qD::qE::qF::qG::qH::qI::qJ::qK::qL::qM::qN::qO::qP::qQ::qR::qS::qT::qU::qV::qW::qX::qY::qZ::z0::z1::z2::z3::z4::z5::z6::z7::z8::z9::za::zb::zc::zd::ze::zf::zg::zh::zi::zj::zk::zl::zm::[]),h⟩ =
  bm (vPick tt (V.lit (Value.bool true)) tw) h fun v17 h18 =>
  gd v17 (
  opsP (xX s 4 wl k false) xg4_0 15 m0 ac (runK (xX s 4 wl k false) (bodyK s.P Try.f4) xk4_0) ⟨(t0::t1::t2::t3::t4::t5::t6::t7::t8::t9::ta::tb::tc::td::te::tf::tg::th::ti::tj::tk::tl::tm::tn::tp::tq::tr::ts::tt::tu::tv::tw::v17::(V.lit (Value.bool true))::uu::uu::uu::tC::tD::tE::tF::tG::tH::tI::tJ::tK::tL::tM::tN::tO::tP::tQ::tR::tS::tT::tU::tV::tW::tX::tY::tZ::q0::q1::q2::q3::q4::q5::q6::q7::q8::q9::qa::qb::qc::qd::qe::qf::qg::qh::qi::qj::qk::ql::qm::qn::qo::qp::qq::qr::qs::qt::qu::qv::qw::qx::qy::qz::qA::qB::qC::qD::qE::qF::qG::qH::qI::qJ::qK::qL::qM::qN::qO::qP::qQ::qR::qS::qT::qU::qV::qW::qX::qY::qZ::z0::z1::z2::z3::z4::z5::z6::z7::z8::z9::za::zb::zc::zd::ze::zf::zg::zh::zi::zj::zk::zl::zm::[]),h18⟩) (
  bm (vLoad s.P 23 t3 h18) h18 fun v19 h20 =>
  bp (callV (xX s 4 wl k false) false true (.fn (.func 14) [] []) [v19] h20) fun v21 h22 =>
  bm (vUn .not v21) h22 fun v23 h24 =>
  opsP (xX s 4 wl k false) xg4_0 15 m0 ac (runK (xX s 4 wl k false) (bodyK s.P Try.f4) xk4_0) ⟨(t0::t1::t2::t3::t4::t5::t6::t7::t8::t9::ta::tb::tc::td::te::tf::tg::th::ti::tj::tk::tl::tm::tn::tp::tq::tr::ts::tt::tu::tv::tw::v17::(V.lit (Value.bool false))::v19::v21::v23::tC::tD::tE::tF::tG::tH::tI::tJ::tK::tL::tM::tN::tO::tP::tQ::tR::tS::tT::tU::tV::tW::tX::tY::tZ::q0::q1::q2::q3::q4::q5::q6::q7::q8::q9::qa::qb::qc::qd::qe::qf::qg::qh::qi::qj::qk::ql::qm::qn::qo::qp::qq::qr::qs::qt::qu::qv::qw::qx::qy::qz::qA::qB::qC::qD::qE::qF::qG::qH::qI::qJ::qK::qL::qM::qN::qO::qP::qQ::qR::qS::qT::qU::qV::qW::qX::qY::qZ::z0::z1::z2::z3::z4::z5::z6::z7::z8::z9::za::zb::zc::zd::ze::zf::zg::zh::zi::zj::zk::zl::zm::[]),h24⟩) (
  opsP (xX s 4 wl k false) xg4_0 13 m0 ac (runK (xX s 4 wl k false) (bodyK s.P Try.f4) xk4_0) ⟨(t0::t1::t2::t3::t4::t5::t6::t7::t8::t9::ta::tb::tc::td::te::tf::tg::th::ti::tj::tk::tl::tm::tn::tp::tq::tr::ts::tt::tu::tv::tw::v17::v17::uu::tA::tB::tC::tD::tE::tF::tG::tH::tI::tJ::tK::tL::tM::tN::tO::tP::tQ::tR::tS::tT::tU::tV::tW::tX::tY::tZ::q0::q1::q2::q3::q4::q5::q6::q7::q8::q9::qa::qb::qc::qd::qe::qf::qg::qh::qi::qj::qk::ql::qm::qn::qo::qp::qq::qr::qs::qt::qu::qv::qw::qx::qy::qz::qA::qB::qC::qD::qE::qF::qG::qH::qI::qJ::qK::qL::qM::qN::qO::qP::qQ::qR::qS::qT::qU::qV::qW::qX::qY::qZ::z0::z1::z2::z3::z4::z5::z6::z7::z8::z9::za::zb::zc::zd::ze::zf::zg::zh::zi::zj::zk::zl::zm::[]),h18⟩) :=
  (go_op0 rfl rfl (st_bm (by kernel_rfl) fun v17 h18 =>
  (go_op0 rfl rfl (st_id (v := v17) (H := h18) (by kernel_rfl)
  (go_gdF0 rfl rfl rfl (by kernel_rfl)
  (go_skip0 rfl rfl rfl (by kernel_rfl)
  (go_skip0 rfl rfl rfl (by kernel_rfl)
  (by kernel_rfl)))
  (st_bm (by kernel_rfl) fun v19 h20 =>
  (go_run0 rfl rfl rfl (by kernel_rfl) (st_bp (by kernel_rfl) fun v21 h22 =>
  (go_run0 rfl rfl rfl (by kernel_rfl) (st_bm (by kernel_rfl) fun v23 h24 =>
  (by kernel_rfl))))))
  (by kernel_rfl))))))
theorem xm4_2 (s : Sys) (k wl : Nat) (m0 : Nat) (ac : List Nat × List Nat) (h : Hp) : opsP (xX s 4 wl k false) xg4_0 15 m0 ac (runK (xX s 4 wl k false) (bodyK s.P Try.f4) xk4_0) ⟨(t0::t1::t2::t3::t4::t5::t6::t7::t8::t9::ta::tb::tc::td::te::tf::tg::th::ti::tj::tk::tl::tm::tn::tp::tq::tr::ts::tt::tu::tv::tw::tx::ty::tz::tA::tB::tC::tD::tE::tF::tG::tH::tI::tJ::tK::tL::tM::tN::tO::tP::tQ::tR::tS::tT::tU::tV::tW::tX::tY::tZ::q0::q1::q2::q3::q4::q5::q6::q7::q8::q9::qa::qb::qc::qd::qe::qf::qg::qh::qi::qj::qk::ql::qm::qn::qo::qp::qq::qr::qs::qt::qu::qv::qw::qx::qy::qz::qA::qB::qC::qD::qE::qF::qG::qH::qI::qJ::qK::qL::qM::qN::qO::qP::qQ::qR::qS::qT::qU::qV::qW::qX::qY::qZ::z0::z1::z2::z3::z4::z5::z6::z7::z8::z9::za::zb::zc::zd::ze::zf::zg::zh::zi::zj::zk::zl::zm::[]),h⟩ =
  bm (vPick ty (V.lit (Value.bool true)) tB) h fun v25 h26 =>
  cnd v25 (
  some (t7,h26)) (
  bm (vLoad s.P 23 t3 h26) h26 fun v27 h28 =>
  bp (callV (xX s 4 wl k false) false true (.fn (.func 15) [] []) [v27] h28) fun v29 h30 =>
  bp (callV (xX s 4 wl k false) false true (.fn (.func 16) [] []) [t2] h30) fun v31 h32 =>
  bp (opAlloc s.P 32 h32) fun v33 h34 =>
  bs (vStore s.P wl 32 v33 v31 h34) fun h35 =>
  itX (xX s 4 wl k false) xl4_0 h35.length (runK (xX s 4 wl k false) (bodyK s.P Try.f4) xk4_1) k ⟨((V.kill h35.length t0)::(V.kill h35.length t1)::(V.kill h35.length t2)::(V.kill h35.length t3)::(V.kill h35.length t4)::(V.kill h35.length t5)::(V.kill h35.length t6)::(V.kill h35.length t7)::(V.kill h35.length t8)::(V.kill h35.length v29)::(V.kill h35.length v33)::(V.lit (Value.int .i64 0))::(V.lit (Value.int .i64 0))::(V.kill h35.length td)::(V.kill h35.length te)::(V.kill h35.length tf)::(V.kill h35.length tg)::(V.kill h35.length th)::(V.kill h35.length ti)::(V.kill h35.length tj)::(V.kill h35.length tk)::(V.kill h35.length tl)::(V.kill h35.length tm)::(V.kill h35.length tn)::(V.kill h35.length tp)::(V.kill h35.length tq)::(V.kill h35.length tr)::(V.kill h35.length ts)::(V.kill h35.length tt)::(V.kill h35.length tu)::(V.kill h35.length tv)::(V.kill h35.length tw)::(V.kill h35.length tx)::(V.kill h35.length ty)::(V.kill h35.length tz)::(V.kill h35.length tA)::(V.kill h35.length tB)::(V.kill h35.length v25)::(V.kill h35.length tD)::(V.kill h35.length v27)::(V.kill h35.length v29)::(V.kill h35.length t2)::(V.kill h35.length v31)::.junk::.junk::.junk::.junk::.junk::.junk::.junk::.junk::.junk::.junk::.junk::.junk::.junk::.junk::.junk::.junk::.junk::.junk::.junk::.junk::.junk::.junk::.junk::.junk::.junk::.junk::.junk::.junk::.junk::.junk::.junk::.junk::.junk::.junk::.junk::.junk::.junk::.junk::.junk::.junk::.junk::.junk::.junk::.junk::.junk::.junk::.junk::.junk::.junk::.junk::.junk::.junk::.junk::.junk::.junk::.junk::.junk::.junk::.junk::.junk::.junk::.junk::.junk::.junk::.junk::.junk::.junk::.junk::.junk::.junk::(V.kill h35.length qQ)::(V.kill h35.length qR)::(V.kill h35.length qS)::(V.kill h35.length qT)::(V.kill h35.length qU)::(V.kill h35.length qV)::(V.kill h35.length qW)::(V.kill h35.length qX)::(V.kill h35.length qY)::(V.kill h35.length qZ)::(V.kill h35.length z0)::(V.kill h35.length z1)::(V.kill h35.length z2)::(V.kill h35.length z3)::(V.kill h35.length z4)::(V.kill h35.length z5)::(V.kill h35.length z6)::(V.kill h35.length z7)::(V.kill h35.length z8)::(V.kill h35.length z9)::(V.kill h35.length za)::(V.kill h35.length zb)::(V.kill h35.length zc)::(V.kill h35.length zd)::(V.kill h35.length ze)::(V.kill h35.length zf)::(V.kill h35.length zg)::(V.kill h35.length zh)::(V.kill h35.length zi)::(V.kill h35.length zj)::(V.kill h35.length zk)::(V.kill h35.length zl)::(V.kill h35.length zm)::[]),cutH h35.length h35⟩) :=
  (go_op0 rfl rfl (st_bm (by kernel_rfl) fun v25 h26 =>
  (go_end0 (by kernel_rfl)
  (go_cond (by kernel_rfl)
  (go_seq (go_reg0
  (go_op0 rfl rfl (st_id (v := t7) (H := h26) (by kernel_rfl)
  (go_op0 rfl rfl (st_id (v := t7) (H := h26) (by kernel_rfl)
  (go_end0 (by kernel_rfl)
  (go_ret (rt_seq_ret (by kernel_rfl))))))))))
  (go_skip (go_seq (go_reg0
  (go_op0 rfl rfl (st_bm (by kernel_rfl) fun v27 h28 =>
  (go_op0 rfl rfl (st_bp (by kernel_rfl) fun v29 h30 =>
  (go_op0 rfl rfl (st_id (v := v29) (H := h30) (by kernel_rfl)
  (go_end0 (by kernel_rfl)
  (go_seq (go_reg0
  (go_op0 rfl rfl (st_id (v := t2) (H := h30) (by kernel_rfl)
  (go_op0 rfl rfl (st_bp (by kernel_rfl) fun v31 h32 =>
  (go_op0 rfl rfl (st_bp (by kernel_rfl) fun v33 h34 =>
  (go_op0 rfl rfl (st_bs (by kernel_rfl) fun h35 =>
  (go_end0 (by kernel_rfl)
  (go_seq (go_reg0
  (go_op0 rfl rfl (st_id (v := (V.lit (Value.int .i64 0))) (H := h35) (by kernel_rfl)
  (go_end0 (by kernel_rfl)
  (go_seq (go_seq (go_reg0
  (go_op0 rfl rfl (st_id (v := (V.lit (Value.int .i64 0))) (H := h35) (by kernel_rfl)
  (go_end0 (by kernel_rfl)
  (go_block (by kernel_rfl))))))))))))))))))))))))))))))))))))))
theorem xr4_0 (s : Sys) (K : Out → St → Option (V × Hp)) (k wl : Nat) (rd : Bool) (n n0 : Nat) (h : Hp) : itX (xX s 4 wl k rd) xl4_0 n0 K (n + 1) ⟨(t0::t1::t2::t3::t4::t5::t6::t7::t8::t9::ta::tb::tc::td::te::tf::tg::th::ti::tj::tk::tl::tm::tn::tp::tq::tr::ts::tt::tu::tv::tw::tx::ty::tz::tA::tB::tC::tD::tE::tF::tG::tH::tI::tJ::tK::tL::tM::tN::tO::tP::tQ::tR::tS::tT::tU::tV::tW::tX::tY::tZ::q0::q1::q2::q3::q4::q5::q6::q7::q8::q9::qa::qb::qc::qd::qe::qf::qg::qh::qi::qj::qk::ql::qm::qn::qo::qp::qq::qr::qs::qt::qu::qv::qw::qx::qy::qz::qA::qB::qC::qD::qE::qF::qG::qH::qI::qJ::qK::qL::qM::qN::qO::qP::qQ::qR::qS::qT::qU::qV::qW::qX::qY::qZ::z0::z1::z2::z3::z4::z5::z6::z7::z8::z9::za::zb::zc::zd::ze::zf::zg::zh::zi::zj::zk::zl::zm::[]),h⟩ =
  bp (opLen s.P 27 t2 h) fun v36 h37 =>
  bm (vBin s.P .mul 3 (V.lit (Value.int .i64 12)) v36) h37 fun v38 h39 =>
  bm (vBin s.P .add 3 v38 (V.lit (Value.int .i64 1))) h39 fun v40 h41 =>
  bm (vBin s.P .lss 3 tc v40) h41 fun v42 h43 =>
  gd v42 (
  bm (vLoad s.P 23 t3 h43) h43 fun v44 h45 =>
  bm (vLoad s.P 32 ta h45) h45 fun v46 h47 =>
  bp (callV (xX s 4 wl k rd) false true (.fn (.func 11) [] []) [v44,t1,t9,v46] h47) fun v48 h49 =>
  opsP (xX s 4 wl k rd) xg4_1 12 h.length ([],[]) (runK (xX s 4 wl k rd) (nextK (xX s 4 wl k rd) xl4_0 n0 K n) xk4_2) ⟨(t0::t1::t2::t3::t4::t5::t6::t7::t8::t9::ta::tb::tc::td::te::tf::tg::th::ti::tj::tk::tl::tm::tn::tp::tq::tr::ts::tt::tu::tv::tw::tx::ty::tz::tA::tB::tC::tD::tE::tF::tG::tH::tc::t2::v36::v38::v40::v42::(V.lit (Value.bool true))::v44::t1::t9::v46::v48::tU::tV::tW::tX::tY::tZ::q0::q1::q2::q3::q4::q5::q6::q7::q8::q9::qa::qb::qc::qd::qe::qf::qg::qh::qi::qj::qk::ql::qm::qn::qo::qp::qq::qr::qs::qt::qu::qv::qw::qx::qy::qz::qA::qB::qC::qD::qE::qF::qG::qH::qI::qJ::qK::qL::qM::qN::qO::qP::qQ::qR::qS::qT::qU::qV::qW::qX::qY::qZ::z0::z1::z2::z3::z4::z5::z6::z7::z8::z9::za::zb::zc::zd::ze::zf::zg::zh::zi::zj::zk::zl::zm::[]),h49⟩) (
  opsP (xX s 4 wl k rd) xg4_1 12 h.length ([],[]) (runK (xX s 4 wl k rd) (nextK (xX s 4 wl k rd) xl4_0 n0 K n) xk4_2) ⟨(t0::t1::t2::t3::t4::t5::t6::t7::t8::t9::ta::tb::tc::td::te::tf::tg::th::ti::tj::tk::tl::tm::tn::tp::tq::tr::ts::tt::tu::tv::tw::tx::ty::tz::tA::tB::tC::tD::tE::tF::tG::tH::tc::t2::v36::v38::v40::v42::(V.lit (Value.bool false))::uu::uu::uu::uu::uu::tU::tV::tW::tX::tY::tZ::q0::q1::q2::q3::q4::q5::q6::q7::q8::q9::qa::qb::qc::qd::qe::qf::qg::qh::qi::qj::qk::ql::qm::qn::qo::qp::qq::qr::qs::qt::qu::qv::qw::qx::qy::qz::qA::qB::qC::qD::qE::qF::qG::qH::qI::qJ::qK::qL::qM::qN::qO::qP::qQ::qR::qS::qT::qU::qV::qW::qX::qY::qZ::z0::z1::z2::z3::z4::z5::z6::z7::z8::z9::za::zb::zc::zd::ze::zf::zg::zh::zi::zj::zk::zl::zm::[]),h43⟩) (
  opsP (xX s 4 wl k rd) xg4_1 8 h.length ([],[]) (runK (xX s 4 wl k rd) (nextK (xX s 4 wl k rd) xl4_0 n0 K n) xk4_2) ⟨(t0::t1::t2::t3::t4::t5::t6::t7::t8::t9::ta::tb::tc::td::te::tf::tg::th::ti::tj::tk::tl::tm::tn::tp::tq::tr::ts::tt::tu::tv::tw::tx::ty::tz::tA::tB::tC::tD::tE::tF::tG::tH::tc::t2::v36::v38::v40::v42::v42::uu::tQ::tR::tS::tT::tU::tV::tW::tX::tY::tZ::q0::q1::q2::q3::q4::q5::q6::q7::q8::q9::qa::qb::qc::qd::qe::qf::qg::qh::qi::qj::qk::ql::qm::qn::qo::qp::qq::qr::qs::qt::qu::qv::qw::qx::qy::qz::qA::qB::qC::qD::qE::qF::qG::qH::qI::qJ::qK::qL::qM::qN::qO::qP::qQ::qR::qS::qT::qU::qV::qW::qX::qY::qZ::z0::z1::z2::z3::z4::z5::z6::z7::z8::z9::za::zb::zc::zd::ze::zf::zg::zh::zi::zj::zk::zl::zm::[]),h43⟩) :=
  itX_step (go_seq (go_seq (go_reg0
  (go_op0 rfl rfl (st_id (v := tc) (H := h) (by kernel_rfl)
  (go_op0 rfl rfl (st_id (v := t2) (H := h) (by kernel_rfl)
  (go_op0 rfl rfl (st_bp (by kernel_rfl) fun v36 h37 =>
  (go_op0 rfl rfl (st_bm (by kernel_rfl) fun v38 h39 =>
  (go_op0 rfl rfl (st_bm (by kernel_rfl) fun v40 h41 =>
  (go_op0 rfl rfl (st_bm (by kernel_rfl) fun v42 h43 =>
  (go_op0 rfl rfl (st_id (v := v42) (H := h43) (by kernel_rfl)
  (go_gdT0 rfl rfl rfl (by kernel_rfl)
  (st_bm (by kernel_rfl) fun v44 h45 =>
  (go_run0 rfl rfl rfl (by kernel_rfl) (st_id (v := t1) (H := h45) (by kernel_rfl)
  (go_run0 rfl rfl rfl (by kernel_rfl) (st_id (v := t9) (H := h45) (by kernel_rfl)
  (go_run0 rfl rfl rfl (by kernel_rfl) (st_bm (by kernel_rfl) fun v46 h47 =>
  (go_run0 rfl rfl rfl (by kernel_rfl) (st_bp (by kernel_rfl) fun v48 h49 =>
  (by kernel_rfl))))))))))
  (go_skip0 rfl rfl rfl (by kernel_rfl)
  (go_skip0 rfl rfl rfl (by kernel_rfl)
  (go_skip0 rfl rfl rfl (by kernel_rfl)
  (go_skip0 rfl rfl rfl (by kernel_rfl)
  (by kernel_rfl)))))
  (by kernel_rfl)))))))))))))))))))
theorem xj4_3 (s : Sys) (k wl : Nat) (h : Hp) : runK (xX s 4 wl k false) (bodyK s.P Try.f4) xk4_1 (.exit 0) ⟨(t0::t1::t2::t3::t4::t5::t6::t7::t8::t9::ta::tb::tc::td::te::tf::tg::th::ti::tj::tk::tl::tm::tn::tp::tq::tr::ts::tt::tu::tv::tw::tx::ty::tz::tA::tB::tC::tD::tE::tF::tG::tH::tI::tJ::tK::tL::tM::tN::tO::tP::tQ::tR::tS::tT::tU::tV::tW::tX::tY::tZ::q0::q1::q2::q3::q4::q5::q6::q7::q8::q9::qa::qb::qc::qd::qe::qf::qg::qh::qi::qj::qk::ql::qm::qn::qo::qp::qq::qr::qs::qt::qu::qv::qw::qx::qy::qz::qA::qB::qC::qD::qE::qF::qG::qH::qI::qJ::qK::qL::qM::qN::qO::qP::qQ::qR::qS::qT::qU::qV::qW::qX::qY::qZ::z0::z1::z2::z3::z4::z5::z6::z7::z8::z9::za::zb::zc::zd::ze::zf::zg::zh::zi::zj::zk::zl::zm::[]),h⟩ =
  bm (vFieldAddr s.P 32 ta 1) h fun v50 h51 =>
  bm (vLoad s.P 27 v50 h51) h51 fun v52 h53 =>
  bp (opLen s.P 27 v52 h53) fun v54 h55 =>
  bm (vBin s.P .gtr 3 v54 (V.lit (Value.int .i64 0))) h55 fun v56 h57 =>
  cnd v56 (
  bm (vLoad s.P 23 t3 h57) h57 fun v58 h59 =>
  bm (vLoad s.P 32 ta h59) h59 fun v60 h61 =>
  bp (callV (xX s 4 wl k false) false true (.fn (.func 11) [] []) [v58,t1,t9,v60] h61) fun v62 h63 =>
  bm (vUn .not v62) h63 fun v64 h65 =>
  some (v64,h65)) (
  bm (vFieldAddr s.P 23 t3 2) h57 fun v66 h67 =>
  bm (vLoad s.P 3 v66 h67) h67 fun v68 h69 =>
  bm (vBin s.P .gtr 3 tb v68) h69 fun v70 h71 =>
  cnd v70 (
  bm (vFieldAddr s.P 23 t3 2) h71 fun v72 h73 =>
  bm (vLoad s.P 3 v72 h73) h73 fun v74 h75 =>
  runK (xX s 4 wl k false) (bodyK s.P Try.f4) xk4_3 .norm ⟨(t0::t1::t2::t3::t4::t5::t6::t7::t8::t9::ta::tb::tc::td::te::tf::tg::th::v74::tj::tk::tl::tm::tn::tp::tq::tr::ts::tt::tu::tv::tw::tx::ty::tz::tA::tB::tC::tD::tE::tF::tG::tH::tI::tJ::tK::tL::tM::tN::tO::tP::tQ::tR::tS::tT::tU::tV::tW::tX::tY::tZ::q0::q1::q2::q3::q4::q5::q6::q7::q8::q9::qa::qb::qc::qd::qe::qf::qg::qh::qi::qj::qk::ql::qm::qn::qo::qp::qq::qr::qs::qt::qu::qv::qw::qx::qy::qz::qA::qB::qC::qD::qE::qF::qG::qH::qI::qJ::qK::qL::qM::qN::qO::qP::v50::v52::v54::v56::qU::qV::qW::qX::qY::qZ::tb::tb::v66::v68::v70::v72::v74::z7::z8::z9::za::zb::zc::zd::ze::zf::zg::zh::zi::zj::zk::zl::zm::[]),h75⟩) (
  runK (xX s 4 wl k false) (bodyK s.P Try.f4) xk4_3 .norm ⟨(t0::t1::t2::t3::t4::t5::t6::t7::t8::t9::ta::tb::tc::td::te::tf::tg::th::tb::tj::tk::tl::tm::tn::tp::tq::tr::ts::tt::tu::tv::tw::tx::ty::tz::tA::tB::tC::tD::tE::tF::tG::tH::tI::tJ::tK::tL::tM::tN::tO::tP::tQ::tR::tS::tT::tU::tV::tW::tX::tY::tZ::q0::q1::q2::q3::q4::q5::q6::q7::q8::q9::qa::qb::qc::qd::qe::qf::qg::qh::qi::qj::qk::ql::qm::qn::qo::qp::qq::qr::qs::qt::qu::qv::qw::qx::qy::qz::qA::qB::qC::qD::qE::qF::qG::qH::qI::qJ::qK::qL::qM::qN::qO::qP::v50::v52::v54::v56::qU::qV::qW::qX::qY::qZ::tb::tb::v66::v68::v70::z5::z6::z7::z8::z9::za::zb::zc::zd::ze::zf::zg::zh::zi::zj::zk::zl::zm::[]),h71⟩)) :=
  (rt_block_eq (go_seq (go_seq (go_reg0
  (go_op0 rfl rfl (st_bm (by kernel_rfl) fun v50 h51 =>
  (go_op0 rfl rfl (st_bm (by kernel_rfl) fun v52 h53 =>
  (go_op0 rfl rfl (st_bp (by kernel_rfl) fun v54 h55 =>
  (go_op0 rfl rfl (st_bm (by kernel_rfl) fun v56 h57 =>
  (go_end0 (by kernel_rfl)
  (go_cond (by kernel_rfl)
  (go_seq (go_reg0
  (go_op0 rfl rfl (st_bm (by kernel_rfl) fun v58 h59 =>
  (go_op0 rfl rfl (st_id (v := t1) (H := h59) (by kernel_rfl)
  (go_op0 rfl rfl (st_id (v := t9) (H := h59) (by kernel_rfl)
  (go_op0 rfl rfl (st_bm (by kernel_rfl) fun v60 h61 =>
  (go_op0 rfl rfl (st_bp (by kernel_rfl) fun v62 h63 =>
  (go_op0 rfl rfl (st_bm (by kernel_rfl) fun v64 h65 =>
  (go_op0 rfl rfl (st_id (v := v64) (H := h65) (by kernel_rfl)
  (go_end0 (by kernel_rfl)
  (go_ret (rt_seq_ret (by kernel_rfl))))))))))))))))))))
  (go_skip (go_seq (go_reg0
  (go_op0 rfl rfl (st_id (v := tb) (H := h57) (by kernel_rfl)
  (go_op0 rfl rfl (st_id (v := tb) (H := h57) (by kernel_rfl)
  (go_end0 (by kernel_rfl)
  (go_seq (go_seq (go_reg0
  (go_op0 rfl rfl (st_id (v := tb) (H := h57) (by kernel_rfl)
  (go_op0 rfl rfl (st_bm (by kernel_rfl) fun v66 h67 =>
  (go_op0 rfl rfl (st_bm (by kernel_rfl) fun v68 h69 =>
  (go_op0 rfl rfl (st_bm (by kernel_rfl) fun v70 h71 =>
  (go_end0 (by kernel_rfl)
  (go_cond (by kernel_rfl)
  (go_reg0
  (go_op0 rfl rfl (st_bm (by kernel_rfl) fun v72 h73 =>
  (go_op0 rfl rfl (st_bm (by kernel_rfl) fun v74 h75 =>
  (go_op0 rfl rfl (st_id (v := v74) (H := h75) (by kernel_rfl)
  (go_end0 (by kernel_rfl)
  (by kernel_rfl)))))))))
  (go_skip (by kernel_rfl)))))))))))))))))))))))))))))))))))))
theorem xm4_4 (s : Sys) (K : Out → St → Option (V × Hp)) (k wl : Nat) (rd : Bool) (n n0 : Nat) (m0 : Nat) (ac : List Nat × List Nat) (h : Hp) : opsP (xX s 4 wl k rd) xg4_1 12 m0 ac (runK (xX s 4 wl k rd) (nextK (xX s 4 wl k rd) xl4_0 n0 K n) xk4_2) ⟨(t0::t1::t2::t3::t4::t5::t6::t7::t8::t9::ta::tb::tc::td::te::tf::tg::th::ti::tj::tk::tl::tm::tn::tp::tq::tr::ts::tt::tu::tv::tw::tx::ty::tz::tA::tB::tC::tD::tE::tF::tG::tH::tI::tJ::tK::tL::tM::tN::tO::tP::tQ::tR::tS::tT::tU::tV::tW::tX::tY::tZ::q0::q1::q2::q3::q4::q5::q6::q7::q8::q9::qa::qb::qc::qd::qe::qf::qg::qh::qi::qj::qk::ql::qm::qn::qo::qp::qq::qr::qs::qt::qu::qv::qw::qx::qy::qz::qA::qB::qC::qD::qE::qF::qG::qH::qI::qJ::qK::qL::qM::qN::qO::qP::qQ::qR::qS::qT::qU::qV::qW::qX::qY::qZ::z0::z1::z2::z3::z4::z5::z6::z7::z8::z9::za::zb::zc::zd::ze::zf::zg::zh::zi::zj::zk::zl::zm::[]),h⟩ =
  bm (vPick tO tT (V.lit (Value.bool false))) h fun v76 h77 =>
  cnd v76 (
  bm (vLoad s.P 23 t3 h77) h77 fun v78 h79 =>
  bm (vLoad s.P 32 ta h79) h79 fun v80 h81 =>
  bp (callV (xX s 4 wl k rd) false true (.fn (.func 10) [] []) [v78,t1,t9,(V.lit (Value.int .i64 0)),v80] h81) fun v82 h83 =>
  bm (vExtract v82 0) h83 fun v84 h85 =>
  bm (vExtract v82 1) h85 fun v86 h87 =>
  bm (vExtract v82 2) h87 fun v88 h89 =>
  bp (opAlloc s.P 32 h89) fun v90 h91 =>
  bs (vStore s.P wl 32 v90 v86 h91) fun h92 =>
  itX (xX s 4 wl k rd) xl4_1 h92.length (runK (xX s 4 wl k rd) (nextK (xX s 4 wl k rd) xl4_0 n0 K n) xk4_4) k ⟨((V.kill h92.length t0)::(V.kill h92.length t1)::(V.kill h92.length t2)::(V.kill h92.length t3)::(V.kill h92.length t4)::(V.kill h92.length t5)::(V.kill h92.length t6)::(V.kill h92.length t7)::(V.kill h92.length t8)::(V.kill h92.length t9)::(V.kill h92.length ta)::(V.kill h92.length tb)::(V.kill h92.length tc)::(V.kill h92.length v84)::(V.kill h92.length v90)::(V.kill h92.length v88)::(V.lit (Value.int .i64 0))::(V.kill h92.length th)::(V.kill h92.length ti)::(V.kill h92.length tj)::(V.kill h92.length tk)::(V.kill h92.length tl)::(V.kill h92.length tm)::(V.kill h92.length tn)::(V.kill h92.length tp)::(V.kill h92.length tq)::(V.kill h92.length tr)::(V.kill h92.length ts)::(V.kill h92.length tt)::(V.kill h92.length tu)::(V.kill h92.length tv)::(V.kill h92.length tw)::(V.kill h92.length tx)::(V.kill h92.length ty)::(V.kill h92.length tz)::(V.kill h92.length tA)::(V.kill h92.length tB)::(V.kill h92.length tC)::(V.kill h92.length tD)::(V.kill h92.length tE)::(V.kill h92.length tF)::(V.kill h92.length tG)::(V.kill h92.length tH)::(V.kill h92.length tI)::(V.kill h92.length tJ)::(V.kill h92.length tK)::(V.kill h92.length tL)::(V.kill h92.length tM)::(V.kill h92.length tN)::(V.kill h92.length tO)::(V.kill h92.length tP)::(V.kill h92.length tQ)::(V.kill h92.length tR)::(V.kill h92.length tS)::(V.kill h92.length tT)::(V.kill h92.length v76)::(V.kill h92.length tV)::(V.kill h92.length tW)::(V.kill h92.length v82)::(V.kill h92.length v78)::(V.kill h92.length t1)::(V.kill h92.length t9)::(V.kill h92.length v80)::(V.kill h92.length v82)::(V.kill h92.length v84)::(V.kill h92.length v86)::(V.kill h92.length v88)::.junk::.junk::.junk::.junk::.junk::.junk::.junk::.junk::.junk::.junk::.junk::.junk::.junk::.junk::.junk::.junk::.junk::.junk::.junk::.junk::.junk::.junk::.junk::.junk::.junk::.junk::.junk::.junk::.junk::.junk::.junk::.junk::.junk::.junk::.junk::.junk::.junk::.junk::.junk::.junk::.junk::.junk::.junk::.junk::(V.kill h92.length qO)::(V.kill h92.length qP)::(V.kill h92.length qQ)::(V.kill h92.length qR)::(V.kill h92.length qS)::(V.kill h92.length qT)::(V.kill h92.length qU)::(V.kill h92.length qV)::(V.kill h92.length qW)::(V.kill h92.length qX)::(V.kill h92.length qY)::(V.kill h92.length qZ)::(V.kill h92.length z0)::(V.kill h92.length z1)::(V.kill h92.length z2)::(V.kill h92.length z3)::(V.kill h92.length z4)::(V.kill h92.length z5)::(V.kill h92.length z6)::(V.kill h92.length z7)::(V.kill h92.length z8)::(V.kill h92.length z9)::(V.kill h92.length za)::(V.kill h92.length zb)::(V.kill h92.length zc)::(V.kill h92.length zd)::(V.kill h92.length ze)::(V.kill h92.length zf)::(V.kill h92.length zg)::(V.kill h92.length zh)::(V.kill h92.length zi)::(V.kill h92.length zj)::(V.kill h92.length zk)::(V.kill h92.length zl)::(V.kill h92.length zm)::[]),cutH h92.length h92⟩) (
  K (.exit 0) ⟨((V.kill n0 t0)::(V.kill n0 t1)::(V.kill n0 t2)::(V.kill n0 t3)::(V.kill n0 t4)::(V.kill n0 t5)::(V.kill n0 t6)::(V.kill n0 t7)::(V.kill n0 t8)::(V.kill n0 t9)::(V.kill n0 ta)::(V.kill n0 tb)::(V.kill n0 tc)::(V.kill n0 td)::(V.kill n0 te)::(V.kill n0 tf)::(V.kill n0 tg)::(V.kill n0 th)::(V.kill n0 ti)::(V.kill n0 tj)::(V.kill n0 tk)::(V.kill n0 tl)::(V.kill n0 tm)::(V.kill n0 tn)::(V.kill n0 tp)::(V.kill n0 tq)::(V.kill n0 tr)::(V.kill n0 ts)::(V.kill n0 tt)::(V.kill n0 tu)::(V.kill n0 tv)::(V.kill n0 tw)::(V.kill n0 tx)::(V.kill n0 ty)::(V.kill n0 tz)::(V.kill n0 tA)::(V.kill n0 tB)::(V.kill n0 tC)::(V.kill n0 tD)::(V.kill n0 tE)::(V.kill n0 tF)::(V.kill n0 tG)::(V.kill n0 tH)::.junk::.junk::.junk::.junk::.junk::.junk::.junk::.junk::.junk::.junk::.junk::.junk::.junk::.junk::.junk::.junk::.junk::.junk::.junk::.junk::.junk::.junk::.junk::.junk::.junk::.junk::.junk::.junk::.junk::.junk::.junk::.junk::.junk::.junk::.junk::.junk::.junk::.junk::.junk::.junk::.junk::.junk::.junk::.junk::.junk::.junk::.junk::.junk::.junk::.junk::.junk::.junk::.junk::.junk::.junk::.junk::.junk::.junk::.junk::.junk::.junk::.junk::.junk::.junk::.junk::.junk::.junk::.junk::.junk::.junk::(V.kill n0 qQ)::(V.kill n0 qR)::(V.kill n0 qS)::(V.kill n0 qT)::(V.kill n0 qU)::(V.kill n0 qV)::(V.kill n0 qW)::(V.kill n0 qX)::(V.kill n0 qY)::(V.kill n0 qZ)::(V.kill n0 z0)::(V.kill n0 z1)::(V.kill n0 z2)::(V.kill n0 z3)::(V.kill n0 z4)::(V.kill n0 z5)::(V.kill n0 z6)::(V.kill n0 z7)::(V.kill n0 z8)::(V.kill n0 z9)::(V.kill n0 za)::(V.kill n0 zb)::(V.kill n0 zc)::(V.kill n0 zd)::(V.kill n0 ze)::(V.kill n0 zf)::(V.kill n0 zg)::(V.kill n0 zh)::(V.kill n0 zi)::(V.kill n0 zj)::(V.kill n0 zk)::(V.kill n0 zl)::(V.kill n0 zm)::[]),cutH n0 h77⟩) :=
  (go_op0 rfl rfl (st_bm (by kernel_rfl) fun v76 h77 =>
  (go_end0 (by kernel_rfl)
  (go_cond (by kernel_rfl)
  (go_skip (go_seq (go_block (go_seq (go_reg0
  (go_op0 rfl rfl (st_bm (by kernel_rfl) fun v78 h79 =>
  (go_op0 rfl rfl (st_id (v := t1) (H := h79) (by kernel_rfl)
  (go_op0 rfl rfl (st_id (v := t9) (H := h79) (by kernel_rfl)
  (go_op0 rfl rfl (st_bm (by kernel_rfl) fun v80 h81 =>
  (go_op0 rfl rfl (st_bp (by kernel_rfl) fun v82 h83 =>
  (go_op0 rfl rfl (st_id (v := v82) (H := h83) (by kernel_rfl)
  (go_op0 rfl rfl (st_bm (by kernel_rfl) fun v84 h85 =>
  (go_op0 rfl rfl (st_bm (by kernel_rfl) fun v86 h87 =>
  (go_op0 rfl rfl (st_bm (by kernel_rfl) fun v88 h89 =>
  (go_op0 rfl rfl (st_bp (by kernel_rfl) fun v90 h91 =>
  (go_op0 rfl rfl (st_id (v := v84) (H := h91) (by kernel_rfl)
  (go_op0 rfl rfl (st_bs (by kernel_rfl) fun h92 =>
  (go_op0 rfl rfl (st_id (v := v88) (H := h92) (by kernel_rfl)
  (go_end0 (by kernel_rfl)
  (go_seq (go_seq (go_reg0
  (go_op0 rfl rfl (st_id (v := (V.lit (Value.int .i64 0))) (H := h92) (by kernel_rfl)
  (go_end0 (by kernel_rfl)
  (go_block (by kernel_rfl))))))))))))))))))))))))))))))))))))))))
  (go_exit (rt_seq_exit (by kernel_rfl)))))))
theorem xj4_5 (s : Sys) (k wl : Nat) (h : Hp) : runK (xX s 4 wl k false) (bodyK s.P Try.f4) xk4_3 .norm ⟨(t0::t1::t2::t3::t4::t5::t6::t7::t8::t9::ta::tb::tc::td::te::tf::tg::th::ti::tj::tk::tl::tm::tn::tp::tq::tr::ts::tt::tu::tv::tw::tx::ty::tz::tA::tB::tC::tD::tE::tF::tG::tH::tI::tJ::tK::tL::tM::tN::tO::tP::tQ::tR::tS::tT::tU::tV::tW::tX::tY::tZ::q0::q1::q2::q3::q4::q5::q6::q7::q8::q9::qa::qb::qc::qd::qe::qf::qg::qh::qi::qj::qk::ql::qm::qn::qo::qp::qq::qr::qs::qt::qu::qv::qw::qx::qy::qz::qA::qB::qC::qD::qE::qF::qG::qH::qI::qJ::qK::qL::qM::qN::qO::qP::qQ::qR::qS::qT::qU::qV::qW::qX::qY::qZ::z0::z1::z2::z3::z4::z5::z6::z7::z8::z9::za::zb::zc::zd::ze::zf::zg::zh::zi::zj::zk::zl::zm::[]),h⟩ =
  bp (opLen s.P 27 t2 h) fun v93 h94 =>
  bm (vBin s.P .eql 3 tb v93) h94 fun v95 h96 =>
  gd v95 (
  bp (callV (xX s 4 wl k false) false true (.fn (.func 17) [] []) [t9,(V.lit (Value.int .i64 0))] h96) fun v97 h98 =>
  bm (vConv s.P 3 28 ti) h98 fun v99 h100 =>
  bm (vBin s.P .eql 28 v97 v99) h100 fun v101 h102 =>
  opsP (xX s 4 wl k false) xg4_2 10 h.length ([],[]) (runK (xX s 4 wl k false) (bodyK s.P Try.f4) xk4_5) ⟨(t0::t1::t2::t3::t4::t5::t6::t7::t8::t9::ta::tb::tc::td::te::tf::tg::th::ti::tj::tk::tl::tm::tn::tp::tq::tr::ts::tt::tu::tv::tw::tx::ty::tz::tA::tB::tC::tD::tE::tF::tG::tH::tI::tJ::tK::tL::tM::tN::tO::tP::tQ::tR::tS::tT::tU::tV::tW::tX::tY::tZ::q0::q1::q2::q3::q4::q5::q6::q7::q8::q9::qa::qb::qc::qd::qe::qf::qg::qh::qi::qj::qk::ql::qm::qn::qo::qp::qq::qr::qs::qt::qu::qv::qw::qx::qy::qz::qA::qB::qC::qD::qE::qF::qG::qH::qI::qJ::qK::qL::qM::qN::qO::qP::qQ::qR::qS::qT::qU::qV::qW::qX::qY::qZ::z0::z1::z2::z3::z4::z5::z6::tb::t2::v93::v95::(V.lit (Value.bool true))::t9::v97::ti::v99::v101::zh::zi::zj::zk::zl::zm::[]),h102⟩) (
  opsP (xX s 4 wl k false) xg4_2 10 h.length ([],[]) (runK (xX s 4 wl k false) (bodyK s.P Try.f4) xk4_5) ⟨(t0::t1::t2::t3::t4::t5::t6::t7::t8::t9::ta::tb::tc::td::te::tf::tg::th::ti::tj::tk::tl::tm::tn::tp::tq::tr::ts::tt::tu::tv::tw::tx::ty::tz::tA::tB::tC::tD::tE::tF::tG::tH::tI::tJ::tK::tL::tM::tN::tO::tP::tQ::tR::tS::tT::tU::tV::tW::tX::tY::tZ::q0::q1::q2::q3::q4::q5::q6::q7::q8::q9::qa::qb::qc::qd::qe::qf::qg::qh::qi::qj::qk::ql::qm::qn::qo::qp::qq::qr::qs::qt::qu::qv::qw::qx::qy::qz::qA::qB::qC::qD::qE::qF::qG::qH::qI::qJ::qK::qL::qM::qN::qO::qP::qQ::qR::qS::qT::qU::qV::qW::qX::qY::qZ::z0::z1::z2::z3::z4::z5::z6::tb::t2::v93::v95::(V.lit (Value.bool false))::uu::uu::uu::uu::uu::zh::zi::zj::zk::zl::zm::[]),h96⟩) (
  opsP (xX s 4 wl k false) xg4_2 6 h.length ([],[]) (runK (xX s 4 wl k false) (bodyK s.P Try.f4) xk4_5) ⟨(t0::t1::t2::t3::t4::t5::t6::t7::t8::t9::ta::tb::tc::td::te::tf::tg::th::ti::tj::tk::tl::tm::tn::tp::tq::tr::ts::tt::tu::tv::tw::tx::ty::tz::tA::tB::tC::tD::tE::tF::tG::tH::tI::tJ::tK::tL::tM::tN::tO::tP::tQ::tR::tS::tT::tU::tV::tW::tX::tY::tZ::q0::q1::q2::q3::q4::q5::q6::q7::q8::q9::qa::qb::qc::qd::qe::qf::qg::qh::qi::qj::qk::ql::qm::qn::qo::qp::qq::qr::qs::qt::qu::qv::qw::qx::qy::qz::qA::qB::qC::qD::qE::qF::qG::qH::qI::qJ::qK::qL::qM::qN::qO::qP::qQ::qR::qS::qT::qU::qV::qW::qX::qY::qZ::z0::z1::z2::z3::z4::z5::z6::tb::t2::v93::v95::v95::uu::zd::ze::zf::zg::zh::zi::zj::zk::zl::zm::[]),h96⟩) :=
  (go_seq (go_reg0
  (go_op0 rfl rfl (st_id (v := tb) (H := h) (by kernel_rfl)
  (go_op0 rfl rfl (st_id (v := t2) (H := h) (by kernel_rfl)
  (go_op0 rfl rfl (st_bp (by kernel_rfl) fun v93 h94 =>
  (go_op0 rfl rfl (st_bm (by kernel_rfl) fun v95 h96 =>
  (go_op0 rfl rfl (st_id (v := v95) (H := h96) (by kernel_rfl)
  (go_gdT0 rfl rfl rfl (by kernel_rfl)
  (st_id (v := t9) (H := h96) (by kernel_rfl)
  (go_run0 rfl rfl rfl (by kernel_rfl) (st_bp (by kernel_rfl) fun v97 h98 =>
  (go_run0 rfl rfl rfl (by kernel_rfl) (st_id (v := ti) (H := h98) (by kernel_rfl)
  (go_run0 rfl rfl rfl (by kernel_rfl) (st_bm (by kernel_rfl) fun v99 h100 =>
  (go_run0 rfl rfl rfl (by kernel_rfl) (st_bm (by kernel_rfl) fun v101 h102 =>
  (by kernel_rfl))))))))))
  (go_skip0 rfl rfl rfl (by kernel_rfl)
  (go_skip0 rfl rfl rfl (by kernel_rfl)
  (go_skip0 rfl rfl rfl (by kernel_rfl)
  (go_skip0 rfl rfl rfl (by kernel_rfl)
  (by kernel_rfl)))))
  (by kernel_rfl))))))))))))))
theorem xr4_1 (s : Sys) (K : Out → St → Option (V × Hp)) (k wl : Nat) (rd : Bool) (n n0 : Nat) (h : Hp) : itX (xX s 4 wl k rd) xl4_1 n0 K (n + 1) ⟨(t0::t1::t2::t3::t4::t5::t6::t7::t8::t9::ta::tb::tc::td::te::tf::tg::th::ti::tj::tk::tl::tm::tn::tp::tq::tr::ts::tt::tu::tv::tw::tx::ty::tz::tA::tB::tC::tD::tE::tF::tG::tH::tI::tJ::tK::tL::tM::tN::tO::tP::tQ::tR::tS::tT::tU::tV::tW::tX::tY::tZ::q0::q1::q2::q3::q4::q5::q6::q7::q8::q9::qa::qb::qc::qd::qe::qf::qg::qh::qi::qj::qk::ql::qm::qn::qo::qp::qq::qr::qs::qt::qu::qv::qw::qx::qy::qz::qA::qB::qC::qD::qE::qF::qG::qH::qI::qJ::qK::qL::qM::qN::qO::qP::qQ::qR::qS::qT::qU::qV::qW::qX::qY::qZ::z0::z1::z2::z3::z4::z5::z6::z7::z8::z9::za::zb::zc::zd::ze::zf::zg::zh::zi::zj::zk::zl::zm::[]),h⟩ =
  bp (opLen s.P 35 tf h) fun v103 h104 =>
  bm (vBin s.P .lss 3 tg v103) h104 fun v105 h106 =>
  cnd v105 (
  bm (vIndexAddr s.P 35 tf tg h106) h106 fun v107 h108 =>
  bm (vFieldAddr s.P 41 v107 0) h108 fun v109 h110 =>
  bm (vLoad s.P 3 v109 h110) h110 fun v111 h112 =>
  bm (vBin s.P .eql 3 v111 (V.lit (Value.int .i64 5))) h112 fun v113 h114 =>
  cnd v113 (
  bm (vBin s.P .add 3 tg (V.lit (Value.int .i64 1))) h114 fun v115 h116 =>
  itX (xX s 4 wl k rd) xl4_1 n0 K n ⟨((V.kill n0 t0)::(V.kill n0 t1)::(V.kill n0 t2)::(V.kill n0 t3)::(V.kill n0 t4)::(V.kill n0 t5)::(V.kill n0 t6)::(V.kill n0 t7)::(V.kill n0 t8)::(V.kill n0 t9)::(V.kill n0 ta)::(V.kill n0 tb)::(V.kill n0 tc)::(V.kill n0 td)::(V.kill n0 te)::(V.kill n0 tf)::(V.kill n0 v115)::(V.kill n0 th)::(V.kill n0 ti)::(V.kill n0 tj)::(V.kill n0 tk)::(V.kill n0 tl)::(V.kill n0 tm)::(V.kill n0 tn)::(V.kill n0 tp)::(V.kill n0 tq)::(V.kill n0 tr)::(V.kill n0 ts)::(V.kill n0 tt)::(V.kill n0 tu)::(V.kill n0 tv)::(V.kill n0 tw)::(V.kill n0 tx)::(V.kill n0 ty)::(V.kill n0 tz)::(V.kill n0 tA)::(V.kill n0 tB)::(V.kill n0 tC)::(V.kill n0 tD)::(V.kill n0 tE)::(V.kill n0 tF)::(V.kill n0 tG)::(V.kill n0 tH)::(V.kill n0 tI)::(V.kill n0 tJ)::(V.kill n0 tK)::(V.kill n0 tL)::(V.kill n0 tM)::(V.kill n0 tN)::(V.kill n0 tO)::(V.kill n0 tP)::(V.kill n0 tQ)::(V.kill n0 tR)::(V.kill n0 tS)::(V.kill n0 tT)::(V.kill n0 tU)::(V.kill n0 tV)::(V.kill n0 tW)::(V.kill n0 tX)::(V.kill n0 tY)::(V.kill n0 tZ)::(V.kill n0 q0)::(V.kill n0 q1)::(V.kill n0 q2)::(V.kill n0 q3)::(V.kill n0 q4)::(V.kill n0 q5)::.junk::.junk::.junk::.junk::.junk::.junk::.junk::.junk::.junk::.junk::.junk::.junk::.junk::.junk::.junk::.junk::.junk::.junk::.junk::.junk::.junk::.junk::.junk::.junk::.junk::.junk::.junk::.junk::.junk::.junk::.junk::.junk::.junk::.junk::.junk::.junk::.junk::.junk::.junk::.junk::.junk::.junk::.junk::.junk::(V.kill n0 qO)::(V.kill n0 qP)::(V.kill n0 qQ)::(V.kill n0 qR)::(V.kill n0 qS)::(V.kill n0 qT)::(V.kill n0 qU)::(V.kill n0 qV)::(V.kill n0 qW)::(V.kill n0 qX)::(V.kill n0 qY)::(V.kill n0 qZ)::(V.kill n0 z0)::(V.kill n0 z1)::(V.kill n0 z2)::(V.kill n0 z3)::(V.kill n0 z4)::(V.kill n0 z5)::(V.kill n0 z6)::(V.kill n0 z7)::(V.kill n0 z8)::(V.kill n0 z9)::(V.kill n0 za)::(V.kill n0 zb)::(V.kill n0 zc)::(V.kill n0 zd)::(V.kill n0 ze)::(V.kill n0 zf)::(V.kill n0 zg)::(V.kill n0 zh)::(V.kill n0 zi)::(V.kill n0 zj)::(V.kill n0 zk)::(V.kill n0 zl)::(V.kill n0 zm)::[]),cutH n0 h116⟩) (
  bm (vIndexAddr s.P 35 tf tg h114) h114 fun v117 h118 =>
  bm (vFieldAddr s.P 41 v117 0) h118 fun v119 h120 =>
  bm (vLoad s.P 3 v119 h120) h120 fun v121 h122 =>
  bm (vBin s.P .eql 3 v121 (V.lit (Value.int .i64 0))) h122 fun v123 h124 =>
  bp (opLen s.P 27 t2 h124) fun v125 h126 =>
  bm (vBin s.P .geq 3 tb v125) h126 fun v127 h128 =>
  gd v127 (
  opsP (xX s 4 wl k rd) xg4_3 15 h124.length ([],[]) (runK (xX s 4 wl k rd) (nextK (xX s 4 wl k rd) xl4_1 n0 K n) xk4_6) ⟨(t0::t1::t2::t3::t4::t5::t6::t7::t8::t9::ta::tb::tc::td::te::tf::tg::v123::ti::tj::tk::tl::tm::tn::tp::tq::tr::ts::tt::tu::tv::tw::tx::ty::tz::tA::tB::tC::tD::tE::tF::tG::tH::tI::tJ::tK::tL::tM::tN::tO::tP::tQ::tR::tS::tT::tU::tV::tW::tX::tY::tZ::q0::q1::q2::q3::q4::q5::tg::tf::v103::v105::qa::qb::tf::tg::v107::v109::v111::v113::tf::tg::v117::v119::v121::v123::tb::t2::v125::v127::(V.lit (Value.bool true))::uu::uu::uu::uu::uu::uu::uu::uu::uu::uu::qD::qE::qF::qG::qH::qI::qJ::qK::qL::qM::qN::qO::qP::qQ::qR::qS::qT::qU::qV::qW::qX::qY::qZ::z0::z1::z2::z3::z4::z5::z6::z7::z8::z9::za::zb::zc::zd::ze::zf::zg::zh::zi::zj::zk::zl::zm::[]),h128⟩) (
  bm (vIndexAddr s.P 35 tf tg h128) h128 fun v129 h130 =>
  bm (vFieldAddr s.P 41 v129 1) h130 fun v131 h132 =>
  bm (vLoad s.P 3 v131 h132) h132 fun v133 h134 =>
  bm (vIndexAddr s.P 27 t2 tb h134) h134 fun v135 h136 =>
  bm (vLoad s.P 3 v135 h136) h136 fun v137 h138 =>
  bm (vBin s.P .neq 3 v133 v137) h138 fun v139 h140 =>
  opsP (xX s 4 wl k rd) xg4_3 15 h124.length ([],[]) (runK (xX s 4 wl k rd) (nextK (xX s 4 wl k rd) xl4_1 n0 K n) xk4_6) ⟨(t0::t1::t2::t3::t4::t5::t6::t7::t8::t9::ta::tb::tc::td::te::tf::tg::v123::ti::tj::tk::tl::tm::tn::tp::tq::tr::ts::tt::tu::tv::tw::tx::ty::tz::tA::tB::tC::tD::tE::tF::tG::tH::tI::tJ::tK::tL::tM::tN::tO::tP::tQ::tR::tS::tT::tU::tV::tW::tX::tY::tZ::q0::q1::q2::q3::q4::q5::tg::tf::v103::v105::qa::qb::tf::tg::v107::v109::v111::v113::tf::tg::v117::v119::v121::v123::tb::t2::v125::v127::(V.lit (Value.bool false))::tf::tg::v129::v131::v133::t2::tb::v135::v137::v139::qD::qE::qF::qG::qH::qI::qJ::qK::qL::qM::qN::qO::qP::qQ::qR::qS::qT::qU::qV::qW::qX::qY::qZ::z0::z1::z2::z3::z4::z5::z6::z7::z8::z9::za::zb::zc::zd::ze::zf::zg::zh::zi::zj::zk::zl::zm::[]),h140⟩) (
  opsP (xX s 4 wl k rd) xg4_3 6 h124.length ([],[]) (runK (xX s 4 wl k rd) (nextK (xX s 4 wl k rd) xl4_1 n0 K n) xk4_6) ⟨(t0::t1::t2::t3::t4::t5::t6::t7::t8::t9::ta::tb::tc::td::te::tf::tg::v123::ti::tj::tk::tl::tm::tn::tp::tq::tr::ts::tt::tu::tv::tw::tx::ty::tz::tA::tB::tC::tD::tE::tF::tG::tH::tI::tJ::tK::tL::tM::tN::tO::tP::tQ::tR::tS::tT::tU::tV::tW::tX::tY::tZ::q0::q1::q2::q3::q4::q5::tg::tf::v103::v105::qa::qb::tf::tg::v107::v109::v111::v113::tf::tg::v117::v119::v121::v123::tb::t2::v125::v127::v127::uu::qu::qv::qw::qx::qy::qz::qA::qB::qC::qD::qE::qF::qG::qH::qI::qJ::qK::qL::qM::qN::qO::qP::qQ::qR::qS::qT::qU::qV::qW::qX::qY::qZ::z0::z1::z2::z3::z4::z5::z6::z7::z8::z9::za::zb::zc::zd::ze::zf::zg::zh::zi::zj::zk::zl::zm::[]),h128⟩))) (
  K (.exit 2) ⟨((V.kill n0 t0)::(V.kill n0 t1)::(V.kill n0 t2)::(V.kill n0 t3)::(V.kill n0 t4)::(V.kill n0 t5)::(V.kill n0 t6)::(V.kill n0 t7)::(V.kill n0 t8)::(V.kill n0 t9)::(V.kill n0 ta)::(V.kill n0 tb)::(V.kill n0 tc)::(V.kill n0 td)::(V.kill n0 te)::(V.kill n0 tf)::(V.kill n0 tg)::(V.kill n0 th)::(V.kill n0 ti)::(V.kill n0 tj)::(V.kill n0 tk)::(V.kill n0 tl)::(V.kill n0 tm)::(V.kill n0 tn)::(V.kill n0 tp)::(V.kill n0 tq)::(V.kill n0 tr)::(V.kill n0 ts)::(V.kill n0 tt)::(V.kill n0 tu)::(V.kill n0 tv)::(V.kill n0 tw)::(V.kill n0 tx)::(V.kill n0 ty)::(V.kill n0 tz)::(V.kill n0 tA)::(V.kill n0 tB)::(V.kill n0 tC)::(V.kill n0 tD)::(V.kill n0 tE)::(V.kill n0 tF)::(V.kill n0 tG)::(V.kill n0 tH)::(V.kill n0 tI)::(V.kill n0 tJ)::(V.kill n0 tK)::(V.kill n0 tL)::(V.kill n0 tM)::(V.kill n0 tN)::(V.kill n0 tO)::(V.kill n0 tP)::(V.kill n0 tQ)::(V.kill n0 tR)::(V.kill n0 tS)::(V.kill n0 tT)::(V.kill n0 tU)::(V.kill n0 tV)::(V.kill n0 tW)::(V.kill n0 tX)::(V.kill n0 tY)::(V.kill n0 tZ)::(V.kill n0 q0)::(V.kill n0 q1)::(V.kill n0 q2)::(V.kill n0 q3)::(V.kill n0 q4)::(V.kill n0 q5)::.junk::.junk::.junk::.junk::.junk::.junk::.junk::.junk::.junk::.junk::.junk::.junk::.junk::.junk::.junk::.junk::.junk::.junk::.junk::.junk::.junk::.junk::.junk::.junk::.junk::.junk::.junk::.junk::.junk::.junk::.junk::.junk::.junk::.junk::.junk::.junk::.junk::.junk::.junk::.junk::.junk::.junk::.junk::.junk::(V.kill n0 qO)::(V.kill n0 qP)::(V.kill n0 qQ)::(V.kill n0 qR)::(V.kill n0 qS)::(V.kill n0 qT)::(V.kill n0 qU)::(V.kill n0 qV)::(V.kill n0 qW)::(V.kill n0 qX)::(V.kill n0 qY)::(V.kill n0 qZ)::(V.kill n0 z0)::(V.kill n0 z1)::(V.kill n0 z2)::(V.kill n0 z3)::(V.kill n0 z4)::(V.kill n0 z5)::(V.kill n0 z6)::(V.kill n0 z7)::(V.kill n0 z8)::(V.kill n0 z9)::(V.kill n0 za)::(V.kill n0 zb)::(V.kill n0 zc)::(V.kill n0 zd)::(V.kill n0 ze)::(V.kill n0 zf)::(V.kill n0 zg)::(V.kill n0 zh)::(V.kill n0 zi)::(V.kill n0 zj)::(V.kill n0 zk)::(V.kill n0 zl)::(V.kill n0 zm)::[]),cutH n0 h106⟩) :=
  itX_step (go_seq (go_seq (go_reg0
  (go_op0 rfl rfl (st_id (v := tg) (H := h) (by kernel_rfl)
  (go_op0 rfl rfl (st_id (v := tf) (H := h) (by kernel_rfl)
  (go_op0 rfl rfl (st_bp (by kernel_rfl) fun v103 h104 =>
  (go_op0 rfl rfl (st_bm (by kernel_rfl) fun v105 h106 =>
  (go_end0 (by kernel_rfl)
  (go_cond (by kernel_rfl)
  (go_skip (go_seq (go_block (go_seq (go_seq (go_reg0
  (go_op0 rfl rfl (st_id (v := tf) (H := h106) (by kernel_rfl)
  (go_op0 rfl rfl (st_id (v := tg) (H := h106) (by kernel_rfl)
  (go_op0 rfl rfl (st_bm (by kernel_rfl) fun v107 h108 =>
  (go_op0 rfl rfl (st_bm (by kernel_rfl) fun v109 h110 =>
  (go_op0 rfl rfl (st_bm (by kernel_rfl) fun v111 h112 =>
  (go_op0 rfl rfl (st_bm (by kernel_rfl) fun v113 h114 =>
  (go_end0 (by kernel_rfl)
  (go_cond (by kernel_rfl)
  (go_exit (rt_seq_exit (rt_block_eq (go_reg0
  (go_op0 rfl rfl (st_id (v := tg) (H := h114) (by kernel_rfl)
  (go_op0 rfl rfl (st_bm (by kernel_rfl) fun v115 h116 =>
  (go_op0 rfl rfl (st_id (v := v115) (H := h116) (by kernel_rfl)
  (go_end0 (by kernel_rfl)
  (by kernel_rfl))))))))))))
  (go_skip (go_seq (go_reg0
  (go_op0 rfl rfl (st_id (v := tf) (H := h114) (by kernel_rfl)
  (go_op0 rfl rfl (st_id (v := tg) (H := h114) (by kernel_rfl)
  (go_op0 rfl rfl (st_bm (by kernel_rfl) fun v117 h118 =>
  (go_op0 rfl rfl (st_bm (by kernel_rfl) fun v119 h120 =>
  (go_op0 rfl rfl (st_bm (by kernel_rfl) fun v121 h122 =>
  (go_op0 rfl rfl (st_bm (by kernel_rfl) fun v123 h124 =>
  (go_op0 rfl rfl (st_id (v := v123) (H := h124) (by kernel_rfl)
  (go_end0 (by kernel_rfl)
  (go_seq (go_seq (go_reg1 xo4_17r
  (go_op1 xo4_17 xo4_17a rfl rfl rfl (st_no (by kernel_rfl) (st_id (v := tb) (H := h124) (by kernel_rfl)
  (go_op1 xo4_17 xo4_17a rfl rfl rfl (st_no (by kernel_rfl) (st_id (v := t2) (H := h124) (by kernel_rfl)
  (go_op1 xo4_17 xo4_17a rfl rfl rfl (st_no (by kernel_rfl) (st_bp (by kernel_rfl) fun v125 h126 =>
  (go_op1 xo4_17 xo4_17a rfl rfl rfl (st_no (by kernel_rfl) (st_bm (by kernel_rfl) fun v127 h128 =>
  (go_op1 xo4_17 xo4_17a rfl rfl rfl (st_no (by kernel_rfl) (st_id (v := v127) (H := h128) (by kernel_rfl)
  (go_gdF1 xo4_17 xo4_17a rfl rfl rfl rfl (by kernel_rfl)
  (go_skip1 xo4_17 rfl rfl rfl rfl (by kernel_rfl)
  (go_skip1 xo4_17 rfl rfl rfl rfl (by kernel_rfl)
  (go_skip1 xo4_17 rfl rfl rfl rfl (by kernel_rfl)
  (go_skip1 xo4_17 rfl rfl rfl rfl (by kernel_rfl)
  (go_skip1 xo4_17 rfl rfl rfl rfl (by kernel_rfl)
  (go_skip1 xo4_17 rfl rfl rfl rfl (by kernel_rfl)
  (go_skip1 xo4_17 rfl rfl rfl rfl (by kernel_rfl)
  (go_skip1 xo4_17 rfl rfl rfl rfl (by kernel_rfl)
  (go_skip1 xo4_17 rfl rfl rfl rfl (by kernel_rfl)
  (by kernel_rfl))))))))))
  (st_no (by kernel_rfl) (st_id (v := tf) (H := h128) (by kernel_rfl)
  (go_run1 xo4_17 xo4_17a rfl rfl rfl rfl (by kernel_rfl) (st_no (by kernel_rfl) (st_id (v := tg) (H := h128) (by kernel_rfl)
  (go_run1 xo4_17 xo4_17a rfl rfl rfl rfl (by kernel_rfl) (st_no (by kernel_rfl) (st_bm (by kernel_rfl) fun v129 h130 =>
  (go_run1 xo4_17 xo4_17a rfl rfl rfl rfl (by kernel_rfl) (st_no (by kernel_rfl) (st_bm (by kernel_rfl) fun v131 h132 =>
  (go_run1 xo4_17 xo4_17a rfl rfl rfl rfl (by kernel_rfl) (st_no (by kernel_rfl) (st_bm (by kernel_rfl) fun v133 h134 =>
  (go_run1 xo4_17 xo4_17a rfl rfl rfl rfl (by kernel_rfl) (st_no (by kernel_rfl) (st_id (v := t2) (H := h134) (by kernel_rfl)
  (go_run1 xo4_17 xo4_17a rfl rfl rfl rfl (by kernel_rfl) (st_no (by kernel_rfl) (st_id (v := tb) (H := h134) (by kernel_rfl)
  (go_run1 xo4_17 xo4_17a rfl rfl rfl rfl (by kernel_rfl) (st_no (by kernel_rfl) (st_bm (by kernel_rfl) fun v135 h136 =>
  (go_run1 xo4_17 xo4_17a rfl rfl rfl rfl (by kernel_rfl) (st_no (by kernel_rfl) (st_bm (by kernel_rfl) fun v137 h138 =>
  (go_run1 xo4_17 xo4_17a rfl rfl rfl rfl (by kernel_rfl) (st_no (by kernel_rfl) (st_bm (by kernel_rfl) fun v139 h140 =>
  (by kernel_rfl))))))))))))))))))))))))))))))
  (by kernel_rfl))))))))))))))))))))))))))))))))))))))))))))))))))))))))))
  (go_exit (rt_seq_exit (by kernel_rfl))))))))))))))))
theorem xj4_6 (s : Sys) (K : Out → St → Option (V × Hp)) (k wl : Nat) (rd : Bool) (n n0 : Nat) (h : Hp) : runK (xX s 4 wl k rd) (nextK (xX s 4 wl k rd) xl4_0 n0 K n) xk4_4 (.exit 2) ⟨(t0::t1::t2::t3::t4::t5::t6::t7::t8::t9::ta::tb::tc::td::te::tf::tg::th::ti::tj::tk::tl::tm::tn::tp::tq::tr::ts::tt::tu::tv::tw::tx::ty::tz::tA::tB::tC::tD::tE::tF::tG::tH::tI::tJ::tK::tL::tM::tN::tO::tP::tQ::tR::tS::tT::tU::tV::tW::tX::tY::tZ::q0::q1::q2::q3::q4::q5::q6::q7::q8::q9::qa::qb::qc::qd::qe::qf::qg::qh::qi::qj::qk::ql::qm::qn::qo::qp::qq::qr::qs::qt::qu::qv::qw::qx::qy::qz::qA::qB::qC::qD::qE::qF::qG::qH::qI::qJ::qK::qL::qM::qN::qO::qP::qQ::qR::qS::qT::qU::qV::qW::qX::qY::qZ::z0::z1::z2::z3::z4::z5::z6::z7::z8::z9::za::zb::zc::zd::ze::zf::zg::zh::zi::zj::zk::zl::zm::[]),h⟩ =
  bm (vLoad s.P 32 te h) h fun v141 h142 =>
  bs (vStore s.P wl 32 ta v141 h142) fun h143 =>
  bm (vBin s.P .add 3 tc (V.lit (Value.int .i64 1))) h143 fun v144 h145 =>
  itX (xX s 4 wl k rd) xl4_0 n0 K n ⟨((V.kill n0 t0)::(V.kill n0 t1)::(V.kill n0 t2)::(V.kill n0 t3)::(V.kill n0 t4)::(V.kill n0 t5)::(V.kill n0 t6)::(V.kill n0 t7)::(V.kill n0 t8)::(V.kill n0 td)::(V.kill n0 ta)::(V.kill n0 tb)::(V.kill n0 v144)::(V.kill n0 td)::(V.kill n0 te)::(V.kill n0 tf)::(V.kill n0 tg)::(V.kill n0 th)::(V.kill n0 ti)::(V.kill n0 tj)::(V.kill n0 tk)::(V.kill n0 tl)::(V.kill n0 tm)::(V.kill n0 tn)::(V.kill n0 tp)::(V.kill n0 tq)::(V.kill n0 tr)::(V.kill n0 ts)::(V.kill n0 tt)::(V.kill n0 tu)::(V.kill n0 tv)::(V.kill n0 tw)::(V.kill n0 tx)::(V.kill n0 ty)::(V.kill n0 tz)::(V.kill n0 tA)::(V.kill n0 tB)::(V.kill n0 tC)::(V.kill n0 tD)::(V.kill n0 tE)::(V.kill n0 tF)::(V.kill n0 tG)::(V.kill n0 tH)::.junk::.junk::.junk::.junk::.junk::.junk::.junk::.junk::.junk::.junk::.junk::.junk::.junk::.junk::.junk::.junk::.junk::.junk::.junk::.junk::.junk::.junk::.junk::.junk::.junk::.junk::.junk::.junk::.junk::.junk::.junk::.junk::.junk::.junk::.junk::.junk::.junk::.junk::.junk::.junk::.junk::.junk::.junk::.junk::.junk::.junk::.junk::.junk::.junk::.junk::.junk::.junk::.junk::.junk::.junk::.junk::.junk::.junk::.junk::.junk::.junk::.junk::.junk::.junk::.junk::.junk::.junk::.junk::.junk::.junk::(V.kill n0 qQ)::(V.kill n0 qR)::(V.kill n0 qS)::(V.kill n0 qT)::(V.kill n0 qU)::(V.kill n0 qV)::(V.kill n0 qW)::(V.kill n0 qX)::(V.kill n0 qY)::(V.kill n0 qZ)::(V.kill n0 z0)::(V.kill n0 z1)::(V.kill n0 z2)::(V.kill n0 z3)::(V.kill n0 z4)::(V.kill n0 z5)::(V.kill n0 z6)::(V.kill n0 z7)::(V.kill n0 z8)::(V.kill n0 z9)::(V.kill n0 za)::(V.kill n0 zb)::(V.kill n0 zc)::(V.kill n0 zd)::(V.kill n0 ze)::(V.kill n0 zf)::(V.kill n0 zg)::(V.kill n0 zh)::(V.kill n0 zi)::(V.kill n0 zj)::(V.kill n0 zk)::(V.kill n0 zl)::(V.kill n0 zm)::[]),cutH n0 h145⟩ :=
  (rt_block_eq (go_seq (go_reg0
  (go_op0 rfl rfl (st_id (v := td) (H := h) (by kernel_rfl)
  (go_op0 rfl rfl (st_id (v := td) (H := h) (by kernel_rfl)
  (go_end0 (by kernel_rfl)
  (go_reg0
  (go_op0 rfl rfl (st_bm (by kernel_rfl) fun v141 h142 =>
  (go_op0 rfl rfl (st_bs (by kernel_rfl) fun h143 =>
  (go_end0 (by kernel_rfl)
  (rt_block_norm (go_reg0
  (go_op0 rfl rfl (st_id (v := tc) (H := h143) (by kernel_rfl)
  (go_op0 rfl rfl (st_bm (by kernel_rfl) fun v144 h145 =>
  (go_op0 rfl rfl (st_id (v := v144) (H := h145) (by kernel_rfl)
  (go_end0 (by kernel_rfl)
  (by kernel_rfl))))))))))))))))))))))))
theorem xm4_7 (s : Sys) (k wl : Nat) (m0 : Nat) (ac : List Nat × List Nat) (h : Hp) : opsP (xX s 4 wl k false) xg4_2 10 m0 ac (runK (xX s 4 wl k false) (bodyK s.P Try.f4) xk4_5) ⟨(t0::t1::t2::t3::t4::t5::t6::t7::t8::t9::ta::tb::tc::td::te::tf::tg::th::ti::tj::tk::tl::tm::tn::tp::tq::tr::ts::tt::tu::tv::tw::tx::ty::tz::tA::tB::tC::tD::tE::tF::tG::tH::tI::tJ::tK::tL::tM::tN::tO::tP::tQ::tR::tS::tT::tU::tV::tW::tX::tY::tZ::q0::q1::q2::q3::q4::q5::q6::q7::q8::q9::qa::qb::qc::qd::qe::qf::qg::qh::qi::qj::qk::ql::qm::qn::qo::qp::qq::qr::qs::qt::qu::qv::qw::qx::qy::qz::qA::qB::qC::qD::qE::qF::qG::qH::qI::qJ::qK::qL::qM::qN::qO::qP::qQ::qR::qS::qT::qU::qV::qW::qX::qY::qZ::z0::z1::z2::z3::z4::z5::z6::z7::z8::z9::za::zb::zc::zd::ze::zf::zg::zh::zi::zj::zk::zl::zm::[]),h⟩ =
  bm (vPick zb zg (V.lit (Value.bool false))) h fun v146 h147 =>
  gd v146 (
  bm (vLoad s.P 32 ta h147) h147 fun v148 h149 =>
  bp (callV (xX s 4 wl k false) false true (.fn (.func 13) [] []) [v148] h149) fun v150 h151 =>
  bm (vUn .not v150) h151 fun v152 h153 =>
  opsP (xX s 4 wl k false) xg4_2 15 m0 ac (runK (xX s 4 wl k false) (bodyK s.P Try.f4) xk4_5) ⟨(t0::t1::t2::t3::t4::t5::t6::t7::t8::t9::ta::tb::tc::td::te::tf::tg::th::ti::tj::tk::tl::tm::tn::tp::tq::tr::ts::tt::tu::tv::tw::tx::ty::tz::tA::tB::tC::tD::tE::tF::tG::tH::tI::tJ::tK::tL::tM::tN::tO::tP::tQ::tR::tS::tT::tU::tV::tW::tX::tY::tZ::q0::q1::q2::q3::q4::q5::q6::q7::q8::q9::qa::qb::qc::qd::qe::qf::qg::qh::qi::qj::qk::ql::qm::qn::qo::qp::qq::qr::qs::qt::qu::qv::qw::qx::qy::qz::qA::qB::qC::qD::qE::qF::qG::qH::qI::qJ::qK::qL::qM::qN::qO::qP::qQ::qR::qS::qT::qU::qV::qW::qX::qY::qZ::z0::z1::z2::z3::z4::z5::z6::z7::z8::z9::za::zb::zc::zd::ze::zf::zg::v146::(V.lit (Value.bool true))::v148::v150::v152::zm::[]),h153⟩) (
  opsP (xX s 4 wl k false) xg4_2 15 m0 ac (runK (xX s 4 wl k false) (bodyK s.P Try.f4) xk4_5) ⟨(t0::t1::t2::t3::t4::t5::t6::t7::t8::t9::ta::tb::tc::td::te::tf::tg::th::ti::tj::tk::tl::tm::tn::tp::tq::tr::ts::tt::tu::tv::tw::tx::ty::tz::tA::tB::tC::tD::tE::tF::tG::tH::tI::tJ::tK::tL::tM::tN::tO::tP::tQ::tR::tS::tT::tU::tV::tW::tX::tY::tZ::q0::q1::q2::q3::q4::q5::q6::q7::q8::q9::qa::qb::qc::qd::qe::qf::qg::qh::qi::qj::qk::ql::qm::qn::qo::qp::qq::qr::qs::qt::qu::qv::qw::qx::qy::qz::qA::qB::qC::qD::qE::qF::qG::qH::qI::qJ::qK::qL::qM::qN::qO::qP::qQ::qR::qS::qT::qU::qV::qW::qX::qY::qZ::z0::z1::z2::z3::z4::z5::z6::z7::z8::z9::za::zb::zc::zd::ze::zf::zg::v146::(V.lit (Value.bool false))::uu::uu::uu::zm::[]),h147⟩) (
  opsP (xX s 4 wl k false) xg4_2 13 m0 ac (runK (xX s 4 wl k false) (bodyK s.P Try.f4) xk4_5) ⟨(t0::t1::t2::t3::t4::t5::t6::t7::t8::t9::ta::tb::tc::td::te::tf::tg::th::ti::tj::tk::tl::tm::tn::tp::tq::tr::ts::tt::tu::tv::tw::tx::ty::tz::tA::tB::tC::tD::tE::tF::tG::tH::tI::tJ::tK::tL::tM::tN::tO::tP::tQ::tR::tS::tT::tU::tV::tW::tX::tY::tZ::q0::q1::q2::q3::q4::q5::q6::q7::q8::q9::qa::qb::qc::qd::qe::qf::qg::qh::qi::qj::qk::ql::qm::qn::qo::qp::qq::qr::qs::qt::qu::qv::qw::qx::qy::qz::qA::qB::qC::qD::qE::qF::qG::qH::qI::qJ::qK::qL::qM::qN::qO::qP::qQ::qR::qS::qT::qU::qV::qW::qX::qY::qZ::z0::z1::z2::z3::z4::z5::z6::z7::z8::z9::za::zb::zc::zd::ze::zf::zg::v146::v146::uu::zk::zl::zm::[]),h147⟩) :=
  (go_op0 rfl rfl (st_bm (by kernel_rfl) fun v146 h147 =>
  (go_op0 rfl rfl (st_id (v := v146) (H := h147) (by kernel_rfl)
  (go_gdT0 rfl rfl rfl (by kernel_rfl)
  (st_bm (by kernel_rfl) fun v148 h149 =>
  (go_run0 rfl rfl rfl (by kernel_rfl) (st_bp (by kernel_rfl) fun v150 h151 =>
  (go_run0 rfl rfl rfl (by kernel_rfl) (st_bm (by kernel_rfl) fun v152 h153 =>
  (by kernel_rfl))))))
  (go_skip0 rfl rfl rfl (by kernel_rfl)
  (go_skip0 rfl rfl rfl (by kernel_rfl)
  (by kernel_rfl)))
  (by kernel_rfl))))))
theorem xm4_8 (s : Sys) (K : Out → St → Option (V × Hp)) (k wl : Nat) (rd : Bool) (n n0 : Nat) (m0 : Nat) (ac : List Nat × List Nat) (h : Hp) : opsP (xX s 4 wl k rd) xg4_3 15 m0 ac (runK (xX s 4 wl k rd) (nextK (xX s 4 wl k rd) xl4_1 n0 K n) xk4_6) ⟨(t0::t1::t2::t3::t4::t5::t6::t7::t8::t9::ta::tb::tc::td::te::tf::tg::th::ti::tj::tk::tl::tm::tn::tp::tq::tr::ts::tt::tu::tv::tw::tx::ty::tz::tA::tB::tC::tD::tE::tF::tG::tH::tI::tJ::tK::tL::tM::tN::tO::tP::tQ::tR::tS::tT::tU::tV::tW::tX::tY::tZ::q0::q1::q2::q3::q4::q5::q6::q7::q8::q9::qa::qb::qc::qd::qe::qf::qg::qh::qi::qj::qk::ql::qm::qn::qo::qp::qq::qr::qs::qt::qu::qv::qw::qx::qy::qz::qA::qB::qC::qD::qE::qF::qG::qH::qI::qJ::qK::qL::qM::qN::qO::qP::qQ::qR::qS::qT::qU::qV::qW::qX::qY::qZ::z0::z1::z2::z3::z4::z5::z6::z7::z8::z9::za::zb::zc::zd::ze::zf::zg::zh::zi::zj::zk::zl::zm::[]),h⟩ =
  bm (vPick qs (V.lit (Value.bool true)) qC) h fun v154 h155 =>
  gd v154 (
  opsP (xX s 4 wl k rd) xg4_3 23 m0 ac (runK (xX s 4 wl k rd) (nextK (xX s 4 wl k rd) xl4_1 n0 K n) xk4_6) ⟨(t0::t1::t2::t3::t4::t5::t6::t7::t8::t9::ta::tb::tc::td::te::tf::tg::th::ti::tj::tk::tl::tm::tn::tp::tq::tr::ts::tt::tu::tv::tw::tx::ty::tz::tA::tB::tC::tD::tE::tF::tG::tH::tI::tJ::tK::tL::tM::tN::tO::tP::tQ::tR::tS::tT::tU::tV::tW::tX::tY::tZ::q0::q1::q2::q3::q4::q5::q6::q7::q8::q9::qa::qb::qc::qd::qe::qf::qg::qh::qi::qj::qk::ql::qm::qn::qo::qp::qq::qr::qs::qt::qu::qv::qw::qx::qy::qz::qA::qB::qC::v154::(V.lit (Value.bool true))::uu::uu::uu::uu::uu::uu::qL::qM::qN::qO::qP::qQ::qR::qS::qT::qU::qV::qW::qX::qY::qZ::z0::z1::z2::z3::z4::z5::z6::z7::z8::z9::za::zb::zc::zd::ze::zf::zg::zh::zi::zj::zk::zl::zm::[]),h155⟩) (
  bm (vFieldAddr s.P 23 t3 2) h155 fun v156 h157 =>
  bm (vLoad s.P 3 v156 h157) h157 fun v158 h159 =>
  bm (vBin s.P .lss 3 tb v158) h159 fun v160 h161 =>
  bm (vBin s.P .neq 4 th v160) h161 fun v162 h163 =>
  opsP (xX s 4 wl k rd) xg4_3 23 m0 ac (runK (xX s 4 wl k rd) (nextK (xX s 4 wl k rd) xl4_1 n0 K n) xk4_6) ⟨(t0::t1::t2::t3::t4::t5::t6::t7::t8::t9::ta::tb::tc::td::te::tf::tg::th::ti::tj::tk::tl::tm::tn::tp::tq::tr::ts::tt::tu::tv::tw::tx::ty::tz::tA::tB::tC::tD::tE::tF::tG::tH::tI::tJ::tK::tL::tM::tN::tO::tP::tQ::tR::tS::tT::tU::tV::tW::tX::tY::tZ::q0::q1::q2::q3::q4::q5::q6::q7::q8::q9::qa::qb::qc::qd::qe::qf::qg::qh::qi::qj::qk::ql::qm::qn::qo::qp::qq::qr::qs::qt::qu::qv::qw::qx::qy::qz::qA::qB::qC::v154::(V.lit (Value.bool false))::th::tb::v156::v158::v160::v162::qL::qM::qN::qO::qP::qQ::qR::qS::qT::qU::qV::qW::qX::qY::qZ::z0::z1::z2::z3::z4::z5::z6::z7::z8::z9::za::zb::zc::zd::ze::zf::zg::zh::zi::zj::zk::zl::zm::[]),h163⟩) (
  opsP (xX s 4 wl k rd) xg4_3 18 m0 ac (runK (xX s 4 wl k rd) (nextK (xX s 4 wl k rd) xl4_1 n0 K n) xk4_6) ⟨(t0::t1::t2::t3::t4::t5::t6::t7::t8::t9::ta::tb::tc::td::te::tf::tg::th::ti::tj::tk::tl::tm::tn::tp::tq::tr::ts::tt::tu::tv::tw::tx::ty::tz::tA::tB::tC::tD::tE::tF::tG::tH::tI::tJ::tK::tL::tM::tN::tO::tP::tQ::tR::tS::tT::tU::tV::tW::tX::tY::tZ::q0::q1::q2::q3::q4::q5::q6::q7::q8::q9::qa::qb::qc::qd::qe::qf::qg::qh::qi::qj::qk::ql::qm::qn::qo::qp::qq::qr::qs::qt::qu::qv::qw::qx::qy::qz::qA::qB::qC::v154::v154::uu::qG::qH::qI::qJ::qK::qL::qM::qN::qO::qP::qQ::qR::qS::qT::qU::qV::qW::qX::qY::qZ::z0::z1::z2::z3::z4::z5::z6::z7::z8::z9::za::zb::zc::zd::ze::zf::zg::zh::zi::zj::zk::zl::zm::[]),h155⟩) :=
  (go_op1 xo4_17 xo4_17a rfl rfl rfl (st_no (by kernel_rfl) (st_bm (by kernel_rfl) fun v154 h155 =>
  (go_op1 xo4_17 xo4_17a rfl rfl rfl (st_no (by kernel_rfl) (st_id (v := v154) (H := h155) (by kernel_rfl)
  (go_gdF1 xo4_17 xo4_17a rfl rfl rfl rfl (by kernel_rfl)
  (go_skip1 xo4_17 rfl rfl rfl rfl (by kernel_rfl)
  (go_skip1 xo4_17 rfl rfl rfl rfl (by kernel_rfl)
  (go_skip1 xo4_17 rfl rfl rfl rfl (by kernel_rfl)
  (go_skip1 xo4_17 rfl rfl rfl rfl (by kernel_rfl)
  (go_skip1 xo4_17 rfl rfl rfl rfl (by kernel_rfl)
  (by kernel_rfl))))))
  (st_no (by kernel_rfl) (st_id (v := th) (H := h155) (by kernel_rfl)
  (go_run1 xo4_17 xo4_17a rfl rfl rfl rfl (by kernel_rfl) (st_no (by kernel_rfl) (st_id (v := tb) (H := h155) (by kernel_rfl)
  (go_run1 xo4_17 xo4_17a rfl rfl rfl rfl (by kernel_rfl) (st_no (by kernel_rfl) (st_bm (by kernel_rfl) fun v156 h157 =>
  (go_run1 xo4_17 xo4_17a rfl rfl rfl rfl (by kernel_rfl) (st_no (by kernel_rfl) (st_bm (by kernel_rfl) fun v158 h159 =>
  (go_run1 xo4_17 xo4_17a rfl rfl rfl rfl (by kernel_rfl) (st_no (by kernel_rfl) (st_bm (by kernel_rfl) fun v160 h161 =>
  (go_run1 xo4_17 xo4_17a rfl rfl rfl rfl (by kernel_rfl) (st_no (by kernel_rfl) (st_bm (by kernel_rfl) fun v162 h163 =>
  (by kernel_rfl))))))))))))))))))
  (by kernel_rfl))))))))
theorem xm4_9 (s : Sys) (k wl : Nat) (m0 : Nat) (ac : List Nat × List Nat) (h : Hp) : opsP (xX s 4 wl k false) xg4_2 15 m0 ac (runK (xX s 4 wl k false) (bodyK s.P Try.f4) xk4_5) ⟨(t0::t1::t2::t3::t4::t5::t6::t7::t8::t9::ta::tb::tc::td::te::tf::tg::th::ti::tj::tk::tl::tm::tn::tp::tq::tr::ts::tt::tu::tv::tw::tx::ty::tz::tA::tB::tC::tD::tE::tF::tG::tH::tI::tJ::tK::tL::tM::tN::tO::tP::tQ::tR::tS::tT::tU::tV::tW::tX::tY::tZ::q0::q1::q2::q3::q4::q5::q6::q7::q8::q9::qa::qb::qc::qd::qe::qf::qg::qh::qi::qj::qk::ql::qm::qn::qo::qp::qq::qr::qs::qt::qu::qv::qw::qx::qy::qz::qA::qB::qC::qD::qE::qF::qG::qH::qI::qJ::qK::qL::qM::qN::qO::qP::qQ::qR::qS::qT::qU::qV::qW::qX::qY::qZ::z0::z1::z2::z3::z4::z5::z6::z7::z8::z9::za::zb::zc::zd::ze::zf::zg::zh::zi::zj::zk::zl::zm::[]),h⟩ =
  bm (vPick zi zl (V.lit (Value.bool false))) h fun v164 h165 =>
  some (v164,h165) :=
  (go_op0 rfl rfl (st_bm (by kernel_rfl) fun v164 h165 =>
  (go_op0 rfl rfl (st_id (v := v164) (H := h165) (by kernel_rfl)
  (go_end0 (by kernel_rfl)
  (go_ret (by kernel_rfl)))))))
theorem xm4_10 (s : Sys) (K : Out → St → Option (V × Hp)) (k wl : Nat) (rd : Bool) (n n0 : Nat) (m0 : Nat) (ac : List Nat × List Nat) (h : Hp) : opsP (xX s 4 wl k rd) xg4_3 23 m0 ac (runK (xX s 4 wl k rd) (nextK (xX s 4 wl k rd) xl4_1 n0 K n) xk4_6) ⟨(t0::t1::t2::t3::t4::t5::t6::t7::t8::t9::ta::tb::tc::td::te::tf::tg::th::ti::tj::tk::tl::tm::tn::tp::tq::tr::ts::tt::tu::tv::tw::tx::ty::tz::tA::tB::tC::tD::tE::tF::tG::tH::tI::tJ::tK::tL::tM::tN::tO::tP::tQ::tR::tS::tT::tU::tV::tW::tX::tY::tZ::q0::q1::q2::q3::q4::q5::q6::q7::q8::q9::qa::qb::qc::qd::qe::qf::qg::qh::qi::qj::qk::ql::qm::qn::qo::qp::qq::qr::qs::qt::qu::qv::qw::qx::qy::qz::qA::qB::qC::qD::qE::qF::qG::qH::qI::qJ::qK::qL::qM::qN::qO::qP::qQ::qR::qS::qT::qU::qV::qW::qX::qY::qZ::z0::z1::z2::z3::z4::z5::z6::z7::z8::z9::za::zb::zc::zd::ze::zf::zg::zh::zi::zj::zk::zl::zm::[]),h⟩ =
  bm (vPick qE (V.lit (Value.bool true)) qK) h fun v166 h167 =>
  cnd v166 (
  K .ret ⟨(t0::t1::t2::t3::t4::t5::(V.lit (Value.bool false))::t7::t8::t9::ta::tb::tc::td::te::tf::tg::th::ti::tj::tk::tl::tm::tn::tp::tq::tr::ts::tt::tu::tv::tw::tx::ty::tz::tA::tB::tC::tD::tE::tF::tG::tH::tI::tJ::tK::tL::tM::tN::tO::tP::tQ::tR::tS::tT::tU::tV::tW::tX::tY::tZ::q0::q1::q2::q3::q4::q5::q6::q7::q8::q9::qa::qb::qc::qd::qe::qf::qg::qh::qi::qj::qk::ql::qm::qn::qo::qp::qq::qr::qs::qt::qu::qv::qw::qx::qy::qz::qA::qB::qC::qD::qE::qF::qG::qH::qI::qJ::qK::v166::qM::qN::qO::qP::qQ::qR::qS::qT::qU::qV::qW::qX::qY::qZ::z0::z1::z2::z3::z4::z5::z6::z7::z8::z9::za::zb::zc::zd::ze::zf::zg::zh::zi::zj::zk::zl::zm::[]),h167⟩) (
  bm (vBin s.P .add 3 tb (V.lit (Value.int .i64 1))) h167 fun v168 h169 =>
  bm (vBin s.P .add 3 tg (V.lit (Value.int .i64 1))) h169 fun v170 h171 =>
  itX (xX s 4 wl k rd) xl4_1 n0 K n ⟨((V.kill n0 t0)::(V.kill n0 t1)::(V.kill n0 t2)::(V.kill n0 t3)::(V.kill n0 t4)::(V.kill n0 t5)::(V.kill n0 t6)::(V.kill n0 t7)::(V.kill n0 t8)::(V.kill n0 t9)::(V.kill n0 ta)::(V.kill n0 v168)::(V.kill n0 tc)::(V.kill n0 td)::(V.kill n0 te)::(V.kill n0 tf)::(V.kill n0 v170)::(V.kill n0 th)::(V.kill n0 ti)::(V.kill n0 tj)::(V.kill n0 tk)::(V.kill n0 tl)::(V.kill n0 tm)::(V.kill n0 tn)::(V.kill n0 tp)::(V.kill n0 tq)::(V.kill n0 tr)::(V.kill n0 ts)::(V.kill n0 tt)::(V.kill n0 tu)::(V.kill n0 tv)::(V.kill n0 tw)::(V.kill n0 tx)::(V.kill n0 ty)::(V.kill n0 tz)::(V.kill n0 tA)::(V.kill n0 tB)::(V.kill n0 tC)::(V.kill n0 tD)::(V.kill n0 tE)::(V.kill n0 tF)::(V.kill n0 tG)::(V.kill n0 tH)::(V.kill n0 tI)::(V.kill n0 tJ)::(V.kill n0 tK)::(V.kill n0 tL)::(V.kill n0 tM)::(V.kill n0 tN)::(V.kill n0 tO)::(V.kill n0 tP)::(V.kill n0 tQ)::(V.kill n0 tR)::(V.kill n0 tS)::(V.kill n0 tT)::(V.kill n0 tU)::(V.kill n0 tV)::(V.kill n0 tW)::(V.kill n0 tX)::(V.kill n0 tY)::(V.kill n0 tZ)::(V.kill n0 q0)::(V.kill n0 q1)::(V.kill n0 q2)::(V.kill n0 q3)::(V.kill n0 q4)::(V.kill n0 q5)::.junk::.junk::.junk::.junk::.junk::.junk::.junk::.junk::.junk::.junk::.junk::.junk::.junk::.junk::.junk::.junk::.junk::.junk::.junk::.junk::.junk::.junk::.junk::.junk::.junk::.junk::.junk::.junk::.junk::.junk::.junk::.junk::.junk::.junk::.junk::.junk::.junk::.junk::.junk::.junk::.junk::.junk::.junk::.junk::(V.kill n0 qO)::(V.kill n0 qP)::(V.kill n0 qQ)::(V.kill n0 qR)::(V.kill n0 qS)::(V.kill n0 qT)::(V.kill n0 qU)::(V.kill n0 qV)::(V.kill n0 qW)::(V.kill n0 qX)::(V.kill n0 qY)::(V.kill n0 qZ)::(V.kill n0 z0)::(V.kill n0 z1)::(V.kill n0 z2)::(V.kill n0 z3)::(V.kill n0 z4)::(V.kill n0 z5)::(V.kill n0 z6)::(V.kill n0 z7)::(V.kill n0 z8)::(V.kill n0 z9)::(V.kill n0 za)::(V.kill n0 zb)::(V.kill n0 zc)::(V.kill n0 zd)::(V.kill n0 ze)::(V.kill n0 zf)::(V.kill n0 zg)::(V.kill n0 zh)::(V.kill n0 zi)::(V.kill n0 zj)::(V.kill n0 zk)::(V.kill n0 zl)::(V.kill n0 zm)::[]),cutH n0 h171⟩) :=
  (go_op1 xo4_17 xo4_17a rfl rfl rfl (st_no (by kernel_rfl) (st_bm (by kernel_rfl) fun v166 h167 =>
  (go_end1 xo4_17 (by kernel_rfl) xo4_17a
  (go_cond (by kernel_rfl)
  (go_seq (go_reg0
  (go_op0 rfl rfl (st_id (v := (V.lit (Value.bool false))) (H := h167) (by kernel_rfl)
  (go_end0 (by kernel_rfl)
  (go_ret (rt_seq_ret (rt_block_ret (rt_seq_ret (by kernel_rfl))))))))))
  (go_skip (go_reg0
  (go_op0 rfl rfl (st_id (v := tb) (H := h167) (by kernel_rfl)
  (go_op0 rfl rfl (st_bm (by kernel_rfl) fun v168 h169 =>
  (go_op0 rfl rfl (st_id (v := v168) (H := h169) (by kernel_rfl)
  (go_end0 (by kernel_rfl)
  (rt_block_norm (go_reg0
  (go_op0 rfl rfl (st_id (v := tg) (H := h169) (by kernel_rfl)
  (go_op0 rfl rfl (st_bm (by kernel_rfl) fun v170 h171 =>
  (go_op0 rfl rfl (st_id (v := v170) (H := h171) (by kernel_rfl)
  (go_end0 (by kernel_rfl)
  (by kernel_rfl))))))))))))))))))))))))
theorem xk4_0_ret (cx : Cx) (K : Out → St → Option (V × Hp)) (s : St) : runK cx K xk4_0 .ret s = K .ret s := by kernel_rfl
theorem xk4_1_ret (cx : Cx) (K : Out → St → Option (V × Hp)) (s : St) : runK cx K xk4_1 .ret s = K .ret s := by kernel_rfl
theorem xk4_2_ret (cx : Cx) (K : Out → St → Option (V × Hp)) (s : St) : runK cx K xk4_2 .ret s = K .ret s := by kernel_rfl
theorem xk4_3_ret (cx : Cx) (K : Out → St → Option (V × Hp)) (s : St) : runK cx K xk4_3 .ret s = K .ret s := by kernel_rfl
theorem xk4_4_ret (cx : Cx) (K : Out → St → Option (V × Hp)) (s : St) : runK cx K xk4_4 .ret s = K .ret s := by kernel_rfl
theorem xk4_5_ret (cx : Cx) (K : Out → St → Option (V × Hp)) (s : St) : runK cx K xk4_5 .ret s = K .ret s := by kernel_rfl
theorem xk4_6_ret (cx : Cx) (K : Out → St → Option (V × Hp)) (s : St) : runK cx K xk4_6 .ret s = K .ret s := by kernel_rfl
-- names: xb4,xz4,xm4_0,xm4_1,xm4_2,xr4_0,xj4_3,xm4_4,xj4_5,xr4_1,xj4_6,xm4_7,xm4_8,xm4_9,xm4_10,xk4_0_ret,xk4_1_ret,xk4_2_ret,xk4_3_ret,xk4_4_ret,xk4_5_ret,xk4_6_ret
end Go.Ab
